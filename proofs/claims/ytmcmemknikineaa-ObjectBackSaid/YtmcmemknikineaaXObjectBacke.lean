/- Walks. -/
import Derived.Test.YtmcmemknikineaaXObjectBacka
import Derived.Test.YtmcmemknikineaaXObjectBackb
import Derived.Test.YtmcmemknikineaaXObjectBackc
import Derived.Test.YtmcmemknikineaaXObjectBackd
set_option linter.unusedVariables false
set_option linter.unusedSimpArgs false
set_option maxHeartbeats 8000000
set_option maxRecDepth 100000
namespace Go.Proofs.Ytmcmemknikineaa.P
open Go.RowKit YtmcmemknikineaaW.PrintWords YtmcmemknikineaaW.PrintLast YtmcmemknikineaaW.PrintMore
open YtmcmemknikineaaW.PrintWords renaming below_alloc → YA, pw_below_drewN → YB, below_drew1 → YC, below_step → YD, below_size → YE, blk_drewN → YF, blk_drew → YG, blk_alloc → YH, blk_cell → YI, blk_frozen → YJ, blk_below → YK
open YtmcmemknikineaaW.PrintWords.Aside0 renaming mk → YL
open List renaming setIfInBounds_toArray → YM, set_cons_zero → YN, set_cons_succ → YO, map_toArray → YP, length_take → YQ, length_drop → YR
open YtmcmemknikineaaW.PrintWords.Kd renaming R_alloc → YS, R_drewN → YT, R_drew → YU, R_below → YV
attribute [local go_sem] max2_int min2_int max_two min_two max_three min_three max_four min_four
attribute [local go_sem high] eqA27
mutual
def thalweglaw04_ObjectBack.j0 : Nat → List Int → List Int → Bool → Int → Int → Bool → Int → Int → Int → Int → Int → Int → Int → Int → Int → Option (Bool)
 | 0, _, _, _, _, _, _, _, _, _, _, _, _, _, _, _ => none
 | k + 1, x1, x2, x24, x337000, x337001, x337002, x337003, x337004, x337005, x337006, x337007, x337008, x337009, x337010, x337011 => if x24 = true then (some true) else ((object_Parse.f x2 0).bind fun bt337 => ((object_Bytes.f k bt337.1 bt337.2.1 bt337.2.2.1 bt337.2.2.2.1 bt337.2.2.2.2.1 bt337.2.2.2.2.2.1 bt337.2.2.2.2.2.2.1 bt337.2.2.2.2.2.2.2.1 bt337.2.2.2.2.2.2.2.2.1 bt337.2.2.2.2.2.2.2.2.2.1 bt337.2.2.2.2.2.2.2.2.2.2.1 bt337.2.2.2.2.2.2.2.2.2.2.2.1).bind fun bt352 => (if bt337.2.2.2.2.2.2.2.2.2.2.2.2.2 = 0 then (if bt352.2 = bt337.2.2.2.2.2.2.2.2.2.2.2.2.2 then (if bt337.2.2.2.2.2.2.2.2.2.2.2.2.1 < 2 then (thalweglaw04_ObjectBack.j1 k x1 x2 true x337000 x337001 x337002 x337003 x337004 x337005 x337006 x337007 x337008 x337009 x337010 x337011) else (if bt337.2.2.2.2.2.2.2.2.2.2.2.2.1 > (x2.length : Int) then (thalweglaw04_ObjectBack.j1 k x1 x2 true x337000 x337001 x337002 x337003 x337004 x337005 x337006 x337007 x337008 x337009 x337010 x337011) else (if 0 ≤ bt337.2.2.2.2.2.2.2.2.2.2.2.2.1 then (if bt337.2.2.2.2.2.2.2.2.2.2.2.2.1 ≤ (x2.length : Int) then (if (strOfNums bt352.1).toList = (strOfNums (x2.take (bt337.2.2.2.2.2.2.2.2.2.2.2.2.1 : Int).toNat)).toList then ((object_Size.f k bt337.1 bt337.2.1 bt337.2.2.1 bt337.2.2.2.1 bt337.2.2.2.2.1 bt337.2.2.2.2.2.1 bt337.2.2.2.2.2.2.1 bt337.2.2.2.2.2.2.2.1 bt337.2.2.2.2.2.2.2.2.1 bt337.2.2.2.2.2.2.2.2.2.1 bt337.2.2.2.2.2.2.2.2.2.2.1 bt337.2.2.2.2.2.2.2.2.2.2.2.1).bind fun t361 => (thalweglaw04_ObjectBack.j1 k x1 x2 (t361 != bt337.2.2.2.2.2.2.2.2.2.2.2.2.1) x337000 x337001 x337002 x337003 x337004 x337005 x337006 x337007 x337008 x337009 x337010 x337011)) else (thalweglaw04_ObjectBack.j1 k x1 x2 true x337000 x337001 x337002 x337003 x337004 x337005 x337006 x337007 x337008 x337009 x337010 x337011)) else (none)) else (none)))) else (thalweglaw04_ObjectBack.j1 k x1 x2 true x337000 x337001 x337002 x337003 x337004 x337005 x337006 x337007 x337008 x337009 x337010 x337011)) else (thalweglaw04_ObjectBack.j1 k x1 x2 false x337000 x337001 x337002 x337003 x337004 x337005 x337006 x337007 x337008 x337009 x337010 x337011))))
def thalweglaw04_ObjectBack.j1 : Nat → List Int → List Int → Bool → Int → Int → Bool → Int → Int → Int → Int → Int → Int → Int → Int → Int → Option (Bool)
 | 0, _, _, _, _, _, _, _, _, _, _, _, _, _, _, _ => none
 | k + 1, x1, x2, x67, x337000, x337001, x337002, x337003, x337004, x337005, x337006, x337007, x337008, x337009, x337010, x337011 => if x67 = true then (none) else ((object_Bytes.f k x337000 x337001 x337002 x337003 x337004 x337005 x337006 x337007 x337008 x337009 x337010 x337011).bind fun bt362 => ((thalwegref01_Both.f k (([x1, bt362.1, x2] : List (List Int)))).bind fun t369 => ((object_Parse.f t369 (x1.length : Int)).bind fun bt372 => (if bt362.2 = 0 then ((thalweglaw04_awake.f k).bind fun t387 => (if t387 = true then (if bt372.2.2.2.2.2.2.2.2.2.2.2.2.2 = 0 then (if (bt372.1 == x337000 && (bt372.2.1 == x337001 && ((bt372.2.2.1 == x337002 && (bt372.2.2.2.1 == x337003 && (bt372.2.2.2.2.1 == x337004 && (bt372.2.2.2.2.2.1 == x337005 && (bt372.2.2.2.2.2.2.1 == x337006 && (bt372.2.2.2.2.2.2.2.1 == x337007)))))) && ((bt372.2.2.2.2.2.2.2.2.1 == x337008 && (bt372.2.2.2.2.2.2.2.2.2.1 == x337009 && (bt372.2.2.2.2.2.2.2.2.2.2.1 == x337010))) && (bt372.2.2.2.2.2.2.2.2.2.2.2.1 == x337011))))) = true then (some (bt372.2.2.2.2.2.2.2.2.2.2.2.2.1 == (wrap64 ((x1.length : Int) + (bt362.1.length : Int))))) else (none)) else (none)) else (none))) else ((thalweglaw04_awake.f k).bind fun t388 => (if t388 = true then (if (bt362.1.length : Int) = 0 then ((object_Size.f k x337000 x337001 x337002 x337003 x337004 x337005 x337006 x337007 x337008 x337009 x337010 x337011).bind fun t389 => (some (t389 == 0))) else (none)) else (none)))))))
end
def thalweglaw04_ObjectBack.f (k : Nat) (a0_0 : Int) (a0_1 : Int) (a0_2 : Bool) (a0_3 : Int) (a0_4 : Int) (a0_5 : Int) (a0_6 : Int) (a0_7 : Int) (a0_8 : Int) (a0_9 : Int) (a0_10 : Int) (a0_11 : Int) (l1 : List Int) (l2 : List Int) : Option (Bool) := if (l1.length : Int) > 200 then (thalweglaw04_ObjectBack.j0 k l1 l2 true a0_0 a0_1 a0_2 a0_3 a0_4 a0_5 a0_6 a0_7 a0_8 a0_9 a0_10 a0_11) else (thalweglaw04_ObjectBack.j0 k l1 l2 (decide ((l2.length : Int) > 200)) a0_0 a0_1 a0_2 a0_3 a0_4 a0_5 a0_6 a0_7 a0_8 a0_9 a0_10 a0_11)
def thalweglaw04_ObjectBack.T5 : Bool × List (List Nat × List Nat) := (true, [([], []), ([0], [0]), ([1], [1]), ([2], [2]), ([2], [2]), ([3, 4, 2], [2, 3, 4]), ([5, 2, 2], [2, 5]), ([6], [6]), ([7, 6], [6, 7]), ([6, 8, 2], [2, 6, 8]), ([9, 6, 2], [2, 9]), ([10], [10]), ([10], [10]), ([12, 10], [10, 12]), ([11, 13, 10], [10, 11, 13]), ([10, 14, 2], [2, 10, 14]), ([15, 10, 2], [2, 15]), ([16], [16]), ([17, 16], [16, 17]), ([16], [16]), ([16], [16]), ([19, 20, 16], [16, 19, 20]), ([21, 16], [16, 21]), ([18, 22, 16], [16, 18, 22]), ([16, 23, 2], [2, 16, 23]), ([24, 16, 2], [2, 24]), ([25], [25]), ([26, 25, 25], [25, 26]), ([25], [25]), ([27, 28, 25], [25, 27, 28]), ([25, 29, 2], [2, 25, 29]), ([2, 30], [2, 30])])
def thalweglaw04_ObjectBack.B5 : List Nat := [0, 1, 3, 7, 7, 31, 63, 127, 255, 511, 1023, 2047, 2047, 6143, 16383, 32767, 65535, 131071, 262143, 131071, 131071, 1703935, 3801087, 8388607, 16777215, 33554431, 67108863, 134217727, 67108863, 536870911, 1073741823, 2147483647]
theorem thalweglaw04_ObjectBack.tab5 : rtab .any (opsOf Try.f6 5) = thalweglaw04_ObjectBack.T5 := by kernel_rfl
theorem thalweglaw04_ObjectBack.bits5 : waitsOk thalweglaw04_ObjectBack.T5.2 thalweglaw04_ObjectBack.B5 = true := by kernel_rfl
theorem thalweglaw04_ObjectBack.calls (k : Nat) (a0_0 : Int) (a0_1 : Int) (a0_2 : Bool) (a0_3 : Int) (a0_4 : Int) (a0_5 : Int) (a0_6 : Int) (a0_7 : Int) (a0_8 : Int) (a0_9 : Int) (a0_10 : Int) (a0_11 : Int) (P1_ : Nat → Prop) (A1 : Option Addr) (c1 : Nat) (l1 : List Int) (P2_ : Nat → Prop) (A2 : Option Addr) (c2 : Nat) (l2 : List Int) (r : Bool) (w : World) (hs1 : Kd.V (Kd.int .u8) 5 w w.heap.size (fun k_ => P1_ k_) (.slice A1 l1.length c1) l1) (hs2 : Kd.V (Kd.int .u8) 5 w w.heap.size (fun k_ => P2_ k_) (.slice A2 l2.length c2) l2) (h : thalweglaw04_ObjectBack.f k a0_0 a0_1 a0_2 a0_3 a0_4 a0_5 a0_6 a0_7 a0_8 a0_9 a0_10 a0_11 l1 l2 = some r) :
  Calls Try.prog 6 #[.agg #[.int .i64 a0_0, .int .i64 a0_1, .bool a0_2, .int .i64 a0_3, .int .i64 a0_4, .int .i64 a0_5, .int .i64 a0_6, .int .i64 a0_7, .int .i64 a0_8, .int .i64 a0_9, .int .i64 a0_10, .int .i64 a0_11], .slice A1 l1.length c1, .slice A2 l2.length c2] w fun e w' => e = .returned (.bool r) ∧ Below w.heap.size w w' := by
 have hu27 := Try.underlying27
 have HO1 := YL (show Kd.V (Kd.int .u8) 5 w w.heap.size (fun k_ => ((P1_ k_ ∨ P2_ k_) ∨ w.heap.size ≤ k_)) (.slice A1 l1.length c1) l1 from Kd.V_mono hs1 (fun k_ hk => .inl (.inl hk)))
 have HO2 := YL (show Kd.V (Kd.int .u8) 5 w w.heap.size (fun k_ => ((P1_ k_ ∨ P2_ k_) ∨ w.heap.size ≤ k_)) (.slice A2 l2.length c2) l2 from Kd.V_mono hs2 (fun k_ hk => .inl (.inr hk)))
 have HB := YL (Below.refl w.heap.size w)
 have H : (if (l1.length : Int) > 200 then (thalweglaw04_ObjectBack.j0 k l1 l2 true a0_0 a0_1 a0_2 a0_3 a0_4 a0_5 a0_6 a0_7 a0_8 a0_9 a0_10 a0_11) else (thalweglaw04_ObjectBack.j0 k l1 l2 (decide ((l2.length : Int) > 200)) a0_0 a0_1 a0_2 a0_3 a0_4 a0_5 a0_6 a0_7 a0_8 a0_9 a0_10 a0_11)) = some r := h
 clear h; have HC4 := YL H; clear H
 go_enter Try.func6, Try.ntmps6
 go_upto_region 1 with (first | ((with_reducible refine gate_dst (N := 3) rfl ?_); (try (refine gate_guard (by rfl) ?_; dsimp only)); refine box_event ?hg (N := 3) ?hd (cs := #[.int .i64 a0_0, .int .i64 a0_1, .bool a0_2, .int .i64 a0_3, .int .i64 a0_4, .int .i64 a0_5, .int .i64 a0_6, .int .i64 a0_7, .int .i64 a0_8, .int .i64 a0_9, .int .i64 a0_10, .int .i64 a0_11]) (t := 27) ?hr ?_; (case hd => rfl); (case hg => rfl); (case hr => first | (go_simp; done) | (go_simp; rfl)); intro gb336 hg w5 hbox hb; have n0_ := YL (Kd.V_below (Kd.V_elderB (by (with_reducible repeat (first | apply Kd.V_alloc | apply Kd.V_drewN | apply Kd.V_drew)); exact HO1.out) gb336 (Nat.le_of_eq hg.symm)) hb); have n1_ := YL (Kd.V_below (Kd.V_elderB (by (with_reducible repeat (first | apply Kd.V_alloc | apply Kd.V_drewN | apply Kd.V_drew)); exact HO2.out) gb336 (Nat.le_of_eq hg.symm)) hb); have n2_ := YL (YD (by repeat (first | (with_reducible first | exact HB.out | apply YA | apply YB | apply YC) | exact HB.out)) hb); have n3_ := YL (hbox); have n4_ := YL ((by rw [hg]; exact (YE (by repeat (first | (with_reducible first | exact HB.out | apply YA | apply YB | apply YC) | exact HB.out))) : w.heap.size ≤ gb336)); have n5_ := YL ((by rw [hg]; exact (YE (by repeat (first | (with_reducible first | exact HB.out | apply YA | apply YB | apply YC) | exact HB.out))) : w.heap.size ≤ gb336)); clear HO1; clear HO2; clear HB; have HO1 := n0_; have HO2 := n1_; have HB := n2_; have BK336 := n3_; have GW336 := n4_; have GE336 := n5_; clear n0_ n1_ n2_ n3_ n4_ n5_; clear hb hbox hg))
 (try simp only [Act.put, YM, YN, YO])
 go_cut [24] (fun v24 wc => ∃ (kq : Nat) (x24_3 : Bool), v24 = .bool x24_3 ∧ Aside0 (thalweglaw04_ObjectBack.j0 kq l1 l2 x24_3 a0_0 a0_1 a0_2 a0_3 a0_4 a0_5 a0_6 a0_7 a0_8 a0_9 a0_10 a0_11 = some r) ∧ Aside0 (kq ≤ k) ∧ Aside0 (Kd.V (Kd.int .u8) 5 wc w.heap.size (fun k_ => ((P1_ k_ ∨ P2_ k_) ∨ w.heap.size ≤ k_) ∧ k_ ≠ gb336) (.slice A1 l1.length c1) l1) ∧ Aside0 (Kd.V (Kd.int .u8) 5 wc w.heap.size (fun k_ => ((P1_ k_ ∨ P2_ k_) ∨ w.heap.size ≤ k_) ∧ k_ ≠ gb336) (.slice A2 l2.length c2) l2) ∧ Aside0 (wc.heap[gb336]? = some (.cells #[.int .i64 a0_0, .int .i64 a0_1, .bool a0_2, .int .i64 a0_3, .int .i64 a0_4, .int .i64 a0_5, .int .i64 a0_6, .int .i64 a0_7, .int .i64 a0_8, .int .i64 a0_9, .int .i64 a0_10, .int .i64 a0_11] 27 (0, 0))) ∧ Aside0 (Below w.heap.size w wc))
 case first =>
  have H := HC4.out
  clear HC4
  by_cases c6 : (l1.length : Int) > 200
  ·rw [if_pos c6] at H
   have c6b0 : decide (200 < (l1.length : Int)) = true := decide_eq_true c6
   have c6b1 : decide (200 < l1.length) = true := decide_eq_true (by omega)
   clear c6
   (first | rw [c6b0] | (simp only [i64_w, i32_w]; rw [c6b0]) | rw [c6b1] | skip)
   have H' := YL H
   clear H
   go_wp2
   go_meet
   case rel => exact ⟨_, (true), (by first | rfl | (simp; done) | (simp [*]; done)), H', ⟨by first | omega | exact Nat.le_refl _⟩, ⟨by (with_reducible repeat (first | apply Kd.V_alloc | apply Kd.V_drewN | apply Kd.V_drew)); exact HO1.out⟩, ⟨by (with_reducible repeat (first | apply Kd.V_alloc | apply Kd.V_drewN | apply Kd.V_drew)); exact HO2.out⟩, ⟨by (with_reducible repeat (first | refine YF ?_ _ | refine YG ?_ | refine YH ?_ _)); exact BK336.out⟩, ⟨by repeat (first | (with_reducible first | exact HB.out | apply YA | apply YB | apply YC | refine below_set ?_ GE336.out) | exact HB.out)⟩⟩
  rw [if_neg c6] at H
  have c6b0 : decide (200 < (l1.length : Int)) = false := decide_eq_false c6
  have c6b1 : decide (200 < l1.length) = false := decide_eq_false (by omega)
  clear c6
  (first | rw [c6b0] | (simp only [i64_w, i32_w]; rw [c6b0]) | rw [c6b1] | skip)
  have H' := YL H
  clear H
  go_wp2
  go_meet
  case rel => exact ⟨_, (decide ((l2.length : Int) > 200)), (by first | rfl | (simp; done) | (simp [*]; done)), H', ⟨by first | omega | exact Nat.le_refl _⟩, ⟨by (with_reducible repeat (first | apply Kd.V_alloc | apply Kd.V_drewN | apply Kd.V_drew)); exact HO1.out⟩, ⟨by (with_reducible repeat (first | apply Kd.V_alloc | apply Kd.V_drewN | apply Kd.V_drew)); exact HO2.out⟩, ⟨by (with_reducible repeat (first | refine YF ?_ _ | refine YG ?_ | refine YH ?_ _)); exact BK336.out⟩, ⟨by repeat (first | (with_reducible first | exact HB.out | apply YA | apply YB | apply YC | refine below_set ?_ GE336.out) | exact HB.out)⟩⟩
 case rest =>
  clear HC4
  try clear c1; try clear c2
  try clear p2; try clear c6
  try clear c6b0; try clear c6b1
  obtain ⟨kq, x24_3, rfl, HA, HJ3, HO_1, HO_2, BK336, HB⟩ := hcut
  cases kq with
  | zero => exact absurd HA.out (by simp [thalweglaw04_ObjectBack.j0])
  | succ kj3 =>
   have H := HA.out
   clear HA
   simp only [thalweglaw04_ObjectBack.j0] at H
   by_cases c7 : x24_3 = true
   ·subst c7
    have H1 : (some true) = some r := by rw [if_pos rfl] at H; exact H
    clear H
    have H := H1
    clear H1
    obtain rfl := Option.some.inj H
    go_wp2
    go_ret
    exact ⟨by first | rfl | (simp [errW_none, errW_some] <;> rfl) | (simp [*, errW_none, errW_some] <;> rfl), by repeat (first | (with_reducible first | exact HB.out | apply YA | apply YB | apply YC | refine below_set ?_ GE336.out) | exact HB.out)⟩
   replace c7 := Bool.eq_false_iff.mpr c7
   subst c7
   have H1 : ((object_Parse.f l2 0).bind fun bt337 => ((object_Bytes.f kj3 bt337.1 bt337.2.1 bt337.2.2.1 bt337.2.2.2.1 bt337.2.2.2.2.1 bt337.2.2.2.2.2.1 bt337.2.2.2.2.2.2.1 bt337.2.2.2.2.2.2.2.1 bt337.2.2.2.2.2.2.2.2.1 bt337.2.2.2.2.2.2.2.2.2.1 bt337.2.2.2.2.2.2.2.2.2.2.1 bt337.2.2.2.2.2.2.2.2.2.2.2.1).bind fun bt352 => (if bt337.2.2.2.2.2.2.2.2.2.2.2.2.2 = 0 then (if bt352.2 = bt337.2.2.2.2.2.2.2.2.2.2.2.2.2 then (if bt337.2.2.2.2.2.2.2.2.2.2.2.2.1 < 2 then (thalweglaw04_ObjectBack.j1 kj3 l1 l2 true a0_0 a0_1 a0_2 a0_3 a0_4 a0_5 a0_6 a0_7 a0_8 a0_9 a0_10 a0_11) else (if bt337.2.2.2.2.2.2.2.2.2.2.2.2.1 > (l2.length : Int) then (thalweglaw04_ObjectBack.j1 kj3 l1 l2 true a0_0 a0_1 a0_2 a0_3 a0_4 a0_5 a0_6 a0_7 a0_8 a0_9 a0_10 a0_11) else (if 0 ≤ bt337.2.2.2.2.2.2.2.2.2.2.2.2.1 then (if bt337.2.2.2.2.2.2.2.2.2.2.2.2.1 ≤ (l2.length : Int) then (if (strOfNums bt352.1).toList = (strOfNums (l2.take (bt337.2.2.2.2.2.2.2.2.2.2.2.2.1 : Int).toNat)).toList then ((object_Size.f kj3 bt337.1 bt337.2.1 bt337.2.2.1 bt337.2.2.2.1 bt337.2.2.2.2.1 bt337.2.2.2.2.2.1 bt337.2.2.2.2.2.2.1 bt337.2.2.2.2.2.2.2.1 bt337.2.2.2.2.2.2.2.2.1 bt337.2.2.2.2.2.2.2.2.2.1 bt337.2.2.2.2.2.2.2.2.2.2.1 bt337.2.2.2.2.2.2.2.2.2.2.2.1).bind fun t361 => (thalweglaw04_ObjectBack.j1 kj3 l1 l2 (t361 != bt337.2.2.2.2.2.2.2.2.2.2.2.2.1) a0_0 a0_1 a0_2 a0_3 a0_4 a0_5 a0_6 a0_7 a0_8 a0_9 a0_10 a0_11)) else (thalweglaw04_ObjectBack.j1 kj3 l1 l2 true a0_0 a0_1 a0_2 a0_3 a0_4 a0_5 a0_6 a0_7 a0_8 a0_9 a0_10 a0_11)) else (none)) else (none)))) else (thalweglaw04_ObjectBack.j1 kj3 l1 l2 true a0_0 a0_1 a0_2 a0_3 a0_4 a0_5 a0_6 a0_7 a0_8 a0_9 a0_10 a0_11)) else (thalweglaw04_ObjectBack.j1 kj3 l1 l2 false a0_0 a0_1 a0_2 a0_3 a0_4 a0_5 a0_6 a0_7 a0_8 a0_9 a0_10 a0_11)))) = some r := by rw [if_neg (show ¬ (false = true) by decide)] at H; exact H
   clear H
   have H := H1
   clear H1; replace H := Option.bind_eq_some_iff.mp H
   obtain ⟨⟨t337, t338, t339, t340, t341, t342, t343, t344, t345, t346, t347, t348, t349, t350⟩, A80, H⟩ := H
   replace H : ((object_Bytes.f kj3 t337 t338 t339 t340 t341 t342 t343 t344 t345 t346 t347 t348).bind fun bt352 => (if t350 = 0 then (if bt352.2 = t350 then (if t349 < 2 then (thalweglaw04_ObjectBack.j1 kj3 l1 l2 true a0_0 a0_1 a0_2 a0_3 a0_4 a0_5 a0_6 a0_7 a0_8 a0_9 a0_10 a0_11) else (if t349 > (l2.length : Int) then (thalweglaw04_ObjectBack.j1 kj3 l1 l2 true a0_0 a0_1 a0_2 a0_3 a0_4 a0_5 a0_6 a0_7 a0_8 a0_9 a0_10 a0_11) else (if 0 ≤ t349 then (if t349 ≤ (l2.length : Int) then (if (strOfNums bt352.1).toList = (strOfNums (l2.take (t349 : Int).toNat)).toList then ((object_Size.f kj3 t337 t338 t339 t340 t341 t342 t343 t344 t345 t346 t347 t348).bind fun t361 => (thalweglaw04_ObjectBack.j1 kj3 l1 l2 (t361 != t349) a0_0 a0_1 a0_2 a0_3 a0_4 a0_5 a0_6 a0_7 a0_8 a0_9 a0_10 a0_11)) else (thalweglaw04_ObjectBack.j1 kj3 l1 l2 true a0_0 a0_1 a0_2 a0_3 a0_4 a0_5 a0_6 a0_7 a0_8 a0_9 a0_10 a0_11)) else (none)) else (none)))) else (thalweglaw04_ObjectBack.j1 kj3 l1 l2 true a0_0 a0_1 a0_2 a0_3 a0_4 a0_5 a0_6 a0_7 a0_8 a0_9 a0_10 a0_11)) else (thalweglaw04_ObjectBack.j1 kj3 l1 l2 false a0_0 a0_1 a0_2 a0_3 a0_4 a0_5 a0_6 a0_7 a0_8 a0_9 a0_10 a0_11))) = some r := H
   have A8 := YL A80; clear A80; replace H := Option.bind_eq_some_iff.mp H
   obtain ⟨⟨t352, t355⟩, A90, H⟩ := H
   replace H : (if t350 = 0 then (if t355 = t350 then (if t349 < 2 then (thalweglaw04_ObjectBack.j1 kj3 l1 l2 true a0_0 a0_1 a0_2 a0_3 a0_4 a0_5 a0_6 a0_7 a0_8 a0_9 a0_10 a0_11) else (if t349 > (l2.length : Int) then (thalweglaw04_ObjectBack.j1 kj3 l1 l2 true a0_0 a0_1 a0_2 a0_3 a0_4 a0_5 a0_6 a0_7 a0_8 a0_9 a0_10 a0_11) else (if 0 ≤ t349 then (if t349 ≤ (l2.length : Int) then (if (strOfNums t352).toList = (strOfNums (l2.take (t349 : Int).toNat)).toList then ((object_Size.f kj3 t337 t338 t339 t340 t341 t342 t343 t344 t345 t346 t347 t348).bind fun t361 => (thalweglaw04_ObjectBack.j1 kj3 l1 l2 (t361 != t349) a0_0 a0_1 a0_2 a0_3 a0_4 a0_5 a0_6 a0_7 a0_8 a0_9 a0_10 a0_11)) else (thalweglaw04_ObjectBack.j1 kj3 l1 l2 true a0_0 a0_1 a0_2 a0_3 a0_4 a0_5 a0_6 a0_7 a0_8 a0_9 a0_10 a0_11)) else (none)) else (none)))) else (thalweglaw04_ObjectBack.j1 kj3 l1 l2 true a0_0 a0_1 a0_2 a0_3 a0_4 a0_5 a0_6 a0_7 a0_8 a0_9 a0_10 a0_11)) else (thalweglaw04_ObjectBack.j1 kj3 l1 l2 false a0_0 a0_1 a0_2 a0_3 a0_4 a0_5 a0_6 a0_7 a0_8 a0_9 a0_10 a0_11)) = some r := H
   have A9 := YL A90; clear A90; have HC10 := YL H; clear H
   go_upto_region 5 with (first | ((with_reducible refine gate_callee (f := 13) rfl ?_); refine goesL_ (some 27) rfl rfl Try.func13 (by kernel_rfl) rfl #[.slice A2 l2.length c2, .int .i64 0] rfl (by (try simp only [YP, List.map_cons, List.map_nil]); first | done | rfl | (simp only [YR, YQ]; rfl)) ?_; (with_reducible refine (object_Parse.calls _ _ l2 0 t337 t338 t339 t340 t341 t342 t343 t344 t345 t346 t347 t348 t349 t350 _ ?side1 ?side2 A8.out).mono ?_); (case side1 => repeat (first | exact (Kd.V_reads' HO_2.out).2.2 | (with_reducible refine Kd.C_alloc ?_ _) | (with_reducible refine Kd.C_drewN ?_ _) | (with_reducible refine Kd.C_drew ?_))); (case side2 => exact (Kd.V_reads' HO_2.out).2.1); rintro e w11 ⟨rfl, hb⟩; refine ⟨_, rfl, ?_⟩; have n0_ := YL (Kd.V_below (by (with_reducible repeat (first | apply Kd.V_alloc | apply Kd.V_drewN | apply Kd.V_drew)); exact HO_1.out) hb); have n1_ := YL (Kd.V_below (by (with_reducible repeat (first | apply Kd.V_alloc | apply Kd.V_drewN | apply Kd.V_drew)); exact HO_2.out) hb); have n2_ := YL (YK (g := gb336) (o := .cells #[.int .i64 a0_0, .int .i64 a0_1, .bool a0_2, .int .i64 a0_3, .int .i64 a0_4, .int .i64 a0_5, .int .i64 a0_6, .int .i64 a0_7, .int .i64 a0_8, .int .i64 a0_9, .int .i64 a0_10, .int .i64 a0_11] 27 (0, 0)) (by (with_reducible repeat (first | refine YF ?_ _ | refine YG ?_ | refine YH ?_ _)); exact BK336.out) hb); have n3_ := YL (YD (by repeat (first | (with_reducible first | exact HB.out | apply YA | apply YB | apply YC | refine below_set ?_ GE336.out) | exact HB.out)) hb); clear HO_1; clear HO_2; clear BK336; clear HB; have HO_1 := n0_; have HO_2 := n1_; have BK336 := n2_; have HB := n3_; clear n0_ n1_ n2_ n3_; (try clear hb); (try clear hb2); (try clear hk); (try clear hi)) | ((with_reducible refine gate_dst (N := 7) rfl ?_); (try (refine gate_guard (by rfl) ?_; dsimp only)); refine box_event ?hg (N := 7) ?hd (cs := #[.int .i64 0, .int .i64 0, .bool false, .int .i64 0, .int .i64 0, .int .i64 0, .int .i64 0, .int .i64 0, .int .i64 0, .int .i64 0, .int .i64 0, .int .i64 0]) (t := 27) ?hr ?_; (case hd => rfl); (case hg => rfl); (case hr => first | (go_simp; done) | (go_simp; rfl)); intro gb351 hg w12 hbox hb; have n0_ := YL (Kd.V_below (Kd.V_elderB (by (with_reducible repeat (first | apply Kd.V_alloc | apply Kd.V_drewN | apply Kd.V_drew)); exact HO_1.out) gb351 (Nat.le_of_eq hg.symm)) hb); have n1_ := YL (Kd.V_below (Kd.V_elderB (by (with_reducible repeat (first | apply Kd.V_alloc | apply Kd.V_drewN | apply Kd.V_drew)); exact HO_2.out) gb351 (Nat.le_of_eq hg.symm)) hb); have n2_ := YL (YK (g := gb336) (o := .cells #[.int .i64 a0_0, .int .i64 a0_1, .bool a0_2, .int .i64 a0_3, .int .i64 a0_4, .int .i64 a0_5, .int .i64 a0_6, .int .i64 a0_7, .int .i64 a0_8, .int .i64 a0_9, .int .i64 a0_10, .int .i64 a0_11] 27 (0, 0)) (by (with_reducible repeat (first | refine YF ?_ _ | refine YG ?_ | refine YH ?_ _)); exact BK336.out) hb); have n3_ := YL (YD (by repeat (first | (with_reducible first | exact HB.out | apply YA | apply YB | apply YC | refine below_set ?_ GE336.out) | exact HB.out)) hb); have n4_ := YL (hbox); have n5_ := YL ((by rw [hg]; exact (YE (by repeat (first | (with_reducible first | exact HB.out | apply YA | apply YB | apply YC | refine below_set ?_ GE336.out) | exact HB.out))) : w.heap.size ≤ gb351)); have n6_ := YL ((by rw [hg]; exact (YE (by repeat (first | (with_reducible first | exact HB.out | apply YA | apply YB | apply YC | refine below_set ?_ GE336.out) | exact HB.out))) : w.heap.size ≤ gb351)); have n7_ := YL ((by rw [hg]; exact Nat.ne_of_lt (blk_lt (g := gb336) (o := .cells #[.int .i64 a0_0, .int .i64 a0_1, .bool a0_2, .int .i64 a0_3, .int .i64 a0_4, .int .i64 a0_5, .int .i64 a0_6, .int .i64 a0_7, .int .i64 a0_8, .int .i64 a0_9, .int .i64 a0_10, .int .i64 a0_11] 27 (0, 0)) (by (with_reducible repeat (first | refine YF ?_ _ | refine YG ?_ | refine YH ?_ _)); exact BK336.out)) : gb336 ≠ gb351)); have n8_ := YL ((by rw [hg]; exact Nat.ne_of_gt (blk_lt (g := gb336) (o := .cells #[.int .i64 a0_0, .int .i64 a0_1, .bool a0_2, .int .i64 a0_3, .int .i64 a0_4, .int .i64 a0_5, .int .i64 a0_6, .int .i64 a0_7, .int .i64 a0_8, .int .i64 a0_9, .int .i64 a0_10, .int .i64 a0_11] 27 (0, 0)) (by (with_reducible repeat (first | refine YF ?_ _ | refine YG ?_ | refine YH ?_ _)); exact BK336.out)) : gb351 ≠ gb336)); clear HO_1; clear HO_2; clear BK336; clear HB; have HO_1 := n0_; have HO_2 := n1_; have BK336 := n2_; have HB := n3_; have BK351 := n4_; have GW351 := n5_; have GE351 := n6_; have NB336_351 := n7_; have NB351_336 := n8_; clear n0_ n1_ n2_ n3_ n4_ n5_ n6_ n7_ n8_; clear hb hbox hg; have hnb13 := NB351_336.out; have hnc13 := NB336_351.out; have q14_0 : w12.cell? ⟨gb351, 0, none⟩ = some (.int .i64 0) := (YI BK351.out 0).trans rfl; have q14_1 : w12.cell? ⟨gb351, 1, none⟩ = some (.int .i64 0) := (YI BK351.out 1).trans rfl; have q14_2 : w12.cell? ⟨gb351, 2, none⟩ = some (.bool false) := (YI BK351.out 2).trans rfl; have q14_3 : w12.cell? ⟨gb351, 3, none⟩ = some (.int .i64 0) := (YI BK351.out 3).trans rfl; have q14_4 : w12.cell? ⟨gb351, 4, none⟩ = some (.int .i64 0) := (YI BK351.out 4).trans rfl; have q14_5 : w12.cell? ⟨gb351, 5, none⟩ = some (.int .i64 0) := (YI BK351.out 5).trans rfl; have q14_6 : w12.cell? ⟨gb351, 6, none⟩ = some (.int .i64 0) := (YI BK351.out 6).trans rfl; have q14_7 : w12.cell? ⟨gb351, 7, none⟩ = some (.int .i64 0) := (YI BK351.out 7).trans rfl; have q14_8 : w12.cell? ⟨gb351, 8, none⟩ = some (.int .i64 0) := (YI BK351.out 8).trans rfl; have q14_9 : w12.cell? ⟨gb351, 9, none⟩ = some (.int .i64 0) := (YI BK351.out 9).trans rfl; have q14_10 : w12.cell? ⟨gb351, 10, none⟩ = some (.int .i64 0) := (YI BK351.out 10).trans rfl; have q14_11 : w12.cell? ⟨gb351, 11, none⟩ = some (.int .i64 0) := (YI BK351.out 11).trans rfl; have f14_0 := YJ BK351.out 0; have f14_1 := YJ BK351.out 1; have f14_2 := YJ BK351.out 2; have f14_3 := YJ BK351.out 3; have f14_4 := YJ BK351.out 4; have f14_5 := YJ BK351.out 5; have f14_6 := YJ BK351.out 6; have f14_7 := YJ BK351.out 7; have f14_8 := YJ BK351.out 8; have f14_9 := YJ BK351.out 9; have f14_10 := YJ BK351.out 10; have f14_11 := YJ BK351.out 11) | ((with_reducible refine gate_callee (f := 7) rfl ?_); refine goesL_ (some 33) rfl rfl Try.func7 (by kernel_rfl) rfl #[.agg #[.int .i64 t337, .int .i64 t338, .bool t339, .int .i64 t340, .int .i64 t341, .int .i64 t342, .int .i64 t343, .int .i64 t344, .int .i64 t345, .int .i64 t346, .int .i64 t347, .int .i64 t348]] rfl (by (try simp only [YP, List.map_cons, List.map_nil]); first | done | rfl | (simp only [YR, YQ]; rfl)) ?_; (with_reducible refine (object_Bytes.calls kj3 t337 t338 t339 t340 t341 t342 t343 t344 t345 t346 t347 t348 t352 t355 _ A9.out).mono ?_); rintro e w15 ⟨v353, rfl, ho0, hb⟩; refine ⟨_, rfl, ?_⟩; have n0_ := YL (Kd.V_elder' (by (with_reducible repeat (first | apply Kd.V_alloc | apply Kd.V_drewN | apply Kd.V_drew)); exact (Kd.V_mono (Kd.V_far (p := ⟨gb351, 11, none⟩) (Kd.V_far (p := ⟨gb351, 10, none⟩) (Kd.V_far (p := ⟨gb351, 9, none⟩) (Kd.V_far (p := ⟨gb351, 8, none⟩) (Kd.V_far (p := ⟨gb351, 7, none⟩) (Kd.V_far (p := ⟨gb351, 6, none⟩) (Kd.V_far (p := ⟨gb351, 5, none⟩) (Kd.V_far (p := ⟨gb351, 4, none⟩) (Kd.V_far (p := ⟨gb351, 3, none⟩) (Kd.V_far (p := ⟨gb351, 2, none⟩) (Kd.V_far (p := ⟨gb351, 1, none⟩) (Kd.V_far (p := ⟨gb351, 0, none⟩) (Kd.V_mono HO_1.out (fun k_ hk => (⟨hk, hk.2⟩ : _ ∧ k_ ≠ gb351))) (fun _ hk => hk.2) (.int .i64 t337)) (fun _ hk => hk.2) (.int .i64 t338)) (fun _ hk => hk.2) (.bool t339)) (fun _ hk => hk.2) (.int .i64 t340)) (fun _ hk => hk.2) (.int .i64 t341)) (fun _ hk => hk.2) (.int .i64 t342)) (fun _ hk => hk.2) (.int .i64 t343)) (fun _ hk => hk.2) (.int .i64 t344)) (fun _ hk => hk.2) (.int .i64 t345)) (fun _ hk => hk.2) (.int .i64 t346)) (fun _ hk => hk.2) (.int .i64 t347)) (fun _ hk => hk.2) (.int .i64 t348)) (fun _ h_ => h_.1))) (Kd.R_base ho0) hb); have n1_ := YL (Kd.V_elder' (by (with_reducible repeat (first | apply Kd.V_alloc | apply Kd.V_drewN | apply Kd.V_drew)); exact (Kd.V_mono (Kd.V_far (p := ⟨gb351, 11, none⟩) (Kd.V_far (p := ⟨gb351, 10, none⟩) (Kd.V_far (p := ⟨gb351, 9, none⟩) (Kd.V_far (p := ⟨gb351, 8, none⟩) (Kd.V_far (p := ⟨gb351, 7, none⟩) (Kd.V_far (p := ⟨gb351, 6, none⟩) (Kd.V_far (p := ⟨gb351, 5, none⟩) (Kd.V_far (p := ⟨gb351, 4, none⟩) (Kd.V_far (p := ⟨gb351, 3, none⟩) (Kd.V_far (p := ⟨gb351, 2, none⟩) (Kd.V_far (p := ⟨gb351, 1, none⟩) (Kd.V_far (p := ⟨gb351, 0, none⟩) (Kd.V_mono HO_2.out (fun k_ hk => (⟨hk, hk.2⟩ : _ ∧ k_ ≠ gb351))) (fun _ hk => hk.2) (.int .i64 t337)) (fun _ hk => hk.2) (.int .i64 t338)) (fun _ hk => hk.2) (.bool t339)) (fun _ hk => hk.2) (.int .i64 t340)) (fun _ hk => hk.2) (.int .i64 t341)) (fun _ hk => hk.2) (.int .i64 t342)) (fun _ hk => hk.2) (.int .i64 t343)) (fun _ hk => hk.2) (.int .i64 t344)) (fun _ hk => hk.2) (.int .i64 t345)) (fun _ hk => hk.2) (.int .i64 t346)) (fun _ hk => hk.2) (.int .i64 t347)) (fun _ hk => hk.2) (.int .i64 t348)) (fun _ h_ => h_.1))) (Kd.R_base ho0) hb); have n2_ := YL (Kd.R_lower (Kd.R_newM (M := fun k_ => (w.heap.size ≤ k_)) ho0 (YE (by repeat (first | (with_reducible first | exact HB.out | apply YA | apply YB | apply YC | refine below_set ?_ GE336.out | refine below_set ?_ GE351.out) | exact HB.out))) (fun k_ h_ => h_)) (YE (by repeat (first | (with_reducible first | exact HB.out | apply YA | apply YB | apply YC | refine below_set ?_ GE336.out | refine below_set ?_ GE351.out) | exact HB.out)))); have n3_ := YL (YK (g := gb336) (o := .cells #[.int .i64 a0_0, .int .i64 a0_1, .bool a0_2, .int .i64 a0_3, .int .i64 a0_4, .int .i64 a0_5, .int .i64 a0_6, .int .i64 a0_7, .int .i64 a0_8, .int .i64 a0_9, .int .i64 a0_10, .int .i64 a0_11] 27 (0, 0)) (by (with_reducible repeat (first | refine YF ?_ _ | refine YG ?_ | refine YH ?_ _)); refine blk_far ?_ NB336_351.out _; (with_reducible repeat (first | refine YF ?_ _ | refine YG ?_ | refine YH ?_ _)); refine blk_far ?_ NB336_351.out _; (with_reducible repeat (first | refine YF ?_ _ | refine YG ?_ | refine YH ?_ _)); refine blk_far ?_ NB336_351.out _; (with_reducible repeat (first | refine YF ?_ _ | refine YG ?_ | refine YH ?_ _)); refine blk_far ?_ NB336_351.out _; (with_reducible repeat (first | refine YF ?_ _ | refine YG ?_ | refine YH ?_ _)); refine blk_far ?_ NB336_351.out _; (with_reducible repeat (first | refine YF ?_ _ | refine YG ?_ | refine YH ?_ _)); refine blk_far ?_ NB336_351.out _; (with_reducible repeat (first | refine YF ?_ _ | refine YG ?_ | refine YH ?_ _)); refine blk_far ?_ NB336_351.out _; (with_reducible repeat (first | refine YF ?_ _ | refine YG ?_ | refine YH ?_ _)); refine blk_far ?_ NB336_351.out _; (with_reducible repeat (first | refine YF ?_ _ | refine YG ?_ | refine YH ?_ _)); refine blk_far ?_ NB336_351.out _; (with_reducible repeat (first | refine YF ?_ _ | refine YG ?_ | refine YH ?_ _)); refine blk_far ?_ NB336_351.out _; (with_reducible repeat (first | refine YF ?_ _ | refine YG ?_ | refine YH ?_ _)); refine blk_far ?_ NB336_351.out _; (with_reducible repeat (first | refine YF ?_ _ | refine YG ?_ | refine YH ?_ _)); refine blk_far ?_ NB336_351.out _; (with_reducible repeat (first | refine YF ?_ _ | refine YG ?_ | refine YH ?_ _)); exact BK336.out) hb); have n4_ := YL (YK (g := gb351) (o := .cells #[.int .i64 t337, .int .i64 t338, .bool t339, .int .i64 t340, .int .i64 t341, .int .i64 t342, .int .i64 t343, .int .i64 t344, .int .i64 t345, .int .i64 t346, .int .i64 t347, .int .i64 t348] 27 (0, 0)) (by (with_reducible repeat (first | refine YF ?_ _ | refine YG ?_ | refine YH ?_ _)); refine blk_put (cs := #[.int .i64 t337, .int .i64 t338, .bool t339, .int .i64 t340, .int .i64 t341, .int .i64 t342, .int .i64 t343, .int .i64 t344, .int .i64 t345, .int .i64 t346, .int .i64 t347, .int .i64 0]) ?_ 11 _ rfl; (with_reducible repeat (first | refine YF ?_ _ | refine YG ?_ | refine YH ?_ _)); refine blk_put (cs := #[.int .i64 t337, .int .i64 t338, .bool t339, .int .i64 t340, .int .i64 t341, .int .i64 t342, .int .i64 t343, .int .i64 t344, .int .i64 t345, .int .i64 t346, .int .i64 0, .int .i64 0]) ?_ 10 _ rfl; (with_reducible repeat (first | refine YF ?_ _ | refine YG ?_ | refine YH ?_ _)); refine blk_put (cs := #[.int .i64 t337, .int .i64 t338, .bool t339, .int .i64 t340, .int .i64 t341, .int .i64 t342, .int .i64 t343, .int .i64 t344, .int .i64 t345, .int .i64 0, .int .i64 0, .int .i64 0]) ?_ 9 _ rfl; (with_reducible repeat (first | refine YF ?_ _ | refine YG ?_ | refine YH ?_ _)); refine blk_put (cs := #[.int .i64 t337, .int .i64 t338, .bool t339, .int .i64 t340, .int .i64 t341, .int .i64 t342, .int .i64 t343, .int .i64 t344, .int .i64 0, .int .i64 0, .int .i64 0, .int .i64 0]) ?_ 8 _ rfl; (with_reducible repeat (first | refine YF ?_ _ | refine YG ?_ | refine YH ?_ _)); refine blk_put (cs := #[.int .i64 t337, .int .i64 t338, .bool t339, .int .i64 t340, .int .i64 t341, .int .i64 t342, .int .i64 t343, .int .i64 0, .int .i64 0, .int .i64 0, .int .i64 0, .int .i64 0]) ?_ 7 _ rfl; (with_reducible repeat (first | refine YF ?_ _ | refine YG ?_ | refine YH ?_ _)); refine blk_put (cs := #[.int .i64 t337, .int .i64 t338, .bool t339, .int .i64 t340, .int .i64 t341, .int .i64 t342, .int .i64 0, .int .i64 0, .int .i64 0, .int .i64 0, .int .i64 0, .int .i64 0]) ?_ 6 _ rfl; (with_reducible repeat (first | refine YF ?_ _ | refine YG ?_ | refine YH ?_ _)); refine blk_put (cs := #[.int .i64 t337, .int .i64 t338, .bool t339, .int .i64 t340, .int .i64 t341, .int .i64 0, .int .i64 0, .int .i64 0, .int .i64 0, .int .i64 0, .int .i64 0, .int .i64 0]) ?_ 5 _ rfl; (with_reducible repeat (first | refine YF ?_ _ | refine YG ?_ | refine YH ?_ _)); refine blk_put (cs := #[.int .i64 t337, .int .i64 t338, .bool t339, .int .i64 t340, .int .i64 0, .int .i64 0, .int .i64 0, .int .i64 0, .int .i64 0, .int .i64 0, .int .i64 0, .int .i64 0]) ?_ 4 _ rfl; (with_reducible repeat (first | refine YF ?_ _ | refine YG ?_ | refine YH ?_ _)); refine blk_put (cs := #[.int .i64 t337, .int .i64 t338, .bool t339, .int .i64 0, .int .i64 0, .int .i64 0, .int .i64 0, .int .i64 0, .int .i64 0, .int .i64 0, .int .i64 0, .int .i64 0]) ?_ 3 _ rfl; (with_reducible repeat (first | refine YF ?_ _ | refine YG ?_ | refine YH ?_ _)); refine blk_put (cs := #[.int .i64 t337, .int .i64 t338, .bool false, .int .i64 0, .int .i64 0, .int .i64 0, .int .i64 0, .int .i64 0, .int .i64 0, .int .i64 0, .int .i64 0, .int .i64 0]) ?_ 2 _ rfl; (with_reducible repeat (first | refine YF ?_ _ | refine YG ?_ | refine YH ?_ _)); refine blk_put (cs := #[.int .i64 t337, .int .i64 0, .bool false, .int .i64 0, .int .i64 0, .int .i64 0, .int .i64 0, .int .i64 0, .int .i64 0, .int .i64 0, .int .i64 0, .int .i64 0]) ?_ 1 _ rfl; (with_reducible repeat (first | refine YF ?_ _ | refine YG ?_ | refine YH ?_ _)); refine blk_put (cs := #[.int .i64 0, .int .i64 0, .bool false, .int .i64 0, .int .i64 0, .int .i64 0, .int .i64 0, .int .i64 0, .int .i64 0, .int .i64 0, .int .i64 0, .int .i64 0]) ?_ 0 _ rfl; (with_reducible repeat (first | refine YF ?_ _ | refine YG ?_ | refine YH ?_ _)); exact BK351.out) hb); have n5_ := YL (YD (by repeat (first | (with_reducible first | exact HB.out | apply YA | apply YB | apply YC | refine below_set ?_ GE336.out | refine below_set ?_ GE351.out) | exact HB.out)) hb); clear HO_1; clear HO_2; clear BK336; clear BK351; clear HB; have HO_1 := n0_; have HO_2 := n1_; have HO354 := n2_; have BK336 := n3_; have BK351 := n4_; have HB := n5_; clear n0_ n1_ n2_ n3_ n4_ n5_; (try clear hb); (try clear hb2); (try clear hk); (try clear hi); (try clear ho0)))
   (try simp only [Act.put, YM, YN, YO])
   go_cut [67] (fun v67 wc => ∃ (kq : Nat) (x67_9 : Bool), v67 = .bool x67_9 ∧ Aside0 (thalweglaw04_ObjectBack.j1 kq l1 l2 x67_9 a0_0 a0_1 a0_2 a0_3 a0_4 a0_5 a0_6 a0_7 a0_8 a0_9 a0_10 a0_11 = some r) ∧ Aside0 (kq ≤ kj3) ∧ Aside0 (Kd.V (Kd.int .u8) 5 wc w.heap.size (fun k_ => ((P1_ k_ ∨ P2_ k_) ∨ w.heap.size ≤ k_) ∧ k_ ≠ gb336 ∧ k_ ≠ gb351) (.slice A1 l1.length c1) l1) ∧ Aside0 (Kd.V (Kd.int .u8) 5 wc w.heap.size (fun k_ => ((P1_ k_ ∨ P2_ k_) ∨ w.heap.size ≤ k_) ∧ k_ ≠ gb336 ∧ k_ ≠ gb351) (.slice A2 l2.length c2) l2) ∧ Aside0 (wc.heap[gb336]? = some (.cells #[.int .i64 a0_0, .int .i64 a0_1, .bool a0_2, .int .i64 a0_3, .int .i64 a0_4, .int .i64 a0_5, .int .i64 a0_6, .int .i64 a0_7, .int .i64 a0_8, .int .i64 a0_9, .int .i64 a0_10, .int .i64 a0_11] 27 (0, 0))) ∧ Aside0 (wc.heap[gb351]? = some (.cells #[.int .i64 t337, .int .i64 t338, .bool t339, .int .i64 t340, .int .i64 t341, .int .i64 t342, .int .i64 t343, .int .i64 t344, .int .i64 t345, .int .i64 t346, .int .i64 t347, .int .i64 t348] 27 (0, 0))) ∧ Aside0 (Below w.heap.size w wc))
   case first =>
    have H := HC10.out
    clear HC10
    by_cases c16 : t350 = 0
    ·rw [if_pos c16] at H
     have c16b0 : (t350 == 0) = true := beq_iff_eq.mpr c16
     have c16b1 : (t350 != 0) = false := bne_eq_false_iff_eq.mpr c16
     clear c16
     (first | rw [c16b0] | (simp only [i64_w, i32_w]; rw [c16b0]) | rw [c16b1] | skip)
     by_cases c17 : t355 = t350
     ·rw [if_pos c17] at H
      have c17b0 : (t355 == t350) = true := beq_iff_eq.mpr c17
      have c17b1 : (t355 != t350) = false := bne_eq_false_iff_eq.mpr c17
      clear c17
      by_cases c18 : t349 < 2
      ·rw [if_pos c18] at H
       have c18b0 : decide (t349 < 2) = true := decide_eq_true c18; clear c18
       have H' := YL H
       clear H
       try go_wp2
       have n0_ := YL (Kd.V_drew HO_1.out)
       have n1_ := YL (Kd.V_drew HO_2.out)
       have n2_ := YL (YU HO354.out)
       have n3_ := YL (YG BK336.out)
       have n4_ := YL (YG BK351.out)
       have n5_ := YL (YC HB.out)
       clear HO_1; clear HO_2; clear HO354; clear BK336; clear BK351; clear HB; have HO_1 := n0_; have HO_2 := n1_; have HO354 := n2_; have BK336 := n3_; have BK351 := n4_; have HB := n5_; clear n0_ n1_ n2_ n3_ n4_ n5_
       refine start_ (n := 32) (S := fun w' => True) (ds := []) #[false, false, false, false, false, false, false, false, false, false, false, false, false, false, false, false, false, false, false, false, false, false, false, false, false, false, false, false, false, false, false, false] (by kernel_rfl) rfl rfl trivial (fun hHeld => ?_); refine with_tabW thalweglaw04_ObjectBack.tab5 thalweglaw04_ObjectBack.bits5 (fun HT_ HW_ => ?_)
       generalize w15.drew = w19 at HO_1 HO_2 HO354 BK336 BK351 HB hHeld ⊢
       refine pure_ (i := 0) (N := some 36) (v := ?_) (a' := ?_) #[true, false, false, false, false, false, false, false, false, false, false, false, false, false, false, false, false, false, false, false, false, false, false, false, false, false, false, false, false, false, false, false] rfl rfl (any_of HT_.out (by kernel_rfl)) (fun _ _ _ h => h) (Or.inl ⟨by rfl, ?_⟩) ?_ ?_
       rotate_left
       ·intro w'
        go_simp; with_reducible rfl
       rotate_left
       ·simp only [Act.put, YM, YN, YO, i64_w, i32_w]
        rfl
       refine pure_ (i := 1) (N := some 37) (v := ?_) (a' := ?_) #[true, true, false, false, false, false, false, false, false, false, false, false, false, false, false, false, false, false, false, false, false, false, false, false, false, false, false, false, false, false, false, false] rfl rfl (any_of HT_.out (by kernel_rfl)) (fun _ _ _ h => h) (Or.inl ⟨by rfl, ?_⟩) ?_ ?_
       rotate_left
       ·intro w'
        go_simp; with_reducible rfl
       rotate_left
       ·simp only [Act.put, YM, YN, YO, i64_w, i32_w]
        rfl
       refine pure_ (i := 2) (N := some 38) (v := ?_) (a' := ?_) #[true, true, true, false, false, false, false, false, false, false, false, false, false, false, false, false, false, false, false, false, false, false, false, false, false, false, false, false, false, false, false, false] rfl rfl (any_of HT_.out (by kernel_rfl)) (fun _ _ _ h => h) (Or.inl ⟨by rfl, ?_⟩) ?_ ?_
       rotate_left
       ·intro w'
        go_simp; with_reducible rfl
       rotate_left
       ·simp only [Act.put, YM, YN, YO, i64_w, i32_w]
        rfl
       refine pure_ (i := 3) (N := some 39) (v := ?_) (a' := ?_) #[true, true, true, true, false, false, false, false, false, false, false, false, false, false, false, false, false, false, false, false, false, false, false, false, false, false, false, false, false, false, false, false] rfl rfl (any_of HT_.out (by kernel_rfl)) (fun _ _ _ h => h) (Or.inl ⟨by rfl, ?_⟩) ?_ ?_
       rotate_left
       ·intro w'
        go_simp; with_reducible rfl
       rotate_left
       ·simp only [Act.put, YM, YN, YO, i64_w, i32_w]
        rfl
       refine pure_ (i := 4) (N := some 40) (v := ?_) (a' := ?_) #[true, true, true, true, true, false, false, false, false, false, false, false, false, false, false, false, false, false, false, false, false, false, false, false, false, false, false, false, false, false, false, false] rfl rfl (any_of HT_.out (by kernel_rfl)) (fun _ _ _ h => h) (Or.inl ⟨by rfl, ?_⟩) ?_ ?_
       rotate_left
       ·intro w'
        go_simp; with_reducible rfl
       rotate_left
       ·simp only [Act.put, YM, YN, YO, i64_w, i32_w]
        rfl
       refine pure_ (i := 5) (N := some 41) (v := ?_) (a' := ?_) #[true, true, true, true, true, true, false, false, false, false, false, false, false, false, false, false, false, false, false, false, false, false, false, false, false, false, false, false, false, false, false, false] rfl rfl (any_of HT_.out (by kernel_rfl)) (fun _ _ _ h => h) (Or.inl ⟨by rfl, ?_⟩) ?_ ?_
       rotate_left
       ·intro w'
        go_simp; with_reducible rfl
       rotate_left
       ·simp only [Act.put, YM, YN, YO, i64_w, i32_w]
        rfl
       refine pure_ (i := 6) (N := some 42) (v := ?_) (a' := ?_) #[true, true, true, true, true, true, true, false, false, false, false, false, false, false, false, false, false, false, false, false, false, false, false, false, false, false, false, false, false, false, false, false] rfl rfl (any_of HT_.out (by kernel_rfl)) (fun _ _ _ h => h) (Or.inl ⟨by rfl, ?_⟩) ?_ ?_
       rotate_left
       ·intro w'
        go_simp; with_reducible rfl
       rotate_left
       ·simp only [Act.put, YM, YN, YO, i64_w, i32_w]
        rfl
       refine pure_ (i := 7) (N := some 43) (v := ?_) (a' := ?_) #[true, true, true, true, true, true, true, true, false, false, false, false, false, false, false, false, false, false, false, false, false, false, false, false, false, false, false, false, false, false, false, false] rfl rfl (any_of HT_.out (by kernel_rfl)) (fun _ _ _ h => h) (Or.inl ⟨by rfl, ?_⟩) ?_ ?_
       rotate_left
       ·intro w'
        go_simp; with_reducible rfl
       rotate_left
       ·simp only [Act.put, YM, YN, YO, i64_w, i32_w]
        rfl
       refine pure_ (i := 8) (N := some 44) (v := ?_) (a' := ?_) #[true, true, true, true, true, true, true, true, true, false, false, false, false, false, false, false, false, false, false, false, false, false, false, false, false, false, false, false, false, false, false, false] rfl rfl (any_of HT_.out (by kernel_rfl)) (fun _ _ _ h => h) (Or.inl ⟨by rfl, ?_⟩) ?_ ?_
       rotate_left
       ·intro w'
        go_simp; with_reducible rfl
       rotate_left
       ·simp only [Act.put, YM, YN, YO, i64_w, i32_w]
        rfl
       refine pure_ (i := 9) (N := some 45) (v := ?_) (a' := ?_) #[true, true, true, true, true, true, true, true, true, true, false, false, false, false, false, false, false, false, false, false, false, false, false, false, false, false, false, false, false, false, false, false] rfl rfl (any_of HT_.out (by kernel_rfl)) (fun _ _ _ h => h) (Or.inl ⟨by rfl, ?_⟩) ?_ ?_
       rotate_left
       ·intro w'
        go_simp; with_reducible rfl
       rotate_left
       ·simp only [Act.put, YM, YN, YO, i64_w, i32_w]
        rfl
       refine pure_ (i := 10) (N := some 46) (v := ?_) (a' := ?_) #[true, true, true, true, true, true, true, true, true, true, true, false, false, false, false, false, false, false, false, false, false, false, false, false, false, false, false, false, false, false, false, false] rfl rfl (any_of HT_.out (by kernel_rfl)) (fun _ _ _ h => h) (Or.inl ⟨by rfl, ?_⟩) ?_ ?_
       rotate_left
       ·intro w'
        go_simp; with_reducible rfl
       rotate_left
       ·simp only [Act.put, YM, YN, YO, i64_w, i32_w]
        rfl
       refine pure_ (i := 11) (N := some 47) (v := undef) (a' := ?_) #[true, true, true, true, true, true, true, true, true, true, true, true, false, false, false, false, false, false, false, false, false, false, false, false, false, false, false, false, false, false, false, false] rfl rfl (any_of HT_.out (by kernel_rfl)) (fun _ _ _ h => h) (Or.inr ⟨by rfl, rfl⟩) ?_ ?_
       rotate_left
       ·simp only [Act.put, YM, YN, YO, i64_w, i32_w]
        rfl
       refine pure_ (i := 12) (N := some 48) (v := undef) (a' := ?_) #[true, true, true, true, true, true, true, true, true, true, true, true, true, false, false, false, false, false, false, false, false, false, false, false, false, false, false, false, false, false, false, false] rfl rfl (any_of HT_.out (by kernel_rfl)) (fun _ _ _ h => h) (Or.inr ⟨by rfl, rfl⟩) ?_ ?_
       rotate_left
       ·simp only [Act.put, YM, YN, YO, i64_w, i32_w]
        rfl
       refine pure_ (i := 13) (N := some 49) (v := undef) (a' := ?_) #[true, true, true, true, true, true, true, true, true, true, true, true, true, true, false, false, false, false, false, false, false, false, false, false, false, false, false, false, false, false, false, false] rfl rfl (any_of HT_.out (by kernel_rfl)) (fun _ _ _ h => h) (Or.inr ⟨by rfl, rfl⟩) ?_ ?_
       rotate_left
       ·simp only [Act.put, YM, YN, YO, i64_w, i32_w]
        rfl
       refine pure_ (i := 14) (N := some 50) (v := undef) (a' := ?_) #[true, true, true, true, true, true, true, true, true, true, true, true, true, true, true, false, false, false, false, false, false, false, false, false, false, false, false, false, false, false, false, false] rfl rfl (any_of HT_.out (by kernel_rfl)) (fun _ _ _ h => h) (Or.inr ⟨by rfl, rfl⟩) ?_ ?_
       rotate_left
       ·simp only [Act.put, YM, YN, YO, i64_w, i32_w]
        rfl
       refine pure_ (i := 15) (N := some 51) (v := ?_) (a' := ?_) #[true, true, true, true, true, true, true, true, true, true, true, true, true, true, true, true, false, false, false, false, false, false, false, false, false, false, false, false, false, false, false, false] rfl rfl (any_of HT_.out (by kernel_rfl)) (fun _ _ _ h => h) (Or.inl ⟨by rfl, ?_⟩) ?_ ?_
       rotate_left
       ·intro w'
        go_simp; with_reducible rfl
       rotate_left
       ·simp only [Act.put, YM, YN, YO, i64_w, i32_w]
        rfl
       refine pure_ (i := 16) (N := some 52) (v := ?_) (a' := ?_) #[true, true, true, true, true, true, true, true, true, true, true, true, true, true, true, true, true, false, false, false, false, false, false, false, false, false, false, false, false, false, false, false] rfl rfl (any_of HT_.out (by kernel_rfl)) (fun _ _ _ h => h) (Or.inl ⟨by rfl, ?_⟩) ?_ ?_
       rotate_left
       ·intro w'
        go_simp; with_reducible rfl
       rotate_left
       ·simp only [Act.put, YM, YN, YO, i64_w, i32_w]
        rfl
       refine pure_ (i := 17) (N := some 53) (v := undef) (a' := ?_) #[true, true, true, true, true, true, true, true, true, true, true, true, true, true, true, true, true, true, false, false, false, false, false, false, false, false, false, false, false, false, false, false] rfl rfl (any_of HT_.out (by kernel_rfl)) (fun _ _ _ h => h) (Or.inr ⟨by rfl, rfl⟩) ?_ ?_
       rotate_left
       ·simp only [Act.put, YM, YN, YO, i64_w, i32_w]
        rfl
       refine pure_ (i := 18) (N := some 54) (v := undef) (a' := ?_) #[true, true, true, true, true, true, true, true, true, true, true, true, true, true, true, true, true, true, true, false, false, false, false, false, false, false, false, false, false, false, false, false] rfl rfl (any_of HT_.out (by kernel_rfl)) (fun _ _ _ h => h) (Or.inr ⟨by rfl, rfl⟩) ?_ ?_
       rotate_left
       ·simp only [Act.put, YM, YN, YO, i64_w, i32_w]
        rfl
       refine pure_ (i := 19) (N := some 55) (v := undef) (a' := ?_) #[true, true, true, true, true, true, true, true, true, true, true, true, true, true, true, true, true, true, true, true, false, false, false, false, false, false, false, false, false, false, false, false] rfl rfl (any_of HT_.out (by kernel_rfl)) (fun _ _ _ h => h) (Or.inr ⟨by rfl, rfl⟩) ?_ ?_
       rotate_left
       ·simp only [Act.put, YM, YN, YO, i64_w, i32_w]
        rfl
       refine pure_ (i := 20) (N := some 56) (v := undef) (a' := ?_) #[true, true, true, true, true, true, true, true, true, true, true, true, true, true, true, true, true, true, true, true, true, false, false, false, false, false, false, false, false, false, false, false] rfl rfl (any_of HT_.out (by kernel_rfl)) (fun _ _ _ h => h) (Or.inr ⟨by rfl, rfl⟩) ?_ ?_
       rotate_left
       ·simp only [Act.put, YM, YN, YO, i64_w, i32_w]
        rfl
       refine pure_ (i := 21) (N := some 57) (v := undef) (a' := ?_) #[true, true, true, true, true, true, true, true, true, true, true, true, true, true, true, true, true, true, true, true, true, true, false, false, false, false, false, false, false, false, false, false] rfl rfl (any_of HT_.out (by kernel_rfl)) (fun _ _ _ h => h) (Or.inr ⟨by rfl, rfl⟩) ?_ ?_
       rotate_left
       ·simp only [Act.put, YM, YN, YO, i64_w, i32_w]
        rfl
       refine pure_ (i := 22) (N := some 58) (v := undef) (a' := ?_) #[true, true, true, true, true, true, true, true, true, true, true, true, true, true, true, true, true, true, true, true, true, true, true, false, false, false, false, false, false, false, false, false] rfl rfl (any_of HT_.out (by kernel_rfl)) (fun _ _ _ h => h) (Or.inr ⟨by rfl, rfl⟩) ?_ ?_
       rotate_left
       ·simp only [Act.put, YM, YN, YO, i64_w, i32_w]
        rfl
       refine pure_ (i := 23) (N := some 59) (v := undef) (a' := ?_) #[true, true, true, true, true, true, true, true, true, true, true, true, true, true, true, true, true, true, true, true, true, true, true, true, false, false, false, false, false, false, false, false] rfl rfl (any_of HT_.out (by kernel_rfl)) (fun _ _ _ h => h) (Or.inr ⟨by rfl, rfl⟩) ?_ ?_
       rotate_left
       ·simp only [Act.put, YM, YN, YO, i64_w, i32_w]
        rfl
       refine pure_ (i := 24) (N := some 60) (v := ?_) (a' := ?_) #[true, true, true, true, true, true, true, true, true, true, true, true, true, true, true, true, true, true, true, true, true, true, true, true, true, false, false, false, false, false, false, false] rfl rfl (any_of HT_.out (by kernel_rfl)) (fun _ _ _ h => h) (Or.inl ⟨by rfl, ?_⟩) ?_ ?_
       rotate_left
       ·intro w'
        go_simp; with_reducible rfl
       rotate_left
       ·simp only [Act.put, YM, YN, YO, i64_w, i32_w]
        rfl
       refine pure_ (i := 25) (N := some 61) (v := ?_) (a' := ?_) #[true, true, true, true, true, true, true, true, true, true, true, true, true, true, true, true, true, true, true, true, true, true, true, true, true, true, false, false, false, false, false, false] rfl rfl (any_of HT_.out (by kernel_rfl)) (fun _ _ _ h => h) (Or.inl ⟨by rfl, ?_⟩) ?_ ?_
       rotate_left
       ·intro w'
        go_simp; with_reducible rfl
       rotate_left
       ·simp only [Act.put, YM, YN, YO, i64_w, i32_w]
        rfl
       refine pure_ (i := 26) (N := some 62) (v := undef) (a' := ?_) #[true, true, true, true, true, true, true, true, true, true, true, true, true, true, true, true, true, true, true, true, true, true, true, true, true, true, true, false, false, false, false, false] rfl rfl (any_of HT_.out (by kernel_rfl)) (fun _ _ _ h => h) (Or.inr ⟨by rfl, rfl⟩) ?_ ?_
       rotate_left
       ·simp only [Act.put, YM, YN, YO, i64_w, i32_w]
        rfl
       refine pure_ (i := 27) (N := some 63) (v := undef) (a' := ?_) #[true, true, true, true, true, true, true, true, true, true, true, true, true, true, true, true, true, true, true, true, true, true, true, true, true, true, true, true, false, false, false, false] rfl rfl (any_of HT_.out (by kernel_rfl)) (fun _ _ _ h => h) (Or.inr ⟨by rfl, rfl⟩) ?_ ?_
       rotate_left
       ·simp only [Act.put, YM, YN, YO, i64_w, i32_w]
        rfl
       refine pure_ (i := 28) (N := some 64) (v := undef) (a' := ?_) #[true, true, true, true, true, true, true, true, true, true, true, true, true, true, true, true, true, true, true, true, true, true, true, true, true, true, true, true, true, false, false, false] rfl rfl (any_of HT_.out (by kernel_rfl)) (fun _ _ _ h => h) (Or.inr ⟨by rfl, rfl⟩) ?_ ?_
       rotate_left
       ·simp only [Act.put, YM, YN, YO, i64_w, i32_w]
        rfl
       refine pure_ (i := 29) (N := some 65) (v := undef) (a' := ?_) #[true, true, true, true, true, true, true, true, true, true, true, true, true, true, true, true, true, true, true, true, true, true, true, true, true, true, true, true, true, true, false, false] rfl rfl (any_of HT_.out (by kernel_rfl)) (fun _ _ _ h => h) (Or.inr ⟨by rfl, rfl⟩) ?_ ?_
       rotate_left
       ·simp only [Act.put, YM, YN, YO, i64_w, i32_w]
        rfl
       refine pure_ (i := 30) (N := some 66) (v := ?_) (a' := ?_) #[true, true, true, true, true, true, true, true, true, true, true, true, true, true, true, true, true, true, true, true, true, true, true, true, true, true, true, true, true, true, true, false] rfl rfl (any_of HT_.out (by kernel_rfl)) (fun _ _ _ h => h) (Or.inl ⟨by rfl, ?_⟩) ?_ ?_
       rotate_left
       ·intro w'
        go_simp; with_reducible rfl
       rotate_left
       ·simp only [Act.put, YM, YN, YO, i64_w, i32_w]
        rfl
       refine pure_ (i := 31) (N := some 67) (v := ?_) (a' := ?_) #[true, true, true, true, true, true, true, true, true, true, true, true, true, true, true, true, true, true, true, true, true, true, true, true, true, true, true, true, true, true, true, true] rfl rfl (any_of HT_.out (by kernel_rfl)) (fun _ _ _ h => h) (Or.inl ⟨by rfl, ?_⟩) ?_ ?_
       rotate_left
       ·intro w'
        go_simp; with_reducible rfl
       rotate_left
       ·simp only [Act.put, YM, YN, YO, i64_w, i32_w]
        rfl
       refine done_ (done_of HT_.out (by kernel_rfl)) ?_
       try go_wp2
       go_meet
       case rel => exact ⟨_, (true), (by first | rfl | (simp; done) | (simp [*]; done)), H', ⟨by have := HJ3.out; first | omega | exact Nat.le_refl _⟩, ⟨by (with_reducible repeat (first | apply Kd.V_alloc | apply Kd.V_drewN | apply Kd.V_drew)); exact Kd.V_mono HO_1.out (fun _ hk => by first | exact ⟨hk.1.1.1, ⟨hk.1.1.2, hk.1.2⟩⟩ | exact trivial | (simp [hk]; done) | simp_all)⟩, ⟨by (with_reducible repeat (first | apply Kd.V_alloc | apply Kd.V_drewN | apply Kd.V_drew)); exact Kd.V_mono HO_2.out (fun _ hk => by first | exact ⟨hk.1.1.1, ⟨hk.1.1.2, hk.1.2⟩⟩ | exact trivial | (simp [hk]; done) | simp_all)⟩, ⟨by (with_reducible repeat (first | refine YF ?_ _ | refine YG ?_ | refine YH ?_ _)); exact BK336.out⟩, ⟨by (with_reducible repeat (first | refine YF ?_ _ | refine YG ?_ | refine YH ?_ _)); exact BK351.out⟩, ⟨by repeat (first | (with_reducible first | exact HB.out | apply YA | apply YB | apply YC | refine below_set ?_ GE336.out | refine below_set ?_ GE351.out) | exact HB.out)⟩⟩
      rw [if_neg c18] at H; have c18b0 : decide (t349 < 2) = false := decide_eq_false c18; clear c18
      by_cases c20 : t349 > (l2.length : Int)
      ·rw [if_pos c20] at H
       have c20b0 : decide ((l2.length : Int) < t349) = true := decide_eq_true c20
       clear c20
       have H' := YL H
       clear H
       try go_wp2
       have n0_ := YL (Kd.V_drew HO_1.out)
       have n1_ := YL (Kd.V_drew HO_2.out)
       have n2_ := YL (YU HO354.out)
       have n3_ := YL (YG BK336.out)
       have n4_ := YL (YG BK351.out)
       have n5_ := YL (YC HB.out)
       clear HO_1; clear HO_2; clear HO354; clear BK336; clear BK351; clear HB; have HO_1 := n0_; have HO_2 := n1_; have HO354 := n2_; have BK336 := n3_; have BK351 := n4_; have HB := n5_; clear n0_ n1_ n2_ n3_ n4_ n5_
       refine start_ (n := 32) (S := fun w' => True) (ds := []) #[false, false, false, false, false, false, false, false, false, false, false, false, false, false, false, false, false, false, false, false, false, false, false, false, false, false, false, false, false, false, false, false] (by kernel_rfl) rfl rfl trivial (fun hHeld => ?_); refine with_tabW thalweglaw04_ObjectBack.tab5 thalweglaw04_ObjectBack.bits5 (fun HT_ HW_ => ?_)
       generalize w15.drew = w21 at HO_1 HO_2 HO354 BK336 BK351 HB hHeld ⊢
       refine pure_ (i := 0) (N := some 36) (v := ?_) (a' := ?_) #[true, false, false, false, false, false, false, false, false, false, false, false, false, false, false, false, false, false, false, false, false, false, false, false, false, false, false, false, false, false, false, false] rfl rfl (any_of HT_.out (by kernel_rfl)) (fun _ _ _ h => h) (Or.inl ⟨by rfl, ?_⟩) ?_ ?_
       rotate_left
       ·intro w'
        go_simp; with_reducible rfl
       rotate_left
       ·simp only [Act.put, YM, YN, YO, i64_w, i32_w]
        rfl
       refine pure_ (i := 1) (N := some 37) (v := ?_) (a' := ?_) #[true, true, false, false, false, false, false, false, false, false, false, false, false, false, false, false, false, false, false, false, false, false, false, false, false, false, false, false, false, false, false, false] rfl rfl (any_of HT_.out (by kernel_rfl)) (fun _ _ _ h => h) (Or.inl ⟨by rfl, ?_⟩) ?_ ?_
       rotate_left
       ·intro w'
        go_simp; with_reducible rfl
       rotate_left
       ·simp only [Act.put, YM, YN, YO, i64_w, i32_w]
        rfl
       refine pure_ (i := 2) (N := some 38) (v := ?_) (a' := ?_) #[true, true, true, false, false, false, false, false, false, false, false, false, false, false, false, false, false, false, false, false, false, false, false, false, false, false, false, false, false, false, false, false] rfl rfl (any_of HT_.out (by kernel_rfl)) (fun _ _ _ h => h) (Or.inl ⟨by rfl, ?_⟩) ?_ ?_
       rotate_left
       ·intro w'
        go_simp; with_reducible rfl
       rotate_left
       ·simp only [Act.put, YM, YN, YO, i64_w, i32_w]
        rfl
       refine pure_ (i := 3) (N := some 39) (v := ?_) (a' := ?_) #[true, true, true, true, false, false, false, false, false, false, false, false, false, false, false, false, false, false, false, false, false, false, false, false, false, false, false, false, false, false, false, false] rfl rfl (any_of HT_.out (by kernel_rfl)) (fun _ _ _ h => h) (Or.inl ⟨by rfl, ?_⟩) ?_ ?_
       rotate_left
       ·intro w'
        go_simp; with_reducible rfl
       rotate_left
       ·simp only [Act.put, YM, YN, YO, i64_w, i32_w]
        rfl
       refine pure_ (i := 4) (N := some 40) (v := ?_) (a' := ?_) #[true, true, true, true, true, false, false, false, false, false, false, false, false, false, false, false, false, false, false, false, false, false, false, false, false, false, false, false, false, false, false, false] rfl rfl (any_of HT_.out (by kernel_rfl)) (fun _ _ _ h => h) (Or.inl ⟨by rfl, ?_⟩) ?_ ?_
       rotate_left
       ·intro w'
        go_simp; with_reducible rfl
       rotate_left
       ·simp only [Act.put, YM, YN, YO, i64_w, i32_w]
        rfl
       refine pure_ (i := 5) (N := some 41) (v := ?_) (a' := ?_) #[true, true, true, true, true, true, false, false, false, false, false, false, false, false, false, false, false, false, false, false, false, false, false, false, false, false, false, false, false, false, false, false] rfl rfl (any_of HT_.out (by kernel_rfl)) (fun _ _ _ h => h) (Or.inl ⟨by rfl, ?_⟩) ?_ ?_
       rotate_left
       ·intro w'
        go_simp; with_reducible rfl
       rotate_left
       ·simp only [Act.put, YM, YN, YO, i64_w, i32_w]
        rfl
       refine pure_ (i := 6) (N := some 42) (v := ?_) (a' := ?_) #[true, true, true, true, true, true, true, false, false, false, false, false, false, false, false, false, false, false, false, false, false, false, false, false, false, false, false, false, false, false, false, false] rfl rfl (any_of HT_.out (by kernel_rfl)) (fun _ _ _ h => h) (Or.inl ⟨by rfl, ?_⟩) ?_ ?_
       rotate_left
       ·intro w'
        go_simp; with_reducible rfl
       rotate_left
       ·simp only [Act.put, YM, YN, YO, i64_w, i32_w]
        rfl
       refine pure_ (i := 7) (N := some 43) (v := ?_) (a' := ?_) #[true, true, true, true, true, true, true, true, false, false, false, false, false, false, false, false, false, false, false, false, false, false, false, false, false, false, false, false, false, false, false, false] rfl rfl (any_of HT_.out (by kernel_rfl)) (fun _ _ _ h => h) (Or.inl ⟨by rfl, ?_⟩) ?_ ?_
       rotate_left
       ·intro w'
        go_simp; with_reducible rfl
       rotate_left
       ·simp only [Act.put, YM, YN, YO, i64_w, i32_w]
        rfl
       refine pure_ (i := 8) (N := some 44) (v := ?_) (a' := ?_) #[true, true, true, true, true, true, true, true, true, false, false, false, false, false, false, false, false, false, false, false, false, false, false, false, false, false, false, false, false, false, false, false] rfl rfl (any_of HT_.out (by kernel_rfl)) (fun _ _ _ h => h) (Or.inl ⟨by rfl, ?_⟩) ?_ ?_
       rotate_left
       ·intro w'
        go_simp; with_reducible rfl
       rotate_left
       ·simp only [Act.put, YM, YN, YO, i64_w, i32_w]
        rfl
       refine pure_ (i := 9) (N := some 45) (v := ?_) (a' := ?_) #[true, true, true, true, true, true, true, true, true, true, false, false, false, false, false, false, false, false, false, false, false, false, false, false, false, false, false, false, false, false, false, false] rfl rfl (any_of HT_.out (by kernel_rfl)) (fun _ _ _ h => h) (Or.inl ⟨by rfl, ?_⟩) ?_ ?_
       rotate_left
       ·intro w'
        go_simp; with_reducible rfl
       rotate_left
       ·simp only [Act.put, YM, YN, YO, i64_w, i32_w]
        rfl
       refine pure_ (i := 10) (N := some 46) (v := ?_) (a' := ?_) #[true, true, true, true, true, true, true, true, true, true, true, false, false, false, false, false, false, false, false, false, false, false, false, false, false, false, false, false, false, false, false, false] rfl rfl (any_of HT_.out (by kernel_rfl)) (fun _ _ _ h => h) (Or.inl ⟨by rfl, ?_⟩) ?_ ?_
       rotate_left
       ·intro w'
        go_simp; with_reducible rfl
       rotate_left
       ·simp only [Act.put, YM, YN, YO, i64_w, i32_w]
        rfl
       refine pure_ (i := 11) (N := some 47) (v := ?_) (a' := ?_) #[true, true, true, true, true, true, true, true, true, true, true, true, false, false, false, false, false, false, false, false, false, false, false, false, false, false, false, false, false, false, false, false] rfl rfl (any_of HT_.out (by kernel_rfl)) (fun _ _ _ h => h) (Or.inl ⟨by rfl, ?_⟩) ?_ ?_
       rotate_left
       ·intro w'
        go_simp; with_reducible rfl
       rotate_left
       ·simp only [Act.put, YM, YN, YO, i64_w, i32_w]
        rfl
       refine pure_ (i := 12) (N := some 48) (v := ?_) (a' := ?_) #[true, true, true, true, true, true, true, true, true, true, true, true, true, false, false, false, false, false, false, false, false, false, false, false, false, false, false, false, false, false, false, false] rfl rfl (any_of HT_.out (by kernel_rfl)) (fun _ _ _ h => h) (Or.inl ⟨by rfl, ?_⟩) ?_ ?_
       rotate_left
       ·intro w'
        go_simp; with_reducible rfl
       rotate_left
       ·simp only [Act.put, YM, YN, YO, i64_w, i32_w]
        rfl
       refine pure_ (i := 13) (N := some 49) (v := ?_) (a' := ?_) #[true, true, true, true, true, true, true, true, true, true, true, true, true, true, false, false, false, false, false, false, false, false, false, false, false, false, false, false, false, false, false, false] rfl rfl (any_of HT_.out (by kernel_rfl)) (fun _ _ _ h => h) (Or.inl ⟨by rfl, ?_⟩) ?_ ?_
       rotate_left
       ·intro w'
        go_simp; with_reducible rfl
       rotate_left
       ·simp only [Act.put, YM, YN, YO, i64_w, i32_w]
        rfl
       refine pure_ (i := 14) (N := some 50) (v := ?_) (a' := ?_) #[true, true, true, true, true, true, true, true, true, true, true, true, true, true, true, false, false, false, false, false, false, false, false, false, false, false, false, false, false, false, false, false] rfl rfl (any_of HT_.out (by kernel_rfl)) (fun _ _ _ h => h) (Or.inl ⟨by rfl, ?_⟩) ?_ ?_
       rotate_left
       ·intro w'
        go_simp; with_reducible rfl
       rotate_left
       ·simp only [Act.put, YM, YN, YO, i64_w, i32_w]
        rfl
       refine pure_ (i := 15) (N := some 51) (v := ?_) (a' := ?_) #[true, true, true, true, true, true, true, true, true, true, true, true, true, true, true, true, false, false, false, false, false, false, false, false, false, false, false, false, false, false, false, false] rfl rfl (any_of HT_.out (by kernel_rfl)) (fun _ _ _ h => h) (Or.inl ⟨by rfl, ?_⟩) ?_ ?_
       rotate_left
       ·intro w'
        go_simp; with_reducible rfl
       rotate_left
       ·simp only [Act.put, YM, YN, YO, i64_w, i32_w]
        rfl
       refine pure_ (i := 16) (N := some 52) (v := ?_) (a' := ?_) #[true, true, true, true, true, true, true, true, true, true, true, true, true, true, true, true, true, false, false, false, false, false, false, false, false, false, false, false, false, false, false, false] rfl rfl (any_of HT_.out (by kernel_rfl)) (fun _ _ _ h => h) (Or.inl ⟨by rfl, ?_⟩) ?_ ?_
       rotate_left
       ·intro w'
        go_simp; with_reducible rfl
       rotate_left
       ·simp only [Act.put, YM, YN, YO, i64_w, i32_w]
        rfl
       refine pure_ (i := 17) (N := some 53) (v := undef) (a' := ?_) #[true, true, true, true, true, true, true, true, true, true, true, true, true, true, true, true, true, true, false, false, false, false, false, false, false, false, false, false, false, false, false, false] rfl rfl (any_of HT_.out (by kernel_rfl)) (fun _ _ _ h => h) (Or.inr ⟨by rfl, rfl⟩) ?_ ?_
       rotate_left
       ·simp only [Act.put, YM, YN, YO, i64_w, i32_w]
        rfl
       refine pure_ (i := 18) (N := some 54) (v := undef) (a' := ?_) #[true, true, true, true, true, true, true, true, true, true, true, true, true, true, true, true, true, true, true, false, false, false, false, false, false, false, false, false, false, false, false, false] rfl rfl (any_of HT_.out (by kernel_rfl)) (fun _ _ _ h => h) (Or.inr ⟨by rfl, rfl⟩) ?_ ?_
       rotate_left
       ·simp only [Act.put, YM, YN, YO, i64_w, i32_w]
        rfl
       refine pure_ (i := 19) (N := some 55) (v := undef) (a' := ?_) #[true, true, true, true, true, true, true, true, true, true, true, true, true, true, true, true, true, true, true, true, false, false, false, false, false, false, false, false, false, false, false, false] rfl rfl (any_of HT_.out (by kernel_rfl)) (fun _ _ _ h => h) (Or.inr ⟨by rfl, rfl⟩) ?_ ?_
       rotate_left
       ·simp only [Act.put, YM, YN, YO, i64_w, i32_w]
        rfl
       refine pure_ (i := 20) (N := some 56) (v := undef) (a' := ?_) #[true, true, true, true, true, true, true, true, true, true, true, true, true, true, true, true, true, true, true, true, true, false, false, false, false, false, false, false, false, false, false, false] rfl rfl (any_of HT_.out (by kernel_rfl)) (fun _ _ _ h => h) (Or.inr ⟨by rfl, rfl⟩) ?_ ?_
       rotate_left
       ·simp only [Act.put, YM, YN, YO, i64_w, i32_w]
        rfl
       refine pure_ (i := 21) (N := some 57) (v := undef) (a' := ?_) #[true, true, true, true, true, true, true, true, true, true, true, true, true, true, true, true, true, true, true, true, true, true, false, false, false, false, false, false, false, false, false, false] rfl rfl (any_of HT_.out (by kernel_rfl)) (fun _ _ _ h => h) (Or.inr ⟨by rfl, rfl⟩) ?_ ?_
       rotate_left
       ·simp only [Act.put, YM, YN, YO, i64_w, i32_w]
        rfl
       refine pure_ (i := 22) (N := some 58) (v := undef) (a' := ?_) #[true, true, true, true, true, true, true, true, true, true, true, true, true, true, true, true, true, true, true, true, true, true, true, false, false, false, false, false, false, false, false, false] rfl rfl (any_of HT_.out (by kernel_rfl)) (fun _ _ _ h => h) (Or.inr ⟨by rfl, rfl⟩) ?_ ?_
       rotate_left
       ·simp only [Act.put, YM, YN, YO, i64_w, i32_w]
        rfl
       refine pure_ (i := 23) (N := some 59) (v := undef) (a' := ?_) #[true, true, true, true, true, true, true, true, true, true, true, true, true, true, true, true, true, true, true, true, true, true, true, true, false, false, false, false, false, false, false, false] rfl rfl (any_of HT_.out (by kernel_rfl)) (fun _ _ _ h => h) (Or.inr ⟨by rfl, rfl⟩) ?_ ?_
       rotate_left
       ·simp only [Act.put, YM, YN, YO, i64_w, i32_w]
        rfl
       refine pure_ (i := 24) (N := some 60) (v := ?_) (a' := ?_) #[true, true, true, true, true, true, true, true, true, true, true, true, true, true, true, true, true, true, true, true, true, true, true, true, true, false, false, false, false, false, false, false] rfl rfl (any_of HT_.out (by kernel_rfl)) (fun _ _ _ h => h) (Or.inl ⟨by rfl, ?_⟩) ?_ ?_
       rotate_left
       ·intro w'
        go_simp; with_reducible rfl
       rotate_left
       ·simp only [Act.put, YM, YN, YO, i64_w, i32_w]
        rfl
       refine pure_ (i := 25) (N := some 61) (v := ?_) (a' := ?_) #[true, true, true, true, true, true, true, true, true, true, true, true, true, true, true, true, true, true, true, true, true, true, true, true, true, true, false, false, false, false, false, false] rfl rfl (any_of HT_.out (by kernel_rfl)) (fun _ _ _ h => h) (Or.inl ⟨by rfl, ?_⟩) ?_ ?_
       rotate_left
       ·intro w'
        go_simp; with_reducible rfl
       rotate_left
       ·simp only [Act.put, YM, YN, YO, i64_w, i32_w]
        rfl
       refine pure_ (i := 26) (N := some 62) (v := undef) (a' := ?_) #[true, true, true, true, true, true, true, true, true, true, true, true, true, true, true, true, true, true, true, true, true, true, true, true, true, true, true, false, false, false, false, false] rfl rfl (any_of HT_.out (by kernel_rfl)) (fun _ _ _ h => h) (Or.inr ⟨by rfl, rfl⟩) ?_ ?_
       rotate_left
       ·simp only [Act.put, YM, YN, YO, i64_w, i32_w]
        rfl
       refine pure_ (i := 27) (N := some 63) (v := undef) (a' := ?_) #[true, true, true, true, true, true, true, true, true, true, true, true, true, true, true, true, true, true, true, true, true, true, true, true, true, true, true, true, false, false, false, false] rfl rfl (any_of HT_.out (by kernel_rfl)) (fun _ _ _ h => h) (Or.inr ⟨by rfl, rfl⟩) ?_ ?_
       rotate_left
       ·simp only [Act.put, YM, YN, YO, i64_w, i32_w]
        rfl
       refine pure_ (i := 28) (N := some 64) (v := undef) (a' := ?_) #[true, true, true, true, true, true, true, true, true, true, true, true, true, true, true, true, true, true, true, true, true, true, true, true, true, true, true, true, true, false, false, false] rfl rfl (any_of HT_.out (by kernel_rfl)) (fun _ _ _ h => h) (Or.inr ⟨by rfl, rfl⟩) ?_ ?_
       rotate_left
       ·simp only [Act.put, YM, YN, YO, i64_w, i32_w]
        rfl
       refine pure_ (i := 29) (N := some 65) (v := undef) (a' := ?_) #[true, true, true, true, true, true, true, true, true, true, true, true, true, true, true, true, true, true, true, true, true, true, true, true, true, true, true, true, true, true, false, false] rfl rfl (any_of HT_.out (by kernel_rfl)) (fun _ _ _ h => h) (Or.inr ⟨by rfl, rfl⟩) ?_ ?_
       rotate_left
       ·simp only [Act.put, YM, YN, YO, i64_w, i32_w]
        rfl
       refine pure_ (i := 30) (N := some 66) (v := ?_) (a' := ?_) #[true, true, true, true, true, true, true, true, true, true, true, true, true, true, true, true, true, true, true, true, true, true, true, true, true, true, true, true, true, true, true, false] rfl rfl (any_of HT_.out (by kernel_rfl)) (fun _ _ _ h => h) (Or.inl ⟨by rfl, ?_⟩) ?_ ?_
       rotate_left
       ·intro w'
        go_simp; with_reducible rfl
       rotate_left
       ·simp only [Act.put, YM, YN, YO, i64_w, i32_w]
        rfl
       refine pure_ (i := 31) (N := some 67) (v := ?_) (a' := ?_) #[true, true, true, true, true, true, true, true, true, true, true, true, true, true, true, true, true, true, true, true, true, true, true, true, true, true, true, true, true, true, true, true] rfl rfl (any_of HT_.out (by kernel_rfl)) (fun _ _ _ h => h) (Or.inl ⟨by rfl, ?_⟩) ?_ ?_
       rotate_left
       ·intro w'
        go_simp; with_reducible rfl
       rotate_left
       ·simp only [Act.put, YM, YN, YO, i64_w, i32_w]
        rfl
       refine done_ (done_of HT_.out (by kernel_rfl)) ?_
       try go_wp2
       go_meet
       case rel => exact ⟨_, (true), (by first | rfl | (simp; done) | (simp [*]; done)), H', ⟨by have := HJ3.out; first | omega | exact Nat.le_refl _⟩, ⟨by (with_reducible repeat (first | apply Kd.V_alloc | apply Kd.V_drewN | apply Kd.V_drew)); exact Kd.V_mono HO_1.out (fun _ hk => by first | exact ⟨hk.1.1.1, ⟨hk.1.1.2, hk.1.2⟩⟩ | exact trivial | (simp [hk]; done) | simp_all)⟩, ⟨by (with_reducible repeat (first | apply Kd.V_alloc | apply Kd.V_drewN | apply Kd.V_drew)); exact Kd.V_mono HO_2.out (fun _ hk => by first | exact ⟨hk.1.1.1, ⟨hk.1.1.2, hk.1.2⟩⟩ | exact trivial | (simp [hk]; done) | simp_all)⟩, ⟨by (with_reducible repeat (first | refine YF ?_ _ | refine YG ?_ | refine YH ?_ _)); exact BK336.out⟩, ⟨by (with_reducible repeat (first | refine YF ?_ _ | refine YG ?_ | refine YH ?_ _)); exact BK351.out⟩, ⟨by repeat (first | (with_reducible first | exact HB.out | apply YA | apply YB | apply YC | refine below_set ?_ GE336.out | refine below_set ?_ GE351.out) | exact HB.out)⟩⟩
      rw [if_neg c20] at H
      have c20b0 : decide ((l2.length : Int) < t349) = false := decide_eq_false c20
      clear c20
      by_cases c22 : 0 ≤ t349
      rotate_left
      ·rw [if_neg c22] at H
       exact absurd H (by simp)
      rw [if_pos c22] at H
      have c22b0 := eq_true c22
      have c22b1 : decide (0 ≤ t349) = true := decide_eq_true c22; clear c22
      by_cases c23 : t349 ≤ (l2.length : Int)
      rotate_left
      ·rw [if_neg c23] at H
       exact absurd H (by simp)
      rw [if_pos c23] at H
      have c23b0 := eq_true c23
      have c23b1 : decide (t349 ≤ (l2.length : Int)) = true := decide_eq_true c23
      clear c23
      obtain ⟨y356, hy356⟩ : ∃ y_ : List Int, y_ = (l2.take (t349 : Int).toNat) := ⟨_, rfl⟩
      replace H : (if (strOfNums t352).toList = (strOfNums y356).toList then ((object_Size.f kj3 t337 t338 t339 t340 t341 t342 t343 t344 t345 t346 t347 t348).bind fun t361 => (thalweglaw04_ObjectBack.j1 kj3 l1 l2 (t361 != t349) a0_0 a0_1 a0_2 a0_3 a0_4 a0_5 a0_6 a0_7 a0_8 a0_9 a0_10 a0_11)) else (thalweglaw04_ObjectBack.j1 kj3 l1 l2 true a0_0 a0_1 a0_2 a0_3 a0_4 a0_5 a0_6 a0_7 a0_8 a0_9 a0_10 a0_11)) = some r := by first | (rw [hy356]; with_reducible exact H) | (have H2_ := (Option.bind_some _ _).symm.trans H; rw [hy356]; with_reducible exact H2_) | (have H2_ := (Option.bind_some _ _).symm.trans H; with_reducible exact H2_) | with_reducible exact H | (rw [hy356]; exact H) | exact H
      have Ny356 := YL hy356; clear hy356
      by_cases c24 : (strOfNums t352).toList = (strOfNums y356).toList
      ·rw [if_pos c24] at H
       have c24b0 : ((strOfNums t352).toList == (strOfNums y356).toList) = true := beq_iff_eq.mpr c24
       have c24b1 : ((strOfNums t352).toList != (strOfNums y356).toList) = false := bne_eq_false_iff_eq.mpr c24
       clear c24; replace H := Option.bind_eq_some_iff.mp H; obtain ⟨t361, A250, H⟩ := H
       replace H : (thalweglaw04_ObjectBack.j1 kj3 l1 l2 (t361 != t349) a0_0 a0_1 a0_2 a0_3 a0_4 a0_5 a0_6 a0_7 a0_8 a0_9 a0_10 a0_11) = some r := H
       have A25 := YL A250; clear A250
       have H' := YL H
       clear H
       try go_wp2
       have n0_ := YL (Kd.V_drew HO_1.out)
       have n1_ := YL (Kd.V_drew HO_2.out)
       have n2_ := YL (YU HO354.out)
       have n3_ := YL (YG BK336.out)
       have n4_ := YL (YG BK351.out)
       have n5_ := YL (YC HB.out)
       clear HO_1; clear HO_2; clear HO354; clear BK336; clear BK351; clear HB; have HO_1 := n0_; have HO_2 := n1_; have HO354 := n2_; have BK336 := n3_; have BK351 := n4_; have HB := n5_; clear n0_ n1_ n2_ n3_ n4_ n5_
       have q28 : (t349 : Int) ≤ ((l2.length : Int) : Int) := of_decide_eq_true (by first | (with_reducible assumption) | assumption)
       obtain ⟨i028, hi028, _, hsz28, _⟩ := info_parts info5
       have hroom28 : l2.length ≤ c2 := (Kd.V_reads' HO_2.out).2.1
       have hC28 : Kd.F (Kd.int .u8) _ _ A2 l2.length l2 := (Kd.V_at (base := w.heap.size) HO_2.out).2.2
       have hcut28 := cut_to (P := Try.prog) 28 5 .i64 Try.underlying28 hi028 A2 l2.length c2 t349 (of_decide_eq_true (by first | (with_reducible assumption) | assumption)) q28 hroom28
       have hr28 := Kd.F_take (m := (t349 : Int).toNat) hC28 (by omega)
       have hy28 : y356.length = (t349 : Int).toNat := (by rw [Ny356.out, YQ]; omega)
       rw [← Ny356.out] at hr28
       rw [← hy28] at hcut28
       have HO360 := YL (show Kd.V (Kd.int .u8) 5 _ w.heap.size _ (.slice A2 y356.length c2) y356 from Kd.V_mk (by omega) hr28)
       have HC360 := YL (show y356.length ≤ c2 from by omega)
       clear hr28 hC28 hroom28 hi028 hsz28; have KY28 := YL hy28; clear hy28
       replace q28 := eq_true q28
       refine start_ (n := 32) (S := fun w' => w'.cell? ⟨gb351, 0, none⟩ = some (.int .i64 t337) ∧ w'.cell? ⟨gb351, 1, none⟩ = some (.int .i64 t338) ∧ w'.cell? ⟨gb351, 2, none⟩ = some (.bool t339) ∧ w'.cell? ⟨gb351, 3, none⟩ = some (.int .i64 t340) ∧ w'.cell? ⟨gb351, 4, none⟩ = some (.int .i64 t341) ∧ w'.cell? ⟨gb351, 5, none⟩ = some (.int .i64 t342) ∧ w'.cell? ⟨gb351, 6, none⟩ = some (.int .i64 t343) ∧ w'.cell? ⟨gb351, 7, none⟩ = some (.int .i64 t344) ∧ w'.cell? ⟨gb351, 8, none⟩ = some (.int .i64 t345) ∧ w'.cell? ⟨gb351, 9, none⟩ = some (.int .i64 t346) ∧ w'.cell? ⟨gb351, 10, none⟩ = some (.int .i64 t347) ∧ w'.cell? ⟨gb351, 11, none⟩ = some (.int .i64 t348) ∧ (convert 28 9 v353).run Try.prog w' = .ok (.string (strOfNums t352)) w') (ds := []) #[false, false, false, false, false, false, false, false, false, false, false, false, false, false, false, false, false, false, false, false, false, false, false, false, false, false, false, false, false, false, false, false] (by kernel_rfl) rfl rfl ⟨(YI BK351.out 0).trans rfl, (YI BK351.out 1).trans rfl, (YI BK351.out 2).trans rfl, (YI BK351.out 3).trans rfl, (YI BK351.out 4).trans rfl, (YI BK351.out 5).trans rfl, (YI BK351.out 6).trans rfl, (YI BK351.out 7).trans rfl, (YI BK351.out 8).trans rfl, (YI BK351.out 9).trans rfl, (YI BK351.out 10).trans rfl, (YI BK351.out 11).trans rfl, (own_string (P := Try.prog) Try.underlying28 Try.underlying5 Try.underlying9 (Kd.own_of_R (by (with_reducible repeat (first | apply YS | apply YT | apply YU)); exact HO354.out)))⟩ (fun hHeld => ?_); refine with_tabW thalweglaw04_ObjectBack.tab5 thalweglaw04_ObjectBack.bits5 (fun HT_ HW_ => ?_)
       generalize w15.drew = w26 at HO_1 HO_2 HO354 BK336 BK351 HB HO360 hHeld ⊢
       refine pure_ (i := 0) (N := some 36) (v := ?_) (a' := ?_) #[true, false, false, false, false, false, false, false, false, false, false, false, false, false, false, false, false, false, false, false, false, false, false, false, false, false, false, false, false, false, false, false] rfl rfl (any_of HT_.out (by kernel_rfl)) (fun _ _ _ h => h) (Or.inl ⟨by rfl, ?_⟩) ?_ ?_
       rotate_left
       ·intro w'
        go_simp; with_reducible rfl
       rotate_left
       ·simp only [Act.put, YM, YN, YO, i64_w, i32_w]
        rfl
       refine pure_ (i := 1) (N := some 37) (v := ?_) (a' := ?_) #[true, true, false, false, false, false, false, false, false, false, false, false, false, false, false, false, false, false, false, false, false, false, false, false, false, false, false, false, false, false, false, false] rfl rfl (any_of HT_.out (by kernel_rfl)) (fun _ _ _ h => h) (Or.inl ⟨by rfl, ?_⟩) ?_ ?_
       rotate_left
       ·intro w'
        go_simp; with_reducible rfl
       rotate_left
       ·simp only [Act.put, YM, YN, YO, i64_w, i32_w]
        rfl
       refine pure_ (i := 2) (N := some 38) (v := ?_) (a' := ?_) #[true, true, true, false, false, false, false, false, false, false, false, false, false, false, false, false, false, false, false, false, false, false, false, false, false, false, false, false, false, false, false, false] rfl rfl (any_of HT_.out (by kernel_rfl)) (fun _ _ _ h => h) (Or.inl ⟨by rfl, ?_⟩) ?_ ?_
       rotate_left
       ·intro w'
        go_simp; with_reducible rfl
       rotate_left
       ·simp only [Act.put, YM, YN, YO, i64_w, i32_w]
        rfl
       refine pure_ (i := 3) (N := some 39) (v := ?_) (a' := ?_) #[true, true, true, true, false, false, false, false, false, false, false, false, false, false, false, false, false, false, false, false, false, false, false, false, false, false, false, false, false, false, false, false] rfl rfl (any_of HT_.out (by kernel_rfl)) (fun _ _ _ h => h) (Or.inl ⟨by rfl, ?_⟩) ?_ ?_
       rotate_left
       ·intro w'
        go_simp; with_reducible rfl
       rotate_left
       ·simp only [Act.put, YM, YN, YO, i64_w, i32_w]
        rfl
       refine pure_ (i := 4) (N := some 40) (v := ?_) (a' := ?_) #[true, true, true, true, true, false, false, false, false, false, false, false, false, false, false, false, false, false, false, false, false, false, false, false, false, false, false, false, false, false, false, false] rfl rfl (any_of HT_.out (by kernel_rfl)) (fun _ _ _ h => h) (Or.inl ⟨by rfl, ?_⟩) ?_ ?_
       rotate_left
       ·intro w'
        go_simp; with_reducible rfl
       rotate_left
       ·simp only [Act.put, YM, YN, YO, i64_w, i32_w]
        rfl
       refine pure_ (i := 5) (N := some 41) (v := ?_) (a' := ?_) #[true, true, true, true, true, true, false, false, false, false, false, false, false, false, false, false, false, false, false, false, false, false, false, false, false, false, false, false, false, false, false, false] rfl rfl (any_of HT_.out (by kernel_rfl)) (fun _ _ _ h => h) (Or.inl ⟨by rfl, ?_⟩) ?_ ?_
       rotate_left
       ·intro w'
        go_simp; with_reducible rfl
       rotate_left
       ·simp only [Act.put, YM, YN, YO, i64_w, i32_w]
        rfl
       refine pure_ (i := 6) (N := some 42) (v := ?_) (a' := ?_) #[true, true, true, true, true, true, true, false, false, false, false, false, false, false, false, false, false, false, false, false, false, false, false, false, false, false, false, false, false, false, false, false] rfl rfl (any_of HT_.out (by kernel_rfl)) (fun _ _ _ h => h) (Or.inl ⟨by rfl, ?_⟩) ?_ ?_
       rotate_left
       ·intro w'
        go_simp; with_reducible rfl
       rotate_left
       ·simp only [Act.put, YM, YN, YO, i64_w, i32_w]
        rfl
       refine pure_ (i := 7) (N := some 43) (v := ?_) (a' := ?_) #[true, true, true, true, true, true, true, true, false, false, false, false, false, false, false, false, false, false, false, false, false, false, false, false, false, false, false, false, false, false, false, false] rfl rfl (any_of HT_.out (by kernel_rfl)) (fun _ _ _ h => h) (Or.inl ⟨by rfl, ?_⟩) ?_ ?_
       rotate_left
       ·intro w'
        go_simp; with_reducible rfl
       rotate_left
       ·simp only [Act.put, YM, YN, YO, i64_w, i32_w]
        rfl
       refine pure_ (i := 8) (N := some 44) (v := ?_) (a' := ?_) #[true, true, true, true, true, true, true, true, true, false, false, false, false, false, false, false, false, false, false, false, false, false, false, false, false, false, false, false, false, false, false, false] rfl rfl (any_of HT_.out (by kernel_rfl)) (fun _ _ _ h => h) (Or.inl ⟨by rfl, ?_⟩) ?_ ?_
       rotate_left
       ·intro w'
        go_simp; with_reducible rfl
       rotate_left
       ·simp only [Act.put, YM, YN, YO, i64_w, i32_w]
        rfl
       refine pure_ (i := 9) (N := some 45) (v := ?_) (a' := ?_) #[true, true, true, true, true, true, true, true, true, true, false, false, false, false, false, false, false, false, false, false, false, false, false, false, false, false, false, false, false, false, false, false] rfl rfl (any_of HT_.out (by kernel_rfl)) (fun _ _ _ h => h) (Or.inl ⟨by rfl, ?_⟩) ?_ ?_
       rotate_left
       ·intro w'
        go_simp; with_reducible rfl
       rotate_left
       ·simp only [Act.put, YM, YN, YO, i64_w, i32_w]
        rfl
       refine pure_ (i := 10) (N := some 46) (v := ?_) (a' := ?_) #[true, true, true, true, true, true, true, true, true, true, true, false, false, false, false, false, false, false, false, false, false, false, false, false, false, false, false, false, false, false, false, false] rfl rfl (any_of HT_.out (by kernel_rfl)) (fun _ _ _ h => h) (Or.inl ⟨by rfl, ?_⟩) ?_ ?_
       rotate_left
       ·intro w'
        go_simp; with_reducible rfl
       rotate_left
       ·simp only [Act.put, YM, YN, YO, i64_w, i32_w]
        rfl
       refine pure_ (i := 11) (N := some 47) (v := ?_) (a' := ?_) #[true, true, true, true, true, true, true, true, true, true, true, true, false, false, false, false, false, false, false, false, false, false, false, false, false, false, false, false, false, false, false, false] rfl rfl (any_of HT_.out (by kernel_rfl)) (fun _ _ _ h => h) (Or.inl ⟨by rfl, ?_⟩) ?_ ?_
       rotate_left
       ·intro w'
        go_simp; with_reducible rfl
       rotate_left
       ·simp only [Act.put, YM, YN, YO, i64_w, i32_w]
        rfl
       refine pure_ (i := 12) (N := some 48) (v := ?_) (a' := ?_) #[true, true, true, true, true, true, true, true, true, true, true, true, true, false, false, false, false, false, false, false, false, false, false, false, false, false, false, false, false, false, false, false] rfl rfl (any_of HT_.out (by kernel_rfl)) (fun _ _ _ h => h) (Or.inl ⟨by rfl, ?_⟩) ?_ ?_
       rotate_left
       ·intro w'
        go_simp; with_reducible rfl
       rotate_left
       ·simp only [Act.put, YM, YN, YO, i64_w, i32_w]
        rfl
       refine pure_ (i := 13) (N := some 49) (v := ?_) (a' := ?_) #[true, true, true, true, true, true, true, true, true, true, true, true, true, true, false, false, false, false, false, false, false, false, false, false, false, false, false, false, false, false, false, false] rfl rfl (any_of HT_.out (by kernel_rfl)) (fun _ _ _ h => h) (Or.inl ⟨by rfl, ?_⟩) ?_ ?_
       rotate_left
       ·intro w'
        go_simp; with_reducible rfl
       rotate_left
       ·simp only [Act.put, YM, YN, YO, i64_w, i32_w]
        rfl
       refine pure_ (i := 14) (N := some 50) (v := ?_) (a' := ?_) #[true, true, true, true, true, true, true, true, true, true, true, true, true, true, true, false, false, false, false, false, false, false, false, false, false, false, false, false, false, false, false, false] rfl rfl (any_of HT_.out (by kernel_rfl)) (fun _ _ _ h => h) (Or.inl ⟨by rfl, ?_⟩) ?_ ?_
       rotate_left
       ·intro w'
        go_simp; with_reducible rfl
       rotate_left
       ·simp only [Act.put, YM, YN, YO, i64_w, i32_w]
        rfl
       refine pure_ (i := 15) (N := some 51) (v := ?_) (a' := ?_) #[true, true, true, true, true, true, true, true, true, true, true, true, true, true, true, true, false, false, false, false, false, false, false, false, false, false, false, false, false, false, false, false] rfl rfl (any_of HT_.out (by kernel_rfl)) (fun _ _ _ h => h) (Or.inl ⟨by rfl, ?_⟩) ?_ ?_
       rotate_left
       ·intro w'
        go_simp; with_reducible rfl
       rotate_left
       ·simp only [Act.put, YM, YN, YO, i64_w, i32_w]
        rfl
       refine pure_ (i := 16) (N := some 52) (v := ?_) (a' := ?_) #[true, true, true, true, true, true, true, true, true, true, true, true, true, true, true, true, true, false, false, false, false, false, false, false, false, false, false, false, false, false, false, false] rfl rfl (any_of HT_.out (by kernel_rfl)) (fun _ _ _ h => h) (Or.inl ⟨by rfl, ?_⟩) ?_ ?_
       rotate_left
       ·intro w'
        go_simp; with_reducible rfl
       rotate_left
       ·simp only [Act.put, YM, YN, YO, i64_w, i32_w]
        rfl
       refine pure_ (i := 17) (N := some 53) (v := ?_) (a' := ?_) #[true, true, true, true, true, true, true, true, true, true, true, true, true, true, true, true, true, true, false, false, false, false, false, false, false, false, false, false, false, false, false, false] rfl rfl (any_of HT_.out (by kernel_rfl)) (fun _ _ _ h => h) (Or.inl ⟨by rfl, ?_⟩) ?_ ?_
       rotate_left
       ·intro w'
        go_simp; with_reducible rfl
       rotate_left
       ·simp only [Act.put, YM, YN, YO, i64_w, i32_w]
        rfl
       refine pure_ (i := 19) (N := some 55) (v := ?_) (a' := ?_) #[true, true, true, true, true, true, true, true, true, true, true, true, true, true, true, true, true, true, false, true, false, false, false, false, false, false, false, false, false, false, false, false] rfl rfl (any_of HT_.out (by kernel_rfl)) (fun _ _ _ h => h) (Or.inl ⟨by rfl, ?_⟩) ?_ ?_
       rotate_left
       ·intro w'
        go_simp; with_reducible rfl
       rotate_left
       ·simp only [Act.put, YM, YN, YO, i64_w, i32_w]
        rfl
       refine pure_ (i := 20) (N := some 56) (v := ?_) (a' := ?_) #[true, true, true, true, true, true, true, true, true, true, true, true, true, true, true, true, true, true, false, true, true, false, false, false, false, false, false, false, false, false, false, false] rfl rfl (any_of HT_.out (by kernel_rfl)) (fun _ _ _ h => h) (Or.inl ⟨by rfl, ?_⟩) ?_ ?_
       rotate_left
       ·intro w'
        go_simp; with_reducible rfl
       rotate_left
       ·simp only [Act.put, YM, YN, YO, i64_w, i32_w]
        rfl
       refine pure_ (i := 21) (N := some 57) (v := ?_) (a' := ?_) #[true, true, true, true, true, true, true, true, true, true, true, true, true, true, true, true, true, true, false, true, true, true, false, false, false, false, false, false, false, false, false, false] rfl rfl (any_of HT_.out (by kernel_rfl)) (fun _ _ _ h => h) (Or.inl ⟨by rfl, ?_⟩) ?_ ?_
       rotate_left
       ·intro w'
        go_simp; with_reducible rfl
       rotate_left
       ·simp only [Act.put, YM, YN, YO, i64_w, i32_w]
        rfl
       refine take_ (i := 18) (N := some 54) (v := ?_) (a' := ?_) #[true, true, true, true, true, true, true, true, true, true, true, true, true, true, true, true, true, true, true, true, true, true, false, false, false, false, false, false, false, false, false, false] rfl rfl (take_ofW HT_.out HW_.out (by kernel_rfl)) (fun _ _ _ h => h) (Or.inl ⟨by rfl, ?_⟩) hHeld ?_ ?_
       rotate_left
       ·rintro w' ⟨s0, s1, s2, s3, s4, s5, s6, s7, s8, s9, s10, s11, s12⟩
        go_simp; with_reducible rfl
       rotate_left
       ·simp only [Act.put, YM, YN, YO, i64_w, i32_w]
        rfl
       refine one_ (i := 22) (N := some 58) #[true, true, true, true, true, true, true, true, true, true, true, true, true, true, true, true, true, true, true, true, true, true, true, false, false, false, false, false, false, false, false, false] rfl rfl (one_of HT_.out (by kernel_rfl)) (by decide) (fun K hK => ?_)
       have hcv29 := Kd.C_string (P := Try.prog) (A := A2) (c := c2) Try.underlying28 Try.underlying5 Try.underlying9 (Kd.V_reads' HO360.out).2.2
       refine value_ (w1 := ?_) (v := ?_) (by rfl) rfl ?_ ?_
       rotate_left 2
       ·go_simp
        constructor
        ·rfl
        rfl
       clear hcv29
       refine hK.out _ _ ⟨(YI BK351.out 0).trans rfl, (YI BK351.out 1).trans rfl, (YI BK351.out 2).trans rfl, (YI BK351.out 3).trans rfl, (YI BK351.out 4).trans rfl, (YI BK351.out 5).trans rfl, (YI BK351.out 6).trans rfl, (YI BK351.out 7).trans rfl, (YI BK351.out 8).trans rfl, (YI BK351.out 9).trans rfl, (YI BK351.out 10).trans rfl, (YI BK351.out 11).trans rfl, (own_string (P := Try.prog) Try.underlying28 Try.underlying5 Try.underlying9 (Kd.own_of_R (by (with_reducible repeat (first | apply YS | apply YT | apply YU)); exact HO354.out)))⟩ (fun hHeld => ?_)
       clear hK K
       refine norm_ (a' := ?_) ?_ ?_
       rotate_left
       ·show Act.put _ (some 58) _ = _
        simp only [Act.put, YM, YN, YO, i64_w, i32_w]
        rfl
       refine pure_ (i := 23) (N := some 59) (v := ?_) (a' := ?_) #[true, true, true, true, true, true, true, true, true, true, true, true, true, true, true, true, true, true, true, true, true, true, true, true, false, false, false, false, false, false, false, false] rfl rfl (any_of HT_.out (by kernel_rfl)) (fun _ _ _ h => h) (Or.inl ⟨by rfl, ?_⟩) ?_ ?_
       rotate_left
       ·intro w'
        go_simp; with_reducible rfl
       rotate_left
       ·simp only [Act.put, YM, YN, YO, i64_w, i32_w]
        rfl
       refine pure_ (i := 24) (N := some 60) (v := ?_) (a' := ?_) #[true, true, true, true, true, true, true, true, true, true, true, true, true, true, true, true, true, true, true, true, true, true, true, true, true, false, false, false, false, false, false, false] rfl rfl (any_of HT_.out (by kernel_rfl)) (fun _ _ _ h => h) (Or.inl ⟨by rfl, ?_⟩) ?_ ?_
       rotate_left
       ·intro w'
        go_simp; with_reducible rfl
       rotate_left
       ·simp only [Act.put, YM, YN, YO, i64_w, i32_w]
        rfl
       refine pure_ (i := 25) (N := some 61) (v := ?_) (a' := ?_) #[true, true, true, true, true, true, true, true, true, true, true, true, true, true, true, true, true, true, true, true, true, true, true, true, true, true, false, false, false, false, false, false] rfl rfl (any_of HT_.out (by kernel_rfl)) (fun _ _ _ h => h) (Or.inl ⟨by rfl, ?_⟩) ?_ ?_
       rotate_left
       ·intro w'
        go_simp; with_reducible rfl
       rotate_left
       ·simp only [Act.put, YM, YN, YO, i64_w, i32_w]
        rfl
       refine pure_ (i := 28) (N := some 64) (v := ?_) (a' := ?_) #[true, true, true, true, true, true, true, true, true, true, true, true, true, true, true, true, true, true, true, true, true, true, true, true, true, true, false, false, true, false, false, false] rfl rfl (any_of HT_.out (by kernel_rfl)) (fun _ _ _ h => h) (Or.inl ⟨by rfl, ?_⟩) ?_ ?_
       rotate_left
       ·intro w'
        go_simp; with_reducible rfl
       rotate_left
       ·simp only [Act.put, YM, YN, YO, i64_w, i32_w]
        rfl
       refine take_ (i := 26) (N := some 62) (v := ?_) (a' := ?_) #[true, true, true, true, true, true, true, true, true, true, true, true, true, true, true, true, true, true, true, true, true, true, true, true, true, true, true, false, true, false, false, false] rfl rfl (take_ofW HT_.out HW_.out (by kernel_rfl)) (fun _ _ _ h => h) (Or.inl ⟨by rfl, ?_⟩) hHeld ?_ ?_
       rotate_left
       ·rintro w' ⟨s0, s1, s2, s3, s4, s5, s6, s7, s8, s9, s10, s11, s12⟩
        go_simp; with_reducible rfl
       rotate_left
       ·simp only [Act.put, YM, YN, YO, i64_w, i32_w]
        rfl
       refine one_ (i := 27) (N := some 63) #[true, true, true, true, true, true, true, true, true, true, true, true, true, true, true, true, true, true, true, true, true, true, true, true, true, true, true, true, true, false, false, false] rfl rfl (one_of HT_.out (by kernel_rfl)) (by decide) (fun K hK => ?_)
       refine goes_ Try.func12 (by kernel_rfl) rfl #[.agg #[.int .i64 t337, .int .i64 t338, .bool t339, .int .i64 t340, .int .i64 t341, .int .i64 t342, .int .i64 t343, .int .i64 t344, .int .i64 t345, .int .i64 t346, .int .i64 t347, .int .i64 t348]] (by rfl) rfl rfl (by (try simp only [YP, List.map_cons, List.map_nil]); first | done | rfl | (simp only [YR, YQ]; rfl)) ?_
       with_reducible refine (object_Size.calls kj3 t337 t338 t339 t340 t341 t342 t343 t344 t345 t346 t347 t348 t361 _ A25.out).mono ?_
       rintro e w30 ⟨rfl, hb⟩
       refine ⟨_, rfl, ?_⟩
       have n0_ := YL (Kd.V_below (by (with_reducible repeat (first | apply Kd.V_alloc | apply Kd.V_drewN | apply Kd.V_drew)); exact HO_1.out) hb)
       have n1_ := YL (Kd.V_below (by (with_reducible repeat (first | apply Kd.V_alloc | apply Kd.V_drewN | apply Kd.V_drew)); exact HO_2.out) hb)
       have n2_ := YL (YV (by (with_reducible repeat (first | apply YS | apply YT | apply YU)); exact HO354.out) hb)
       have n3_ := YL (Kd.V_below (by (with_reducible repeat (first | apply Kd.V_alloc | apply Kd.V_drewN | apply Kd.V_drew)); exact HO360.out) hb)
       have n4_ := YL (YK (g := gb336) (o := .cells #[.int .i64 a0_0, .int .i64 a0_1, .bool a0_2, .int .i64 a0_3, .int .i64 a0_4, .int .i64 a0_5, .int .i64 a0_6, .int .i64 a0_7, .int .i64 a0_8, .int .i64 a0_9, .int .i64 a0_10, .int .i64 a0_11] 27 (0, 0)) (by (with_reducible repeat (first | refine YF ?_ _ | refine YG ?_ | refine YH ?_ _)); exact BK336.out) hb)
       have n5_ := YL (YK (g := gb351) (o := .cells #[.int .i64 t337, .int .i64 t338, .bool t339, .int .i64 t340, .int .i64 t341, .int .i64 t342, .int .i64 t343, .int .i64 t344, .int .i64 t345, .int .i64 t346, .int .i64 t347, .int .i64 t348] 27 (0, 0)) (by (with_reducible repeat (first | refine YF ?_ _ | refine YG ?_ | refine YH ?_ _)); exact BK351.out) hb)
       have n6_ := YL (YD (by repeat (first | (with_reducible first | exact HB.out | apply YA | apply YB | apply YC | refine below_set ?_ GE336.out | refine below_set ?_ GE351.out) | exact HB.out)) hb)
       clear HO_1; clear HO_2; clear HO354; clear HO360; clear BK336; clear BK351; clear HB; have HO_1 := n0_; have HO_2 := n1_; have HO354 := n2_; have HO360 := n3_; have BK336 := n4_; have BK351 := n5_; have HB := n6_; clear n0_ n1_ n2_ n3_ n4_ n5_ n6_; (try clear hb); (try clear hb2); (try clear hk); (try clear hi)
       refine hK.out _ _ ⟨(YI BK351.out 0).trans rfl, (YI BK351.out 1).trans rfl, (YI BK351.out 2).trans rfl, (YI BK351.out 3).trans rfl, (YI BK351.out 4).trans rfl, (YI BK351.out 5).trans rfl, (YI BK351.out 6).trans rfl, (YI BK351.out 7).trans rfl, (YI BK351.out 8).trans rfl, (YI BK351.out 9).trans rfl, (YI BK351.out 10).trans rfl, (YI BK351.out 11).trans rfl, (own_string (P := Try.prog) Try.underlying28 Try.underlying5 Try.underlying9 (Kd.own_of_R (by (with_reducible repeat (first | apply YS | apply YT | apply YU)); exact HO354.out)))⟩ (fun hHeld => ?_)
       clear hK K
       refine norm_ (a' := ?_) ?_ ?_
       rotate_left
       ·show Act.put _ (some 63) _ = _
        simp only [Act.put, YM, YN, YO, i64_w, i32_w]
        rfl
       refine pure_ (i := 29) (N := some 65) (v := ?_) (a' := ?_) #[true, true, true, true, true, true, true, true, true, true, true, true, true, true, true, true, true, true, true, true, true, true, true, true, true, true, true, true, true, true, false, false] rfl rfl (any_of HT_.out (by kernel_rfl)) (fun _ _ _ h => h) (Or.inl ⟨by rfl, ?_⟩) ?_ ?_
       rotate_left
       ·intro w'
        go_simp; with_reducible rfl
       rotate_left
       ·simp only [Act.put, YM, YN, YO, i64_w, i32_w]
        rfl
       refine pure_ (i := 30) (N := some 66) (v := ?_) (a' := ?_) #[true, true, true, true, true, true, true, true, true, true, true, true, true, true, true, true, true, true, true, true, true, true, true, true, true, true, true, true, true, true, true, false] rfl rfl (any_of HT_.out (by kernel_rfl)) (fun _ _ _ h => h) (Or.inl ⟨by rfl, ?_⟩) ?_ ?_
       rotate_left
       ·intro w'
        go_simp; with_reducible rfl
       rotate_left
       ·simp only [Act.put, YM, YN, YO, i64_w, i32_w]
        rfl
       refine pure_ (i := 31) (N := some 67) (v := ?_) (a' := ?_) #[true, true, true, true, true, true, true, true, true, true, true, true, true, true, true, true, true, true, true, true, true, true, true, true, true, true, true, true, true, true, true, true] rfl rfl (any_of HT_.out (by kernel_rfl)) (fun _ _ _ h => h) (Or.inl ⟨by rfl, ?_⟩) ?_ ?_
       rotate_left
       ·intro w'
        go_simp; with_reducible rfl
       rotate_left
       ·simp only [Act.put, YM, YN, YO, i64_w, i32_w]
        rfl
       refine done_ (done_of HT_.out (by kernel_rfl)) ?_
       try go_wp2
       go_meet
       case rel => exact ⟨_, ((t361 != t349)), (by first | rfl | (simp; done) | (simp [*]; done)), H', ⟨by have := HJ3.out; first | omega | exact Nat.le_refl _⟩, ⟨by (with_reducible repeat (first | apply Kd.V_alloc | apply Kd.V_drewN | apply Kd.V_drew)); exact Kd.V_mono HO_1.out (fun _ hk => by first | exact ⟨hk.1.1.1, ⟨hk.1.1.2, hk.1.2⟩⟩ | exact trivial | (simp [hk]; done) | simp_all)⟩, ⟨by (with_reducible repeat (first | apply Kd.V_alloc | apply Kd.V_drewN | apply Kd.V_drew)); exact Kd.V_mono HO_2.out (fun _ hk => by first | exact ⟨hk.1.1.1, ⟨hk.1.1.2, hk.1.2⟩⟩ | exact trivial | (simp [hk]; done) | simp_all)⟩, ⟨by (with_reducible repeat (first | refine YF ?_ _ | refine YG ?_ | refine YH ?_ _)); exact BK336.out⟩, ⟨by (with_reducible repeat (first | refine YF ?_ _ | refine YG ?_ | refine YH ?_ _)); exact BK351.out⟩, ⟨by repeat (first | (with_reducible first | exact HB.out | apply YA | apply YB | apply YC | refine below_set ?_ GE336.out | refine below_set ?_ GE351.out) | exact HB.out)⟩⟩
      rw [if_neg c24] at H
      have c24b0 : ((strOfNums t352).toList == (strOfNums y356).toList) = false := beq_eq_false_iff_ne.mpr c24
      have c24b1 : ((strOfNums t352).toList != (strOfNums y356).toList) = true := bne_iff_ne.mpr c24
      have H' := YL H
      clear H
      try go_wp2
      have n0_ := YL (Kd.V_drew HO_1.out)
      have n1_ := YL (Kd.V_drew HO_2.out)
      have n2_ := YL (YU HO354.out)
      have n3_ := YL (YG BK336.out)
      have n4_ := YL (YG BK351.out)
      have n5_ := YL (YC HB.out)
      clear HO_1; clear HO_2; clear HO354; clear BK336; clear BK351; clear HB; have HO_1 := n0_; have HO_2 := n1_; have HO354 := n2_; have BK336 := n3_; have BK351 := n4_; have HB := n5_; clear n0_ n1_ n2_ n3_ n4_ n5_
      have q33 : (t349 : Int) ≤ ((l2.length : Int) : Int) := of_decide_eq_true (by first | (with_reducible assumption) | assumption)
      obtain ⟨i033, hi033, _, hsz33, _⟩ := info_parts info5
      have hroom33 : l2.length ≤ c2 := (Kd.V_reads' HO_2.out).2.1
      have hC33 : Kd.F (Kd.int .u8) _ _ A2 l2.length l2 := (Kd.V_at (base := w.heap.size) HO_2.out).2.2
      have hcut33 := cut_to (P := Try.prog) 28 5 .i64 Try.underlying28 hi033 A2 l2.length c2 t349 (of_decide_eq_true (by first | (with_reducible assumption) | assumption)) q33 hroom33
      have hr33 := Kd.F_take (m := (t349 : Int).toNat) hC33 (by omega)
      have hy33 : y356.length = (t349 : Int).toNat := (by rw [Ny356.out, YQ]; omega)
      rw [← Ny356.out] at hr33
      rw [← hy33] at hcut33
      have HO360 := YL (show Kd.V (Kd.int .u8) 5 _ w.heap.size _ (.slice A2 y356.length c2) y356 from Kd.V_mk (by omega) hr33)
      have HC360 := YL (show y356.length ≤ c2 from by omega)
      clear hr33 hC33 hroom33 hi033 hsz33; have KY33 := YL hy33; clear hy33
      replace q33 := eq_true q33
      refine start_ (n := 32) (S := fun w' => (convert 28 9 v353).run Try.prog w' = .ok (.string (strOfNums t352)) w') (ds := []) #[false, false, false, false, false, false, false, false, false, false, false, false, false, false, false, false, false, false, false, false, false, false, false, false, false, false, false, false, false, false, false, false] (by kernel_rfl) rfl rfl ((own_string (P := Try.prog) Try.underlying28 Try.underlying5 Try.underlying9 (Kd.own_of_R (by (with_reducible repeat (first | apply YS | apply YT | apply YU)); exact HO354.out)))) (fun hHeld => ?_); refine with_tabW thalweglaw04_ObjectBack.tab5 thalweglaw04_ObjectBack.bits5 (fun HT_ HW_ => ?_)
      generalize w15.drew = w31 at HO_1 HO_2 HO354 BK336 BK351 HB HO360 hHeld ⊢
      refine pure_ (i := 0) (N := some 36) (v := ?_) (a' := ?_) #[true, false, false, false, false, false, false, false, false, false, false, false, false, false, false, false, false, false, false, false, false, false, false, false, false, false, false, false, false, false, false, false] rfl rfl (any_of HT_.out (by kernel_rfl)) (fun _ _ _ h => h) (Or.inl ⟨by rfl, ?_⟩) ?_ ?_
      rotate_left
      ·intro w'
       go_simp; with_reducible rfl
      rotate_left
      ·simp only [Act.put, YM, YN, YO, i64_w, i32_w]
       rfl
      refine pure_ (i := 1) (N := some 37) (v := ?_) (a' := ?_) #[true, true, false, false, false, false, false, false, false, false, false, false, false, false, false, false, false, false, false, false, false, false, false, false, false, false, false, false, false, false, false, false] rfl rfl (any_of HT_.out (by kernel_rfl)) (fun _ _ _ h => h) (Or.inl ⟨by rfl, ?_⟩) ?_ ?_
      rotate_left
      ·intro w'
       go_simp; with_reducible rfl
      rotate_left
      ·simp only [Act.put, YM, YN, YO, i64_w, i32_w]
       rfl
      refine pure_ (i := 2) (N := some 38) (v := ?_) (a' := ?_) #[true, true, true, false, false, false, false, false, false, false, false, false, false, false, false, false, false, false, false, false, false, false, false, false, false, false, false, false, false, false, false, false] rfl rfl (any_of HT_.out (by kernel_rfl)) (fun _ _ _ h => h) (Or.inl ⟨by rfl, ?_⟩) ?_ ?_
      rotate_left
      ·intro w'
       go_simp; with_reducible rfl
      rotate_left
      ·simp only [Act.put, YM, YN, YO, i64_w, i32_w]
       rfl
      refine pure_ (i := 3) (N := some 39) (v := ?_) (a' := ?_) #[true, true, true, true, false, false, false, false, false, false, false, false, false, false, false, false, false, false, false, false, false, false, false, false, false, false, false, false, false, false, false, false] rfl rfl (any_of HT_.out (by kernel_rfl)) (fun _ _ _ h => h) (Or.inl ⟨by rfl, ?_⟩) ?_ ?_
      rotate_left
      ·intro w'
       go_simp; with_reducible rfl
      rotate_left
      ·simp only [Act.put, YM, YN, YO, i64_w, i32_w]
       rfl
      refine pure_ (i := 4) (N := some 40) (v := ?_) (a' := ?_) #[true, true, true, true, true, false, false, false, false, false, false, false, false, false, false, false, false, false, false, false, false, false, false, false, false, false, false, false, false, false, false, false] rfl rfl (any_of HT_.out (by kernel_rfl)) (fun _ _ _ h => h) (Or.inl ⟨by rfl, ?_⟩) ?_ ?_
      rotate_left
      ·intro w'
       go_simp; with_reducible rfl
      rotate_left
      ·simp only [Act.put, YM, YN, YO, i64_w, i32_w]
       rfl
      refine pure_ (i := 5) (N := some 41) (v := ?_) (a' := ?_) #[true, true, true, true, true, true, false, false, false, false, false, false, false, false, false, false, false, false, false, false, false, false, false, false, false, false, false, false, false, false, false, false] rfl rfl (any_of HT_.out (by kernel_rfl)) (fun _ _ _ h => h) (Or.inl ⟨by rfl, ?_⟩) ?_ ?_
      rotate_left
      ·intro w'
       go_simp; with_reducible rfl
      rotate_left
      ·simp only [Act.put, YM, YN, YO, i64_w, i32_w]
       rfl
      refine pure_ (i := 6) (N := some 42) (v := ?_) (a' := ?_) #[true, true, true, true, true, true, true, false, false, false, false, false, false, false, false, false, false, false, false, false, false, false, false, false, false, false, false, false, false, false, false, false] rfl rfl (any_of HT_.out (by kernel_rfl)) (fun _ _ _ h => h) (Or.inl ⟨by rfl, ?_⟩) ?_ ?_
      rotate_left
      ·intro w'
       go_simp; with_reducible rfl
      rotate_left
      ·simp only [Act.put, YM, YN, YO, i64_w, i32_w]
       rfl
      refine pure_ (i := 7) (N := some 43) (v := ?_) (a' := ?_) #[true, true, true, true, true, true, true, true, false, false, false, false, false, false, false, false, false, false, false, false, false, false, false, false, false, false, false, false, false, false, false, false] rfl rfl (any_of HT_.out (by kernel_rfl)) (fun _ _ _ h => h) (Or.inl ⟨by rfl, ?_⟩) ?_ ?_
      rotate_left
      ·intro w'
       go_simp; with_reducible rfl
      rotate_left
      ·simp only [Act.put, YM, YN, YO, i64_w, i32_w]
       rfl
      refine pure_ (i := 8) (N := some 44) (v := ?_) (a' := ?_) #[true, true, true, true, true, true, true, true, true, false, false, false, false, false, false, false, false, false, false, false, false, false, false, false, false, false, false, false, false, false, false, false] rfl rfl (any_of HT_.out (by kernel_rfl)) (fun _ _ _ h => h) (Or.inl ⟨by rfl, ?_⟩) ?_ ?_
      rotate_left
      ·intro w'
       go_simp; with_reducible rfl
      rotate_left
      ·simp only [Act.put, YM, YN, YO, i64_w, i32_w]
       rfl
      refine pure_ (i := 9) (N := some 45) (v := ?_) (a' := ?_) #[true, true, true, true, true, true, true, true, true, true, false, false, false, false, false, false, false, false, false, false, false, false, false, false, false, false, false, false, false, false, false, false] rfl rfl (any_of HT_.out (by kernel_rfl)) (fun _ _ _ h => h) (Or.inl ⟨by rfl, ?_⟩) ?_ ?_
      rotate_left
      ·intro w'
       go_simp; with_reducible rfl
      rotate_left
      ·simp only [Act.put, YM, YN, YO, i64_w, i32_w]
       rfl
      refine pure_ (i := 10) (N := some 46) (v := ?_) (a' := ?_) #[true, true, true, true, true, true, true, true, true, true, true, false, false, false, false, false, false, false, false, false, false, false, false, false, false, false, false, false, false, false, false, false] rfl rfl (any_of HT_.out (by kernel_rfl)) (fun _ _ _ h => h) (Or.inl ⟨by rfl, ?_⟩) ?_ ?_
      rotate_left
      ·intro w'
       go_simp; with_reducible rfl
      rotate_left
      ·simp only [Act.put, YM, YN, YO, i64_w, i32_w]
       rfl
      refine pure_ (i := 11) (N := some 47) (v := ?_) (a' := ?_) #[true, true, true, true, true, true, true, true, true, true, true, true, false, false, false, false, false, false, false, false, false, false, false, false, false, false, false, false, false, false, false, false] rfl rfl (any_of HT_.out (by kernel_rfl)) (fun _ _ _ h => h) (Or.inl ⟨by rfl, ?_⟩) ?_ ?_
      rotate_left
      ·intro w'
       go_simp; with_reducible rfl
      rotate_left
      ·simp only [Act.put, YM, YN, YO, i64_w, i32_w]
       rfl
      refine pure_ (i := 12) (N := some 48) (v := ?_) (a' := ?_) #[true, true, true, true, true, true, true, true, true, true, true, true, true, false, false, false, false, false, false, false, false, false, false, false, false, false, false, false, false, false, false, false] rfl rfl (any_of HT_.out (by kernel_rfl)) (fun _ _ _ h => h) (Or.inl ⟨by rfl, ?_⟩) ?_ ?_
      rotate_left
      ·intro w'
       go_simp; with_reducible rfl
      rotate_left
      ·simp only [Act.put, YM, YN, YO, i64_w, i32_w]
       rfl
      refine pure_ (i := 13) (N := some 49) (v := ?_) (a' := ?_) #[true, true, true, true, true, true, true, true, true, true, true, true, true, true, false, false, false, false, false, false, false, false, false, false, false, false, false, false, false, false, false, false] rfl rfl (any_of HT_.out (by kernel_rfl)) (fun _ _ _ h => h) (Or.inl ⟨by rfl, ?_⟩) ?_ ?_
      rotate_left
      ·intro w'
       go_simp; with_reducible rfl
      rotate_left
      ·simp only [Act.put, YM, YN, YO, i64_w, i32_w]
       rfl
      refine pure_ (i := 14) (N := some 50) (v := ?_) (a' := ?_) #[true, true, true, true, true, true, true, true, true, true, true, true, true, true, true, false, false, false, false, false, false, false, false, false, false, false, false, false, false, false, false, false] rfl rfl (any_of HT_.out (by kernel_rfl)) (fun _ _ _ h => h) (Or.inl ⟨by rfl, ?_⟩) ?_ ?_
      rotate_left
      ·intro w'
       go_simp; with_reducible rfl
      rotate_left
      ·simp only [Act.put, YM, YN, YO, i64_w, i32_w]
       rfl
      refine pure_ (i := 15) (N := some 51) (v := ?_) (a' := ?_) #[true, true, true, true, true, true, true, true, true, true, true, true, true, true, true, true, false, false, false, false, false, false, false, false, false, false, false, false, false, false, false, false] rfl rfl (any_of HT_.out (by kernel_rfl)) (fun _ _ _ h => h) (Or.inl ⟨by rfl, ?_⟩) ?_ ?_
      rotate_left
      ·intro w'
       go_simp; with_reducible rfl
      rotate_left
      ·simp only [Act.put, YM, YN, YO, i64_w, i32_w]
       rfl
      refine pure_ (i := 16) (N := some 52) (v := ?_) (a' := ?_) #[true, true, true, true, true, true, true, true, true, true, true, true, true, true, true, true, true, false, false, false, false, false, false, false, false, false, false, false, false, false, false, false] rfl rfl (any_of HT_.out (by kernel_rfl)) (fun _ _ _ h => h) (Or.inl ⟨by rfl, ?_⟩) ?_ ?_
      rotate_left
      ·intro w'
       go_simp; with_reducible rfl
      rotate_left
      ·simp only [Act.put, YM, YN, YO, i64_w, i32_w]
       rfl
      refine pure_ (i := 17) (N := some 53) (v := ?_) (a' := ?_) #[true, true, true, true, true, true, true, true, true, true, true, true, true, true, true, true, true, true, false, false, false, false, false, false, false, false, false, false, false, false, false, false] rfl rfl (any_of HT_.out (by kernel_rfl)) (fun _ _ _ h => h) (Or.inl ⟨by rfl, ?_⟩) ?_ ?_
      rotate_left
      ·intro w'
       go_simp; with_reducible rfl
      rotate_left
      ·simp only [Act.put, YM, YN, YO, i64_w, i32_w]
       rfl
      refine pure_ (i := 19) (N := some 55) (v := ?_) (a' := ?_) #[true, true, true, true, true, true, true, true, true, true, true, true, true, true, true, true, true, true, false, true, false, false, false, false, false, false, false, false, false, false, false, false] rfl rfl (any_of HT_.out (by kernel_rfl)) (fun _ _ _ h => h) (Or.inl ⟨by rfl, ?_⟩) ?_ ?_
      rotate_left
      ·intro w'
       go_simp; with_reducible rfl
      rotate_left
      ·simp only [Act.put, YM, YN, YO, i64_w, i32_w]
       rfl
      refine pure_ (i := 20) (N := some 56) (v := ?_) (a' := ?_) #[true, true, true, true, true, true, true, true, true, true, true, true, true, true, true, true, true, true, false, true, true, false, false, false, false, false, false, false, false, false, false, false] rfl rfl (any_of HT_.out (by kernel_rfl)) (fun _ _ _ h => h) (Or.inl ⟨by rfl, ?_⟩) ?_ ?_
      rotate_left
      ·intro w'
       go_simp; with_reducible rfl
      rotate_left
      ·simp only [Act.put, YM, YN, YO, i64_w, i32_w]
       rfl
      refine pure_ (i := 21) (N := some 57) (v := ?_) (a' := ?_) #[true, true, true, true, true, true, true, true, true, true, true, true, true, true, true, true, true, true, false, true, true, true, false, false, false, false, false, false, false, false, false, false] rfl rfl (any_of HT_.out (by kernel_rfl)) (fun _ _ _ h => h) (Or.inl ⟨by rfl, ?_⟩) ?_ ?_
      rotate_left
      ·intro w'
       go_simp; with_reducible rfl
      rotate_left
      ·simp only [Act.put, YM, YN, YO, i64_w, i32_w]
       rfl
      refine take_ (i := 18) (N := some 54) (v := ?_) (a' := ?_) #[true, true, true, true, true, true, true, true, true, true, true, true, true, true, true, true, true, true, true, true, true, true, false, false, false, false, false, false, false, false, false, false] rfl rfl (take_ofW HT_.out HW_.out (by kernel_rfl)) (fun _ _ _ h => h) (Or.inl ⟨by rfl, ?_⟩) hHeld ?_ ?_
      rotate_left
      ·intro w' s0
       go_simp; with_reducible rfl
      rotate_left
      ·simp only [Act.put, YM, YN, YO, i64_w, i32_w]
       rfl
      refine one_ (i := 22) (N := some 58) #[true, true, true, true, true, true, true, true, true, true, true, true, true, true, true, true, true, true, true, true, true, true, true, false, false, false, false, false, false, false, false, false] rfl rfl (one_of HT_.out (by kernel_rfl)) (by decide) (fun K hK => ?_)
      have hcv34 := Kd.C_string (P := Try.prog) (A := A2) (c := c2) Try.underlying28 Try.underlying5 Try.underlying9 (Kd.V_reads' HO360.out).2.2
      refine value_ (w1 := ?_) (v := ?_) (by rfl) rfl ?_ ?_
      rotate_left 2
      ·go_simp
       constructor
       ·rfl
       rfl
      clear hcv34
      refine hK.out _ _ ((own_string (P := Try.prog) Try.underlying28 Try.underlying5 Try.underlying9 (Kd.own_of_R (by (with_reducible repeat (first | apply YS | apply YT | apply YU)); exact HO354.out)))) (fun hHeld => ?_)
      clear hK K
      refine norm_ (a' := ?_) ?_ ?_
      rotate_left
      ·show Act.put _ (some 58) _ = _
       simp only [Act.put, YM, YN, YO, i64_w, i32_w]
       rfl
      refine pure_ (i := 23) (N := some 59) (v := ?_) (a' := ?_) #[true, true, true, true, true, true, true, true, true, true, true, true, true, true, true, true, true, true, true, true, true, true, true, true, false, false, false, false, false, false, false, false] rfl rfl (any_of HT_.out (by kernel_rfl)) (fun _ _ _ h => h) (Or.inl ⟨by rfl, ?_⟩) ?_ ?_
      rotate_left
      ·intro w'
       go_simp; with_reducible rfl
      rotate_left
      ·simp only [Act.put, YM, YN, YO, i64_w, i32_w]
       rfl
      refine pure_ (i := 24) (N := some 60) (v := ?_) (a' := ?_) #[true, true, true, true, true, true, true, true, true, true, true, true, true, true, true, true, true, true, true, true, true, true, true, true, true, false, false, false, false, false, false, false] rfl rfl (any_of HT_.out (by kernel_rfl)) (fun _ _ _ h => h) (Or.inl ⟨by rfl, ?_⟩) ?_ ?_
      rotate_left
      ·intro w'
       go_simp; with_reducible rfl
      rotate_left
      ·simp only [Act.put, YM, YN, YO, i64_w, i32_w]
       rfl
      refine pure_ (i := 25) (N := some 61) (v := ?_) (a' := ?_) #[true, true, true, true, true, true, true, true, true, true, true, true, true, true, true, true, true, true, true, true, true, true, true, true, true, true, false, false, false, false, false, false] rfl rfl (any_of HT_.out (by kernel_rfl)) (fun _ _ _ h => h) (Or.inl ⟨by rfl, ?_⟩) ?_ ?_
      rotate_left
      ·intro w'
       go_simp; with_reducible rfl
      rotate_left
      ·simp only [Act.put, YM, YN, YO, i64_w, i32_w]
       rfl
      refine pure_ (i := 26) (N := some 62) (v := undef) (a' := ?_) #[true, true, true, true, true, true, true, true, true, true, true, true, true, true, true, true, true, true, true, true, true, true, true, true, true, true, true, false, false, false, false, false] rfl rfl (any_of HT_.out (by kernel_rfl)) (fun _ _ _ h => h) (Or.inr ⟨by rfl, rfl⟩) ?_ ?_
      rotate_left
      ·simp only [Act.put, YM, YN, YO, i64_w, i32_w]
       rfl
      refine pure_ (i := 27) (N := some 63) (v := undef) (a' := ?_) #[true, true, true, true, true, true, true, true, true, true, true, true, true, true, true, true, true, true, true, true, true, true, true, true, true, true, true, true, false, false, false, false] rfl rfl (any_of HT_.out (by kernel_rfl)) (fun _ _ _ h => h) (Or.inr ⟨by rfl, rfl⟩) ?_ ?_
      rotate_left
      ·simp only [Act.put, YM, YN, YO, i64_w, i32_w]
       rfl
      refine pure_ (i := 28) (N := some 64) (v := undef) (a' := ?_) #[true, true, true, true, true, true, true, true, true, true, true, true, true, true, true, true, true, true, true, true, true, true, true, true, true, true, true, true, true, false, false, false] rfl rfl (any_of HT_.out (by kernel_rfl)) (fun _ _ _ h => h) (Or.inr ⟨by rfl, rfl⟩) ?_ ?_
      rotate_left
      ·simp only [Act.put, YM, YN, YO, i64_w, i32_w]
       rfl
      refine pure_ (i := 29) (N := some 65) (v := undef) (a' := ?_) #[true, true, true, true, true, true, true, true, true, true, true, true, true, true, true, true, true, true, true, true, true, true, true, true, true, true, true, true, true, true, false, false] rfl rfl (any_of HT_.out (by kernel_rfl)) (fun _ _ _ h => h) (Or.inr ⟨by rfl, rfl⟩) ?_ ?_
      rotate_left
      ·simp only [Act.put, YM, YN, YO, i64_w, i32_w]
       rfl
      refine pure_ (i := 30) (N := some 66) (v := ?_) (a' := ?_) #[true, true, true, true, true, true, true, true, true, true, true, true, true, true, true, true, true, true, true, true, true, true, true, true, true, true, true, true, true, true, true, false] rfl rfl (any_of HT_.out (by kernel_rfl)) (fun _ _ _ h => h) (Or.inl ⟨by rfl, ?_⟩) ?_ ?_
      rotate_left
      ·intro w'
       go_simp; with_reducible rfl
      rotate_left
      ·simp only [Act.put, YM, YN, YO, i64_w, i32_w]
       rfl
      refine pure_ (i := 31) (N := some 67) (v := ?_) (a' := ?_) #[true, true, true, true, true, true, true, true, true, true, true, true, true, true, true, true, true, true, true, true, true, true, true, true, true, true, true, true, true, true, true, true] rfl rfl (any_of HT_.out (by kernel_rfl)) (fun _ _ _ h => h) (Or.inl ⟨by rfl, ?_⟩) ?_ ?_
      rotate_left
      ·intro w'
       go_simp; with_reducible rfl
      rotate_left
      ·simp only [Act.put, YM, YN, YO, i64_w, i32_w]
       rfl
      refine done_ (done_of HT_.out (by kernel_rfl)) ?_
      try go_wp2
      go_meet
      case rel => exact ⟨_, (true), (by first | rfl | (simp; done) | (simp [*]; done)), H', ⟨by have := HJ3.out; first | omega | exact Nat.le_refl _⟩, ⟨by (with_reducible repeat (first | apply Kd.V_alloc | apply Kd.V_drewN | apply Kd.V_drew)); exact Kd.V_mono HO_1.out (fun _ hk => by first | exact ⟨hk.1.1.1, ⟨hk.1.1.2, hk.1.2⟩⟩ | exact trivial | (simp [hk]; done) | simp_all)⟩, ⟨by (with_reducible repeat (first | apply Kd.V_alloc | apply Kd.V_drewN | apply Kd.V_drew)); exact Kd.V_mono HO_2.out (fun _ hk => by first | exact ⟨hk.1.1.1, ⟨hk.1.1.2, hk.1.2⟩⟩ | exact trivial | (simp [hk]; done) | simp_all)⟩, ⟨by (with_reducible repeat (first | refine YF ?_ _ | refine YG ?_ | refine YH ?_ _)); exact BK336.out⟩, ⟨by (with_reducible repeat (first | refine YF ?_ _ | refine YG ?_ | refine YH ?_ _)); exact BK351.out⟩, ⟨by repeat (first | (with_reducible first | exact HB.out | apply YA | apply YB | apply YC | refine below_set ?_ GE336.out | refine below_set ?_ GE351.out) | exact HB.out)⟩⟩
     rw [if_neg c17] at H
     have c17b0 : (t355 == t350) = false := beq_eq_false_iff_ne.mpr c17
     have c17b1 : (t355 != t350) = true := bne_iff_ne.mpr c17
     have H' := YL H
     clear H
     try go_wp2
     have n0_ := YL (Kd.V_drew HO_1.out)
     have n1_ := YL (Kd.V_drew HO_2.out)
     have n2_ := YL (YU HO354.out)
     have n3_ := YL (YG BK336.out)
     have n4_ := YL (YG BK351.out)
     have n5_ := YL (YC HB.out)
     clear HO_1; clear HO_2; clear HO354; clear BK336; clear BK351; clear HB; have HO_1 := n0_; have HO_2 := n1_; have HO354 := n2_; have BK336 := n3_; have BK351 := n4_; have HB := n5_; clear n0_ n1_ n2_ n3_ n4_ n5_
     refine start_ (n := 32) (S := fun w' => True) (ds := []) #[false, false, false, false, false, false, false, false, false, false, false, false, false, false, false, false, false, false, false, false, false, false, false, false, false, false, false, false, false, false, false, false] (by kernel_rfl) rfl rfl trivial (fun hHeld => ?_); refine with_tabW thalweglaw04_ObjectBack.tab5 thalweglaw04_ObjectBack.bits5 (fun HT_ HW_ => ?_)
     generalize w15.drew = w35 at HO_1 HO_2 HO354 BK336 BK351 HB hHeld ⊢
     refine pure_ (i := 0) (N := some 36) (v := ?_) (a' := ?_) #[true, false, false, false, false, false, false, false, false, false, false, false, false, false, false, false, false, false, false, false, false, false, false, false, false, false, false, false, false, false, false, false] rfl rfl (any_of HT_.out (by kernel_rfl)) (fun _ _ _ h => h) (Or.inl ⟨by rfl, ?_⟩) ?_ ?_
     rotate_left
     ·intro w'
      go_simp; with_reducible rfl
     rotate_left
     ·simp only [Act.put, YM, YN, YO, i64_w, i32_w]
      rfl
     refine pure_ (i := 1) (N := some 37) (v := ?_) (a' := ?_) #[true, true, false, false, false, false, false, false, false, false, false, false, false, false, false, false, false, false, false, false, false, false, false, false, false, false, false, false, false, false, false, false] rfl rfl (any_of HT_.out (by kernel_rfl)) (fun _ _ _ h => h) (Or.inl ⟨by rfl, ?_⟩) ?_ ?_
     rotate_left
     ·intro w'
      go_simp; with_reducible rfl
     rotate_left
     ·simp only [Act.put, YM, YN, YO, i64_w, i32_w]
      rfl
     refine pure_ (i := 2) (N := some 38) (v := ?_) (a' := ?_) #[true, true, true, false, false, false, false, false, false, false, false, false, false, false, false, false, false, false, false, false, false, false, false, false, false, false, false, false, false, false, false, false] rfl rfl (any_of HT_.out (by kernel_rfl)) (fun _ _ _ h => h) (Or.inl ⟨by rfl, ?_⟩) ?_ ?_
     rotate_left
     ·intro w'
      go_simp; with_reducible rfl
     rotate_left
     ·simp only [Act.put, YM, YN, YO, i64_w, i32_w]
      rfl
     refine pure_ (i := 3) (N := some 39) (v := ?_) (a' := ?_) #[true, true, true, true, false, false, false, false, false, false, false, false, false, false, false, false, false, false, false, false, false, false, false, false, false, false, false, false, false, false, false, false] rfl rfl (any_of HT_.out (by kernel_rfl)) (fun _ _ _ h => h) (Or.inl ⟨by rfl, ?_⟩) ?_ ?_
     rotate_left
     ·intro w'
      go_simp; with_reducible rfl
     rotate_left
     ·simp only [Act.put, YM, YN, YO, i64_w, i32_w]
      rfl
     refine pure_ (i := 4) (N := some 40) (v := ?_) (a' := ?_) #[true, true, true, true, true, false, false, false, false, false, false, false, false, false, false, false, false, false, false, false, false, false, false, false, false, false, false, false, false, false, false, false] rfl rfl (any_of HT_.out (by kernel_rfl)) (fun _ _ _ h => h) (Or.inl ⟨by rfl, ?_⟩) ?_ ?_
     rotate_left
     ·intro w'
      go_simp; with_reducible rfl
     rotate_left
     ·simp only [Act.put, YM, YN, YO, i64_w, i32_w]
      rfl
     refine pure_ (i := 5) (N := some 41) (v := ?_) (a' := ?_) #[true, true, true, true, true, true, false, false, false, false, false, false, false, false, false, false, false, false, false, false, false, false, false, false, false, false, false, false, false, false, false, false] rfl rfl (any_of HT_.out (by kernel_rfl)) (fun _ _ _ h => h) (Or.inl ⟨by rfl, ?_⟩) ?_ ?_
     rotate_left
     ·intro w'
      go_simp; with_reducible rfl
     rotate_left
     ·simp only [Act.put, YM, YN, YO, i64_w, i32_w]
      rfl
     refine pure_ (i := 6) (N := some 42) (v := ?_) (a' := ?_) #[true, true, true, true, true, true, true, false, false, false, false, false, false, false, false, false, false, false, false, false, false, false, false, false, false, false, false, false, false, false, false, false] rfl rfl (any_of HT_.out (by kernel_rfl)) (fun _ _ _ h => h) (Or.inl ⟨by rfl, ?_⟩) ?_ ?_
     rotate_left
     ·intro w'
      go_simp; with_reducible rfl
     rotate_left
     ·simp only [Act.put, YM, YN, YO, i64_w, i32_w]
      rfl
     refine pure_ (i := 7) (N := some 43) (v := undef) (a' := ?_) #[true, true, true, true, true, true, true, true, false, false, false, false, false, false, false, false, false, false, false, false, false, false, false, false, false, false, false, false, false, false, false, false] rfl rfl (any_of HT_.out (by kernel_rfl)) (fun _ _ _ h => h) (Or.inr ⟨by rfl, rfl⟩) ?_ ?_
     rotate_left
     ·simp only [Act.put, YM, YN, YO, i64_w, i32_w]
      rfl
     refine pure_ (i := 8) (N := some 44) (v := undef) (a' := ?_) #[true, true, true, true, true, true, true, true, true, false, false, false, false, false, false, false, false, false, false, false, false, false, false, false, false, false, false, false, false, false, false, false] rfl rfl (any_of HT_.out (by kernel_rfl)) (fun _ _ _ h => h) (Or.inr ⟨by rfl, rfl⟩) ?_ ?_
     rotate_left
     ·simp only [Act.put, YM, YN, YO, i64_w, i32_w]
      rfl
     refine pure_ (i := 9) (N := some 45) (v := ?_) (a' := ?_) #[true, true, true, true, true, true, true, true, true, true, false, false, false, false, false, false, false, false, false, false, false, false, false, false, false, false, false, false, false, false, false, false] rfl rfl (any_of HT_.out (by kernel_rfl)) (fun _ _ _ h => h) (Or.inl ⟨by rfl, ?_⟩) ?_ ?_
     rotate_left
     ·intro w'
      go_simp; with_reducible rfl
     rotate_left
     ·simp only [Act.put, YM, YN, YO, i64_w, i32_w]
      rfl
     refine pure_ (i := 10) (N := some 46) (v := ?_) (a' := ?_) #[true, true, true, true, true, true, true, true, true, true, true, false, false, false, false, false, false, false, false, false, false, false, false, false, false, false, false, false, false, false, false, false] rfl rfl (any_of HT_.out (by kernel_rfl)) (fun _ _ _ h => h) (Or.inl ⟨by rfl, ?_⟩) ?_ ?_
     rotate_left
     ·intro w'
      go_simp; with_reducible rfl
     rotate_left
     ·simp only [Act.put, YM, YN, YO, i64_w, i32_w]
      rfl
     refine pure_ (i := 11) (N := some 47) (v := undef) (a' := ?_) #[true, true, true, true, true, true, true, true, true, true, true, true, false, false, false, false, false, false, false, false, false, false, false, false, false, false, false, false, false, false, false, false] rfl rfl (any_of HT_.out (by kernel_rfl)) (fun _ _ _ h => h) (Or.inr ⟨by rfl, rfl⟩) ?_ ?_
     rotate_left
     ·simp only [Act.put, YM, YN, YO, i64_w, i32_w]
      rfl
     refine pure_ (i := 12) (N := some 48) (v := undef) (a' := ?_) #[true, true, true, true, true, true, true, true, true, true, true, true, true, false, false, false, false, false, false, false, false, false, false, false, false, false, false, false, false, false, false, false] rfl rfl (any_of HT_.out (by kernel_rfl)) (fun _ _ _ h => h) (Or.inr ⟨by rfl, rfl⟩) ?_ ?_
     rotate_left
     ·simp only [Act.put, YM, YN, YO, i64_w, i32_w]
      rfl
     refine pure_ (i := 13) (N := some 49) (v := undef) (a' := ?_) #[true, true, true, true, true, true, true, true, true, true, true, true, true, true, false, false, false, false, false, false, false, false, false, false, false, false, false, false, false, false, false, false] rfl rfl (any_of HT_.out (by kernel_rfl)) (fun _ _ _ h => h) (Or.inr ⟨by rfl, rfl⟩) ?_ ?_
     rotate_left
     ·simp only [Act.put, YM, YN, YO, i64_w, i32_w]
      rfl
     refine pure_ (i := 14) (N := some 50) (v := undef) (a' := ?_) #[true, true, true, true, true, true, true, true, true, true, true, true, true, true, true, false, false, false, false, false, false, false, false, false, false, false, false, false, false, false, false, false] rfl rfl (any_of HT_.out (by kernel_rfl)) (fun _ _ _ h => h) (Or.inr ⟨by rfl, rfl⟩) ?_ ?_
     rotate_left
     ·simp only [Act.put, YM, YN, YO, i64_w, i32_w]
      rfl
     refine pure_ (i := 15) (N := some 51) (v := ?_) (a' := ?_) #[true, true, true, true, true, true, true, true, true, true, true, true, true, true, true, true, false, false, false, false, false, false, false, false, false, false, false, false, false, false, false, false] rfl rfl (any_of HT_.out (by kernel_rfl)) (fun _ _ _ h => h) (Or.inl ⟨by rfl, ?_⟩) ?_ ?_
     rotate_left
     ·intro w'
      go_simp; with_reducible rfl
     rotate_left
     ·simp only [Act.put, YM, YN, YO, i64_w, i32_w]
      rfl
     refine pure_ (i := 16) (N := some 52) (v := ?_) (a' := ?_) #[true, true, true, true, true, true, true, true, true, true, true, true, true, true, true, true, true, false, false, false, false, false, false, false, false, false, false, false, false, false, false, false] rfl rfl (any_of HT_.out (by kernel_rfl)) (fun _ _ _ h => h) (Or.inl ⟨by rfl, ?_⟩) ?_ ?_
     rotate_left
     ·intro w'
      go_simp; with_reducible rfl
     rotate_left
     ·simp only [Act.put, YM, YN, YO, i64_w, i32_w]
      rfl
     refine pure_ (i := 17) (N := some 53) (v := undef) (a' := ?_) #[true, true, true, true, true, true, true, true, true, true, true, true, true, true, true, true, true, true, false, false, false, false, false, false, false, false, false, false, false, false, false, false] rfl rfl (any_of HT_.out (by kernel_rfl)) (fun _ _ _ h => h) (Or.inr ⟨by rfl, rfl⟩) ?_ ?_
     rotate_left
     ·simp only [Act.put, YM, YN, YO, i64_w, i32_w]
      rfl
     refine pure_ (i := 18) (N := some 54) (v := undef) (a' := ?_) #[true, true, true, true, true, true, true, true, true, true, true, true, true, true, true, true, true, true, true, false, false, false, false, false, false, false, false, false, false, false, false, false] rfl rfl (any_of HT_.out (by kernel_rfl)) (fun _ _ _ h => h) (Or.inr ⟨by rfl, rfl⟩) ?_ ?_
     rotate_left
     ·simp only [Act.put, YM, YN, YO, i64_w, i32_w]
      rfl
     refine pure_ (i := 19) (N := some 55) (v := undef) (a' := ?_) #[true, true, true, true, true, true, true, true, true, true, true, true, true, true, true, true, true, true, true, true, false, false, false, false, false, false, false, false, false, false, false, false] rfl rfl (any_of HT_.out (by kernel_rfl)) (fun _ _ _ h => h) (Or.inr ⟨by rfl, rfl⟩) ?_ ?_
     rotate_left
     ·simp only [Act.put, YM, YN, YO, i64_w, i32_w]
      rfl
     refine pure_ (i := 20) (N := some 56) (v := undef) (a' := ?_) #[true, true, true, true, true, true, true, true, true, true, true, true, true, true, true, true, true, true, true, true, true, false, false, false, false, false, false, false, false, false, false, false] rfl rfl (any_of HT_.out (by kernel_rfl)) (fun _ _ _ h => h) (Or.inr ⟨by rfl, rfl⟩) ?_ ?_
     rotate_left
     ·simp only [Act.put, YM, YN, YO, i64_w, i32_w]
      rfl
     refine pure_ (i := 21) (N := some 57) (v := undef) (a' := ?_) #[true, true, true, true, true, true, true, true, true, true, true, true, true, true, true, true, true, true, true, true, true, true, false, false, false, false, false, false, false, false, false, false] rfl rfl (any_of HT_.out (by kernel_rfl)) (fun _ _ _ h => h) (Or.inr ⟨by rfl, rfl⟩) ?_ ?_
     rotate_left
     ·simp only [Act.put, YM, YN, YO, i64_w, i32_w]
      rfl
     refine pure_ (i := 22) (N := some 58) (v := undef) (a' := ?_) #[true, true, true, true, true, true, true, true, true, true, true, true, true, true, true, true, true, true, true, true, true, true, true, false, false, false, false, false, false, false, false, false] rfl rfl (any_of HT_.out (by kernel_rfl)) (fun _ _ _ h => h) (Or.inr ⟨by rfl, rfl⟩) ?_ ?_
     rotate_left
     ·simp only [Act.put, YM, YN, YO, i64_w, i32_w]
      rfl
     refine pure_ (i := 23) (N := some 59) (v := undef) (a' := ?_) #[true, true, true, true, true, true, true, true, true, true, true, true, true, true, true, true, true, true, true, true, true, true, true, true, false, false, false, false, false, false, false, false] rfl rfl (any_of HT_.out (by kernel_rfl)) (fun _ _ _ h => h) (Or.inr ⟨by rfl, rfl⟩) ?_ ?_
     rotate_left
     ·simp only [Act.put, YM, YN, YO, i64_w, i32_w]
      rfl
     refine pure_ (i := 24) (N := some 60) (v := ?_) (a' := ?_) #[true, true, true, true, true, true, true, true, true, true, true, true, true, true, true, true, true, true, true, true, true, true, true, true, true, false, false, false, false, false, false, false] rfl rfl (any_of HT_.out (by kernel_rfl)) (fun _ _ _ h => h) (Or.inl ⟨by rfl, ?_⟩) ?_ ?_
     rotate_left
     ·intro w'
      go_simp; with_reducible rfl
     rotate_left
     ·simp only [Act.put, YM, YN, YO, i64_w, i32_w]
      rfl
     refine pure_ (i := 25) (N := some 61) (v := ?_) (a' := ?_) #[true, true, true, true, true, true, true, true, true, true, true, true, true, true, true, true, true, true, true, true, true, true, true, true, true, true, false, false, false, false, false, false] rfl rfl (any_of HT_.out (by kernel_rfl)) (fun _ _ _ h => h) (Or.inl ⟨by rfl, ?_⟩) ?_ ?_
     rotate_left
     ·intro w'
      go_simp; with_reducible rfl
     rotate_left
     ·simp only [Act.put, YM, YN, YO, i64_w, i32_w]
      rfl
     refine pure_ (i := 26) (N := some 62) (v := undef) (a' := ?_) #[true, true, true, true, true, true, true, true, true, true, true, true, true, true, true, true, true, true, true, true, true, true, true, true, true, true, true, false, false, false, false, false] rfl rfl (any_of HT_.out (by kernel_rfl)) (fun _ _ _ h => h) (Or.inr ⟨by rfl, rfl⟩) ?_ ?_
     rotate_left
     ·simp only [Act.put, YM, YN, YO, i64_w, i32_w]
      rfl
     refine pure_ (i := 27) (N := some 63) (v := undef) (a' := ?_) #[true, true, true, true, true, true, true, true, true, true, true, true, true, true, true, true, true, true, true, true, true, true, true, true, true, true, true, true, false, false, false, false] rfl rfl (any_of HT_.out (by kernel_rfl)) (fun _ _ _ h => h) (Or.inr ⟨by rfl, rfl⟩) ?_ ?_
     rotate_left
     ·simp only [Act.put, YM, YN, YO, i64_w, i32_w]
      rfl
     refine pure_ (i := 28) (N := some 64) (v := undef) (a' := ?_) #[true, true, true, true, true, true, true, true, true, true, true, true, true, true, true, true, true, true, true, true, true, true, true, true, true, true, true, true, true, false, false, false] rfl rfl (any_of HT_.out (by kernel_rfl)) (fun _ _ _ h => h) (Or.inr ⟨by rfl, rfl⟩) ?_ ?_
     rotate_left
     ·simp only [Act.put, YM, YN, YO, i64_w, i32_w]
      rfl
     refine pure_ (i := 29) (N := some 65) (v := undef) (a' := ?_) #[true, true, true, true, true, true, true, true, true, true, true, true, true, true, true, true, true, true, true, true, true, true, true, true, true, true, true, true, true, true, false, false] rfl rfl (any_of HT_.out (by kernel_rfl)) (fun _ _ _ h => h) (Or.inr ⟨by rfl, rfl⟩) ?_ ?_
     rotate_left
     ·simp only [Act.put, YM, YN, YO, i64_w, i32_w]
      rfl
     refine pure_ (i := 30) (N := some 66) (v := ?_) (a' := ?_) #[true, true, true, true, true, true, true, true, true, true, true, true, true, true, true, true, true, true, true, true, true, true, true, true, true, true, true, true, true, true, true, false] rfl rfl (any_of HT_.out (by kernel_rfl)) (fun _ _ _ h => h) (Or.inl ⟨by rfl, ?_⟩) ?_ ?_
     rotate_left
     ·intro w'
      go_simp; with_reducible rfl
     rotate_left
     ·simp only [Act.put, YM, YN, YO, i64_w, i32_w]
      rfl
     refine pure_ (i := 31) (N := some 67) (v := ?_) (a' := ?_) #[true, true, true, true, true, true, true, true, true, true, true, true, true, true, true, true, true, true, true, true, true, true, true, true, true, true, true, true, true, true, true, true] rfl rfl (any_of HT_.out (by kernel_rfl)) (fun _ _ _ h => h) (Or.inl ⟨by rfl, ?_⟩) ?_ ?_
     rotate_left
     ·intro w'
      go_simp; with_reducible rfl
     rotate_left
     ·simp only [Act.put, YM, YN, YO, i64_w, i32_w]
      rfl
     refine done_ (done_of HT_.out (by kernel_rfl)) ?_
     try go_wp2
     go_meet
     case rel => exact ⟨_, (true), (by first | rfl | (simp; done) | (simp [*]; done)), H', ⟨by have := HJ3.out; first | omega | exact Nat.le_refl _⟩, ⟨by (with_reducible repeat (first | apply Kd.V_alloc | apply Kd.V_drewN | apply Kd.V_drew)); exact Kd.V_mono HO_1.out (fun _ hk => by first | exact ⟨hk.1.1.1, ⟨hk.1.1.2, hk.1.2⟩⟩ | exact trivial | (simp [hk]; done) | simp_all)⟩, ⟨by (with_reducible repeat (first | apply Kd.V_alloc | apply Kd.V_drewN | apply Kd.V_drew)); exact Kd.V_mono HO_2.out (fun _ hk => by first | exact ⟨hk.1.1.1, ⟨hk.1.1.2, hk.1.2⟩⟩ | exact trivial | (simp [hk]; done) | simp_all)⟩, ⟨by (with_reducible repeat (first | refine YF ?_ _ | refine YG ?_ | refine YH ?_ _)); exact BK336.out⟩, ⟨by (with_reducible repeat (first | refine YF ?_ _ | refine YG ?_ | refine YH ?_ _)); exact BK351.out⟩, ⟨by repeat (first | (with_reducible first | exact HB.out | apply YA | apply YB | apply YC | refine below_set ?_ GE336.out | refine below_set ?_ GE351.out) | exact HB.out)⟩⟩
    rw [if_neg c16] at H
    have c16b0 : (t350 == 0) = false := beq_eq_false_iff_ne.mpr c16
    have c16b1 : (t350 != 0) = true := bne_iff_ne.mpr c16
    (first | rw [c16b0] | (simp only [i64_w, i32_w]; rw [c16b0]) | rw [c16b1] | skip)
    have H' := YL H
    clear H
    try go_wp2
    have n0_ := YL (Kd.V_drew HO_1.out)
    have n1_ := YL (Kd.V_drew HO_2.out)
    have n2_ := YL (YU HO354.out)
    have n3_ := YL (YG BK336.out)
    have n4_ := YL (YG BK351.out)
    have n5_ := YL (YC HB.out)
    clear HO_1; clear HO_2; clear HO354; clear BK336; clear BK351; clear HB; have HO_1 := n0_; have HO_2 := n1_; have HO354 := n2_; have BK336 := n3_; have BK351 := n4_; have HB := n5_; clear n0_ n1_ n2_ n3_ n4_ n5_
    refine start_ (n := 32) (S := fun w' => True) (ds := []) #[false, false, false, false, false, false, false, false, false, false, false, false, false, false, false, false, false, false, false, false, false, false, false, false, false, false, false, false, false, false, false, false] (by kernel_rfl) rfl rfl trivial (fun hHeld => ?_); refine with_tabW thalweglaw04_ObjectBack.tab5 thalweglaw04_ObjectBack.bits5 (fun HT_ HW_ => ?_)
    generalize w15.drew = w36 at HO_1 HO_2 HO354 BK336 BK351 HB hHeld ⊢
    refine pure_ (i := 0) (N := some 36) (v := ?_) (a' := ?_) #[true, false, false, false, false, false, false, false, false, false, false, false, false, false, false, false, false, false, false, false, false, false, false, false, false, false, false, false, false, false, false, false] rfl rfl (any_of HT_.out (by kernel_rfl)) (fun _ _ _ h => h) (Or.inl ⟨by rfl, ?_⟩) ?_ ?_
    rotate_left
    ·intro w'
     go_simp; with_reducible rfl
    rotate_left
    ·simp only [Act.put, YM, YN, YO, i64_w, i32_w]
     rfl
    refine pure_ (i := 1) (N := some 37) (v := ?_) (a' := ?_) #[true, true, false, false, false, false, false, false, false, false, false, false, false, false, false, false, false, false, false, false, false, false, false, false, false, false, false, false, false, false, false, false] rfl rfl (any_of HT_.out (by kernel_rfl)) (fun _ _ _ h => h) (Or.inl ⟨by rfl, ?_⟩) ?_ ?_
    rotate_left
    ·intro w'
     go_simp; with_reducible rfl
    rotate_left
    ·simp only [Act.put, YM, YN, YO, i64_w, i32_w]
     rfl
    refine pure_ (i := 2) (N := some 38) (v := ?_) (a' := ?_) #[true, true, true, false, false, false, false, false, false, false, false, false, false, false, false, false, false, false, false, false, false, false, false, false, false, false, false, false, false, false, false, false] rfl rfl (any_of HT_.out (by kernel_rfl)) (fun _ _ _ h => h) (Or.inl ⟨by rfl, ?_⟩) ?_ ?_
    rotate_left
    ·intro w'
     go_simp; with_reducible rfl
    rotate_left
    ·simp only [Act.put, YM, YN, YO, i64_w, i32_w]
     rfl
    refine pure_ (i := 3) (N := some 39) (v := undef) (a' := ?_) #[true, true, true, true, false, false, false, false, false, false, false, false, false, false, false, false, false, false, false, false, false, false, false, false, false, false, false, false, false, false, false, false] rfl rfl (any_of HT_.out (by kernel_rfl)) (fun _ _ _ h => h) (Or.inr ⟨by rfl, rfl⟩) ?_ ?_
    rotate_left
    ·simp only [Act.put, YM, YN, YO, i64_w, i32_w]
     rfl
    refine pure_ (i := 4) (N := some 40) (v := undef) (a' := ?_) #[true, true, true, true, true, false, false, false, false, false, false, false, false, false, false, false, false, false, false, false, false, false, false, false, false, false, false, false, false, false, false, false] rfl rfl (any_of HT_.out (by kernel_rfl)) (fun _ _ _ h => h) (Or.inr ⟨by rfl, rfl⟩) ?_ ?_
    rotate_left
    ·simp only [Act.put, YM, YN, YO, i64_w, i32_w]
     rfl
    refine pure_ (i := 5) (N := some 41) (v := undef) (a' := ?_) #[true, true, true, true, true, true, false, false, false, false, false, false, false, false, false, false, false, false, false, false, false, false, false, false, false, false, false, false, false, false, false, false] rfl rfl (any_of HT_.out (by kernel_rfl)) (fun _ _ _ h => h) (Or.inr ⟨by rfl, rfl⟩) ?_ ?_
    rotate_left
    ·simp only [Act.put, YM, YN, YO, i64_w, i32_w]
     rfl
    refine pure_ (i := 6) (N := some 42) (v := undef) (a' := ?_) #[true, true, true, true, true, true, true, false, false, false, false, false, false, false, false, false, false, false, false, false, false, false, false, false, false, false, false, false, false, false, false, false] rfl rfl (any_of HT_.out (by kernel_rfl)) (fun _ _ _ h => h) (Or.inr ⟨by rfl, rfl⟩) ?_ ?_
    rotate_left
    ·simp only [Act.put, YM, YN, YO, i64_w, i32_w]
     rfl
    refine pure_ (i := 7) (N := some 43) (v := undef) (a' := ?_) #[true, true, true, true, true, true, true, true, false, false, false, false, false, false, false, false, false, false, false, false, false, false, false, false, false, false, false, false, false, false, false, false] rfl rfl (any_of HT_.out (by kernel_rfl)) (fun _ _ _ h => h) (Or.inr ⟨by rfl, rfl⟩) ?_ ?_
    rotate_left
    ·simp only [Act.put, YM, YN, YO, i64_w, i32_w]
     rfl
    refine pure_ (i := 8) (N := some 44) (v := undef) (a' := ?_) #[true, true, true, true, true, true, true, true, true, false, false, false, false, false, false, false, false, false, false, false, false, false, false, false, false, false, false, false, false, false, false, false] rfl rfl (any_of HT_.out (by kernel_rfl)) (fun _ _ _ h => h) (Or.inr ⟨by rfl, rfl⟩) ?_ ?_
    rotate_left
    ·simp only [Act.put, YM, YN, YO, i64_w, i32_w]
     rfl
    refine pure_ (i := 9) (N := some 45) (v := undef) (a' := ?_) #[true, true, true, true, true, true, true, true, true, true, false, false, false, false, false, false, false, false, false, false, false, false, false, false, false, false, false, false, false, false, false, false] rfl rfl (any_of HT_.out (by kernel_rfl)) (fun _ _ _ h => h) (Or.inr ⟨by rfl, rfl⟩) ?_ ?_
    rotate_left
    ·simp only [Act.put, YM, YN, YO, i64_w, i32_w]
     rfl
    refine pure_ (i := 10) (N := some 46) (v := undef) (a' := ?_) #[true, true, true, true, true, true, true, true, true, true, true, false, false, false, false, false, false, false, false, false, false, false, false, false, false, false, false, false, false, false, false, false] rfl rfl (any_of HT_.out (by kernel_rfl)) (fun _ _ _ h => h) (Or.inr ⟨by rfl, rfl⟩) ?_ ?_
    rotate_left
    ·simp only [Act.put, YM, YN, YO, i64_w, i32_w]
     rfl
    refine pure_ (i := 11) (N := some 47) (v := undef) (a' := ?_) #[true, true, true, true, true, true, true, true, true, true, true, true, false, false, false, false, false, false, false, false, false, false, false, false, false, false, false, false, false, false, false, false] rfl rfl (any_of HT_.out (by kernel_rfl)) (fun _ _ _ h => h) (Or.inr ⟨by rfl, rfl⟩) ?_ ?_
    rotate_left
    ·simp only [Act.put, YM, YN, YO, i64_w, i32_w]
     rfl
    refine pure_ (i := 12) (N := some 48) (v := undef) (a' := ?_) #[true, true, true, true, true, true, true, true, true, true, true, true, true, false, false, false, false, false, false, false, false, false, false, false, false, false, false, false, false, false, false, false] rfl rfl (any_of HT_.out (by kernel_rfl)) (fun _ _ _ h => h) (Or.inr ⟨by rfl, rfl⟩) ?_ ?_
    rotate_left
    ·simp only [Act.put, YM, YN, YO, i64_w, i32_w]
     rfl
    refine pure_ (i := 13) (N := some 49) (v := undef) (a' := ?_) #[true, true, true, true, true, true, true, true, true, true, true, true, true, true, false, false, false, false, false, false, false, false, false, false, false, false, false, false, false, false, false, false] rfl rfl (any_of HT_.out (by kernel_rfl)) (fun _ _ _ h => h) (Or.inr ⟨by rfl, rfl⟩) ?_ ?_
    rotate_left
    ·simp only [Act.put, YM, YN, YO, i64_w, i32_w]
     rfl
    refine pure_ (i := 14) (N := some 50) (v := undef) (a' := ?_) #[true, true, true, true, true, true, true, true, true, true, true, true, true, true, true, false, false, false, false, false, false, false, false, false, false, false, false, false, false, false, false, false] rfl rfl (any_of HT_.out (by kernel_rfl)) (fun _ _ _ h => h) (Or.inr ⟨by rfl, rfl⟩) ?_ ?_
    rotate_left
    ·simp only [Act.put, YM, YN, YO, i64_w, i32_w]
     rfl
    refine pure_ (i := 15) (N := some 51) (v := undef) (a' := ?_) #[true, true, true, true, true, true, true, true, true, true, true, true, true, true, true, true, false, false, false, false, false, false, false, false, false, false, false, false, false, false, false, false] rfl rfl (any_of HT_.out (by kernel_rfl)) (fun _ _ _ h => h) (Or.inr ⟨by rfl, rfl⟩) ?_ ?_
    rotate_left
    ·simp only [Act.put, YM, YN, YO, i64_w, i32_w]
     rfl
    refine pure_ (i := 16) (N := some 52) (v := undef) (a' := ?_) #[true, true, true, true, true, true, true, true, true, true, true, true, true, true, true, true, true, false, false, false, false, false, false, false, false, false, false, false, false, false, false, false] rfl rfl (any_of HT_.out (by kernel_rfl)) (fun _ _ _ h => h) (Or.inr ⟨by rfl, rfl⟩) ?_ ?_
    rotate_left
    ·simp only [Act.put, YM, YN, YO, i64_w, i32_w]
     rfl
    refine pure_ (i := 17) (N := some 53) (v := undef) (a' := ?_) #[true, true, true, true, true, true, true, true, true, true, true, true, true, true, true, true, true, true, false, false, false, false, false, false, false, false, false, false, false, false, false, false] rfl rfl (any_of HT_.out (by kernel_rfl)) (fun _ _ _ h => h) (Or.inr ⟨by rfl, rfl⟩) ?_ ?_
    rotate_left
    ·simp only [Act.put, YM, YN, YO, i64_w, i32_w]
     rfl
    refine pure_ (i := 18) (N := some 54) (v := undef) (a' := ?_) #[true, true, true, true, true, true, true, true, true, true, true, true, true, true, true, true, true, true, true, false, false, false, false, false, false, false, false, false, false, false, false, false] rfl rfl (any_of HT_.out (by kernel_rfl)) (fun _ _ _ h => h) (Or.inr ⟨by rfl, rfl⟩) ?_ ?_
    rotate_left
    ·simp only [Act.put, YM, YN, YO, i64_w, i32_w]
     rfl
    refine pure_ (i := 19) (N := some 55) (v := undef) (a' := ?_) #[true, true, true, true, true, true, true, true, true, true, true, true, true, true, true, true, true, true, true, true, false, false, false, false, false, false, false, false, false, false, false, false] rfl rfl (any_of HT_.out (by kernel_rfl)) (fun _ _ _ h => h) (Or.inr ⟨by rfl, rfl⟩) ?_ ?_
    rotate_left
    ·simp only [Act.put, YM, YN, YO, i64_w, i32_w]
     rfl
    refine pure_ (i := 20) (N := some 56) (v := undef) (a' := ?_) #[true, true, true, true, true, true, true, true, true, true, true, true, true, true, true, true, true, true, true, true, true, false, false, false, false, false, false, false, false, false, false, false] rfl rfl (any_of HT_.out (by kernel_rfl)) (fun _ _ _ h => h) (Or.inr ⟨by rfl, rfl⟩) ?_ ?_
    rotate_left
    ·simp only [Act.put, YM, YN, YO, i64_w, i32_w]
     rfl
    refine pure_ (i := 21) (N := some 57) (v := undef) (a' := ?_) #[true, true, true, true, true, true, true, true, true, true, true, true, true, true, true, true, true, true, true, true, true, true, false, false, false, false, false, false, false, false, false, false] rfl rfl (any_of HT_.out (by kernel_rfl)) (fun _ _ _ h => h) (Or.inr ⟨by rfl, rfl⟩) ?_ ?_
    rotate_left
    ·simp only [Act.put, YM, YN, YO, i64_w, i32_w]
     rfl
    refine pure_ (i := 22) (N := some 58) (v := undef) (a' := ?_) #[true, true, true, true, true, true, true, true, true, true, true, true, true, true, true, true, true, true, true, true, true, true, true, false, false, false, false, false, false, false, false, false] rfl rfl (any_of HT_.out (by kernel_rfl)) (fun _ _ _ h => h) (Or.inr ⟨by rfl, rfl⟩) ?_ ?_
    rotate_left
    ·simp only [Act.put, YM, YN, YO, i64_w, i32_w]
     rfl
    refine pure_ (i := 23) (N := some 59) (v := undef) (a' := ?_) #[true, true, true, true, true, true, true, true, true, true, true, true, true, true, true, true, true, true, true, true, true, true, true, true, false, false, false, false, false, false, false, false] rfl rfl (any_of HT_.out (by kernel_rfl)) (fun _ _ _ h => h) (Or.inr ⟨by rfl, rfl⟩) ?_ ?_
    rotate_left
    ·simp only [Act.put, YM, YN, YO, i64_w, i32_w]
     rfl
    refine pure_ (i := 24) (N := some 60) (v := undef) (a' := ?_) #[true, true, true, true, true, true, true, true, true, true, true, true, true, true, true, true, true, true, true, true, true, true, true, true, true, false, false, false, false, false, false, false] rfl rfl (any_of HT_.out (by kernel_rfl)) (fun _ _ _ h => h) (Or.inr ⟨by rfl, rfl⟩) ?_ ?_
    rotate_left
    ·simp only [Act.put, YM, YN, YO, i64_w, i32_w]
     rfl
    refine pure_ (i := 25) (N := some 61) (v := undef) (a' := ?_) #[true, true, true, true, true, true, true, true, true, true, true, true, true, true, true, true, true, true, true, true, true, true, true, true, true, true, false, false, false, false, false, false] rfl rfl (any_of HT_.out (by kernel_rfl)) (fun _ _ _ h => h) (Or.inr ⟨by rfl, rfl⟩) ?_ ?_
    rotate_left
    ·simp only [Act.put, YM, YN, YO, i64_w, i32_w]
     rfl
    refine pure_ (i := 26) (N := some 62) (v := undef) (a' := ?_) #[true, true, true, true, true, true, true, true, true, true, true, true, true, true, true, true, true, true, true, true, true, true, true, true, true, true, true, false, false, false, false, false] rfl rfl (any_of HT_.out (by kernel_rfl)) (fun _ _ _ h => h) (Or.inr ⟨by rfl, rfl⟩) ?_ ?_
    rotate_left
    ·simp only [Act.put, YM, YN, YO, i64_w, i32_w]
     rfl
    refine pure_ (i := 27) (N := some 63) (v := undef) (a' := ?_) #[true, true, true, true, true, true, true, true, true, true, true, true, true, true, true, true, true, true, true, true, true, true, true, true, true, true, true, true, false, false, false, false] rfl rfl (any_of HT_.out (by kernel_rfl)) (fun _ _ _ h => h) (Or.inr ⟨by rfl, rfl⟩) ?_ ?_
    rotate_left
    ·simp only [Act.put, YM, YN, YO, i64_w, i32_w]
     rfl
    refine pure_ (i := 28) (N := some 64) (v := undef) (a' := ?_) #[true, true, true, true, true, true, true, true, true, true, true, true, true, true, true, true, true, true, true, true, true, true, true, true, true, true, true, true, true, false, false, false] rfl rfl (any_of HT_.out (by kernel_rfl)) (fun _ _ _ h => h) (Or.inr ⟨by rfl, rfl⟩) ?_ ?_
    rotate_left
    ·simp only [Act.put, YM, YN, YO, i64_w, i32_w]
     rfl
    refine pure_ (i := 29) (N := some 65) (v := undef) (a' := ?_) #[true, true, true, true, true, true, true, true, true, true, true, true, true, true, true, true, true, true, true, true, true, true, true, true, true, true, true, true, true, true, false, false] rfl rfl (any_of HT_.out (by kernel_rfl)) (fun _ _ _ h => h) (Or.inr ⟨by rfl, rfl⟩) ?_ ?_
    rotate_left
    ·simp only [Act.put, YM, YN, YO, i64_w, i32_w]
     rfl
    refine pure_ (i := 30) (N := some 66) (v := undef) (a' := ?_) #[true, true, true, true, true, true, true, true, true, true, true, true, true, true, true, true, true, true, true, true, true, true, true, true, true, true, true, true, true, true, true, false] rfl rfl (any_of HT_.out (by kernel_rfl)) (fun _ _ _ h => h) (Or.inr ⟨by rfl, rfl⟩) ?_ ?_
    rotate_left
    ·simp only [Act.put, YM, YN, YO, i64_w, i32_w]
     rfl
    refine pure_ (i := 31) (N := some 67) (v := ?_) (a' := ?_) #[true, true, true, true, true, true, true, true, true, true, true, true, true, true, true, true, true, true, true, true, true, true, true, true, true, true, true, true, true, true, true, true] rfl rfl (any_of HT_.out (by kernel_rfl)) (fun _ _ _ h => h) (Or.inl ⟨by rfl, ?_⟩) ?_ ?_
    rotate_left
    ·intro w'
     go_simp; with_reducible rfl
    rotate_left
    ·simp only [Act.put, YM, YN, YO, i64_w, i32_w]
     rfl
    refine done_ (done_of HT_.out (by kernel_rfl)) ?_
    try go_wp2
    go_meet
    case rel => exact ⟨_, (false), (by first | rfl | (simp; done) | (simp [*]; done)), H', ⟨by have := HJ3.out; first | omega | exact Nat.le_refl _⟩, ⟨by (with_reducible repeat (first | apply Kd.V_alloc | apply Kd.V_drewN | apply Kd.V_drew)); exact Kd.V_mono HO_1.out (fun _ hk => by first | exact ⟨hk.1.1.1, ⟨hk.1.1.2, hk.1.2⟩⟩ | exact trivial | (simp [hk]; done) | simp_all)⟩, ⟨by (with_reducible repeat (first | apply Kd.V_alloc | apply Kd.V_drewN | apply Kd.V_drew)); exact Kd.V_mono HO_2.out (fun _ hk => by first | exact ⟨hk.1.1.1, ⟨hk.1.1.2, hk.1.2⟩⟩ | exact trivial | (simp [hk]; done) | simp_all)⟩, ⟨by (with_reducible repeat (first | refine YF ?_ _ | refine YG ?_ | refine YH ?_ _)); exact BK336.out⟩, ⟨by (with_reducible repeat (first | refine YF ?_ _ | refine YG ?_ | refine YH ?_ _)); exact BK351.out⟩, ⟨by repeat (first | (with_reducible first | exact HB.out | apply YA | apply YB | apply YC | refine below_set ?_ GE336.out | refine below_set ?_ GE351.out) | exact HB.out)⟩⟩
   case rest =>
    clear HC10
    try clear c1; try clear c2
    try clear p2; try clear hcv3
    try clear c16; try clear c16b0
    try clear c16b1; try clear c17
    try clear c17b0; try clear c17b1
    try clear c22; try clear c23; try clear hcv34
    obtain ⟨kq, x67_9, rfl, HA, HJ9, HO_1, HO_2, BK336, BK351, HB⟩ := hcut
    cases kq with
    | zero => exact absurd HA.out (by simp [thalweglaw04_ObjectBack.j1])
    | succ kj9 =>
     have H := HA.out
     clear HA
     simp only [thalweglaw04_ObjectBack.j1] at H
     by_cases c37 : x67_9 = true
     ·subst c37
      have H1 : (none) = some r := by rw [if_pos rfl] at H; exact H
      clear H
      have H := H1
      clear H1
      exact absurd H (by simp)
     replace c37 := Bool.eq_false_iff.mpr c37
     subst c37
     have H1 : ((object_Bytes.f kj9 a0_0 a0_1 a0_2 a0_3 a0_4 a0_5 a0_6 a0_7 a0_8 a0_9 a0_10 a0_11).bind fun bt362 => ((thalwegref01_Both.f kj9 (([l1, bt362.1, l2] : List (List Int)))).bind fun t369 => ((object_Parse.f t369 (l1.length : Int)).bind fun bt372 => (if bt362.2 = 0 then ((thalweglaw04_awake.f kj9).bind fun t387 => (if t387 = true then (if bt372.2.2.2.2.2.2.2.2.2.2.2.2.2 = 0 then (if (bt372.1 == a0_0 && (bt372.2.1 == a0_1 && ((bt372.2.2.1 == a0_2 && (bt372.2.2.2.1 == a0_3 && (bt372.2.2.2.2.1 == a0_4 && (bt372.2.2.2.2.2.1 == a0_5 && (bt372.2.2.2.2.2.2.1 == a0_6 && (bt372.2.2.2.2.2.2.2.1 == a0_7)))))) && ((bt372.2.2.2.2.2.2.2.2.1 == a0_8 && (bt372.2.2.2.2.2.2.2.2.2.1 == a0_9 && (bt372.2.2.2.2.2.2.2.2.2.2.1 == a0_10))) && (bt372.2.2.2.2.2.2.2.2.2.2.2.1 == a0_11))))) = true then (some (bt372.2.2.2.2.2.2.2.2.2.2.2.2.1 == (wrap64 ((l1.length : Int) + (bt362.1.length : Int))))) else (none)) else (none)) else (none))) else ((thalweglaw04_awake.f kj9).bind fun t388 => (if t388 = true then (if (bt362.1.length : Int) = 0 then ((object_Size.f kj9 a0_0 a0_1 a0_2 a0_3 a0_4 a0_5 a0_6 a0_7 a0_8 a0_9 a0_10 a0_11).bind fun t389 => (some (t389 == 0))) else (none)) else (none))))))) = some r := by rw [if_neg (show ¬ (false = true) by decide)] at H; exact H
     clear H
     have H := H1
     clear H1; replace H := Option.bind_eq_some_iff.mp H
     obtain ⟨⟨t362, t365⟩, A380, H⟩ := H
     replace H : ((thalwegref01_Both.f kj9 (([l1, t362, l2] : List (List Int)))).bind fun t369 => ((object_Parse.f t369 (l1.length : Int)).bind fun bt372 => (if t365 = 0 then ((thalweglaw04_awake.f kj9).bind fun t387 => (if t387 = true then (if bt372.2.2.2.2.2.2.2.2.2.2.2.2.2 = 0 then (if (bt372.1 == a0_0 && (bt372.2.1 == a0_1 && ((bt372.2.2.1 == a0_2 && (bt372.2.2.2.1 == a0_3 && (bt372.2.2.2.2.1 == a0_4 && (bt372.2.2.2.2.2.1 == a0_5 && (bt372.2.2.2.2.2.2.1 == a0_6 && (bt372.2.2.2.2.2.2.2.1 == a0_7)))))) && ((bt372.2.2.2.2.2.2.2.2.1 == a0_8 && (bt372.2.2.2.2.2.2.2.2.2.1 == a0_9 && (bt372.2.2.2.2.2.2.2.2.2.2.1 == a0_10))) && (bt372.2.2.2.2.2.2.2.2.2.2.2.1 == a0_11))))) = true then (some (bt372.2.2.2.2.2.2.2.2.2.2.2.2.1 == (wrap64 ((l1.length : Int) + (t362.length : Int))))) else (none)) else (none)) else (none))) else ((thalweglaw04_awake.f kj9).bind fun t388 => (if t388 = true then (if (t362.length : Int) = 0 then ((object_Size.f kj9 a0_0 a0_1 a0_2 a0_3 a0_4 a0_5 a0_6 a0_7 a0_8 a0_9 a0_10 a0_11).bind fun t389 => (some (t389 == 0))) else (none)) else (none)))))) = some r := H
     have A38 := YL A380; clear A380
     obtain ⟨y366, hy366⟩ : ∃ y_ : List (List Int), y_ = (([l1, t362, l2] : List (List Int))) := ⟨_, rfl⟩
     replace H : ((thalwegref01_Both.f kj9 y366).bind fun t369 => ((object_Parse.f t369 (l1.length : Int)).bind fun bt372 => (if t365 = 0 then ((thalweglaw04_awake.f kj9).bind fun t387 => (if t387 = true then (if bt372.2.2.2.2.2.2.2.2.2.2.2.2.2 = 0 then (if (bt372.1 == a0_0 && (bt372.2.1 == a0_1 && ((bt372.2.2.1 == a0_2 && (bt372.2.2.2.1 == a0_3 && (bt372.2.2.2.2.1 == a0_4 && (bt372.2.2.2.2.2.1 == a0_5 && (bt372.2.2.2.2.2.2.1 == a0_6 && (bt372.2.2.2.2.2.2.2.1 == a0_7)))))) && ((bt372.2.2.2.2.2.2.2.2.1 == a0_8 && (bt372.2.2.2.2.2.2.2.2.2.1 == a0_9 && (bt372.2.2.2.2.2.2.2.2.2.2.1 == a0_10))) && (bt372.2.2.2.2.2.2.2.2.2.2.2.1 == a0_11))))) = true then (some (bt372.2.2.2.2.2.2.2.2.2.2.2.2.1 == (wrap64 ((l1.length : Int) + (t362.length : Int))))) else (none)) else (none)) else (none))) else ((thalweglaw04_awake.f kj9).bind fun t388 => (if t388 = true then (if (t362.length : Int) = 0 then ((object_Size.f kj9 a0_0 a0_1 a0_2 a0_3 a0_4 a0_5 a0_6 a0_7 a0_8 a0_9 a0_10 a0_11).bind fun t389 => (some (t389 == 0))) else (none)) else (none)))))) = some r := by first | (rw [hy366]; with_reducible exact H) | (have H2_ := (Option.bind_some _ _).symm.trans H; rw [hy366]; with_reducible exact H2_) | (have H2_ := (Option.bind_some _ _).symm.trans H; with_reducible exact H2_) | with_reducible exact H | (rw [hy366]; exact H) | exact H
     have Ny366 := YL hy366; clear hy366; replace H := Option.bind_eq_some_iff.mp H; obtain ⟨t369, A390, H⟩ := H
     replace H : ((object_Parse.f t369 (l1.length : Int)).bind fun bt372 => (if t365 = 0 then ((thalweglaw04_awake.f kj9).bind fun t387 => (if t387 = true then (if bt372.2.2.2.2.2.2.2.2.2.2.2.2.2 = 0 then (if (bt372.1 == a0_0 && (bt372.2.1 == a0_1 && ((bt372.2.2.1 == a0_2 && (bt372.2.2.2.1 == a0_3 && (bt372.2.2.2.2.1 == a0_4 && (bt372.2.2.2.2.2.1 == a0_5 && (bt372.2.2.2.2.2.2.1 == a0_6 && (bt372.2.2.2.2.2.2.2.1 == a0_7)))))) && ((bt372.2.2.2.2.2.2.2.2.1 == a0_8 && (bt372.2.2.2.2.2.2.2.2.2.1 == a0_9 && (bt372.2.2.2.2.2.2.2.2.2.2.1 == a0_10))) && (bt372.2.2.2.2.2.2.2.2.2.2.2.1 == a0_11))))) = true then (some (bt372.2.2.2.2.2.2.2.2.2.2.2.2.1 == (wrap64 ((l1.length : Int) + (t362.length : Int))))) else (none)) else (none)) else (none))) else ((thalweglaw04_awake.f kj9).bind fun t388 => (if t388 = true then (if (t362.length : Int) = 0 then ((object_Size.f kj9 a0_0 a0_1 a0_2 a0_3 a0_4 a0_5 a0_6 a0_7 a0_8 a0_9 a0_10 a0_11).bind fun t389 => (some (t389 == 0))) else (none)) else (none))))) = some r := H
     have A39 := YL A390; clear A390; replace H := Option.bind_eq_some_iff.mp H
     obtain ⟨⟨t372, t373, t374, t375, t376, t377, t378, t379, t380, t381, t382, t383, t384, t385⟩, A400, H⟩ := H
     replace H : (if t365 = 0 then ((thalweglaw04_awake.f kj9).bind fun t387 => (if t387 = true then (if t385 = 0 then (if (t372 == a0_0 && (t373 == a0_1 && ((t374 == a0_2 && (t375 == a0_3 && (t376 == a0_4 && (t377 == a0_5 && (t378 == a0_6 && (t379 == a0_7)))))) && ((t380 == a0_8 && (t381 == a0_9 && (t382 == a0_10))) && (t383 == a0_11))))) = true then (some (t384 == (wrap64 ((l1.length : Int) + (t362.length : Int))))) else (none)) else (none)) else (none))) else ((thalweglaw04_awake.f kj9).bind fun t388 => (if t388 = true then (if (t362.length : Int) = 0 then ((object_Size.f kj9 a0_0 a0_1 a0_2 a0_3 a0_4 a0_5 a0_6 a0_7 a0_8 a0_9 a0_10 a0_11).bind fun t389 => (some (t389 == 0))) else (none)) else (none)))) = some r := H
     have A40 := YL A400; clear A400
     by_cases c41 : t365 = 0
     ·rw [if_pos c41] at H
      have c41b0 : (t365 == 0) = true := beq_iff_eq.mpr c41
      have c41b1 : (t365 != 0) = false := bne_eq_false_iff_eq.mpr c41
      clear c41; replace H := Option.bind_eq_some_iff.mp H; obtain ⟨t387, A420, H⟩ := H
      replace H : (if t387 = true then (if t385 = 0 then (if (t372 == a0_0 && (t373 == a0_1 && ((t374 == a0_2 && (t375 == a0_3 && (t376 == a0_4 && (t377 == a0_5 && (t378 == a0_6 && (t379 == a0_7)))))) && ((t380 == a0_8 && (t381 == a0_9 && (t382 == a0_10))) && (t383 == a0_11))))) = true then (some (t384 == (wrap64 ((l1.length : Int) + (t362.length : Int))))) else (none)) else (none)) else (none)) = some r := H
      have A42 := YL A420; clear A420
      by_cases c43 : t387 = true
      ·subst c43
       have H1 : (if t385 = 0 then (if (t372 == a0_0 && (t373 == a0_1 && ((t374 == a0_2 && (t375 == a0_3 && (t376 == a0_4 && (t377 == a0_5 && (t378 == a0_6 && (t379 == a0_7)))))) && ((t380 == a0_8 && (t381 == a0_9 && (t382 == a0_10))) && (t383 == a0_11))))) = true then (some (t384 == (wrap64 ((l1.length : Int) + (t362.length : Int))))) else (none)) else (none)) = some r := by rw [if_pos rfl] at H; exact H
       clear H
       have H := H1
       clear H1
       by_cases c44 : t385 = 0
       rotate_left
       ·rw [if_neg c44] at H
        exact absurd H (by simp)
       rw [if_pos c44] at H
       have c44b0 : (t385 == 0) = true := beq_iff_eq.mpr c44
       have c44b1 : (t385 != 0) = false := bne_eq_false_iff_eq.mpr c44
       clear c44
       by_cases c45 : (t372 == a0_0 && (t373 == a0_1 && ((t374 == a0_2 && (t375 == a0_3 && (t376 == a0_4 && (t377 == a0_5 && (t378 == a0_6 && (t379 == a0_7)))))) && ((t380 == a0_8 && (t381 == a0_9 && (t382 == a0_10))) && (t383 == a0_11))))) = true
       rotate_left
       ·rw [if_neg c45] at H
        exact absurd H (by simp)
       rw [if_pos c45] at H
       have c45b0 : (t372 == a0_0 && (t373 == a0_1 && ((t374 == a0_2 && (t375 == a0_3 && (t376 == a0_4 && (t377 == a0_5 && (t378 == a0_6 && (t379 == a0_7)))))) && ((t380 == a0_8 && (t381 == a0_9 && (t382 == a0_10))) && (t383 == a0_11))))) = true := c45
       (try (have c45b1 : decide (t372 = a0_0 && (t373 == a0_1 && ((t374 == a0_2 && (t375 == a0_3 && (t376 == a0_4 && (t377 == a0_5 && (t378 == a0_6 && (t379 == a0_7)))))) && ((t380 == a0_8 && (t381 == a0_9 && (t382 == a0_10))) && (t383 == a0_11))))) = true := by simpa using c45))
       (try (have c45b2 : (t372 == a0_0 && (t373 == a0_1 && ((t374 == a0_2 && (t375 == a0_3 && (t376 == a0_4 && (t377 == a0_5 && (t378 == a0_6 && (t379 == a0_7)))))) && ((t380 == a0_8 && (t381 == a0_9 && (t382 == a0_10))) && (t383 == a0_11))))) = true := by simpa using c45))
       clear c45
       obtain rfl := Option.some.inj H
       have hnb46 := NB336_351.out
       have hnc46 := NB351_336.out
       have q47_0 : wc.cell? ⟨gb336, 0, none⟩ = some (.int .i64 a0_0) := (YI BK336.out 0).trans rfl
       have q47_1 : wc.cell? ⟨gb336, 1, none⟩ = some (.int .i64 a0_1) := (YI BK336.out 1).trans rfl
       have q47_2 : wc.cell? ⟨gb336, 2, none⟩ = some (.bool a0_2) := (YI BK336.out 2).trans rfl
       have q47_3 : wc.cell? ⟨gb336, 3, none⟩ = some (.int .i64 a0_3) := (YI BK336.out 3).trans rfl
       have q47_4 : wc.cell? ⟨gb336, 4, none⟩ = some (.int .i64 a0_4) := (YI BK336.out 4).trans rfl
       have q47_5 : wc.cell? ⟨gb336, 5, none⟩ = some (.int .i64 a0_5) := (YI BK336.out 5).trans rfl
       have q47_6 : wc.cell? ⟨gb336, 6, none⟩ = some (.int .i64 a0_6) := (YI BK336.out 6).trans rfl
       have q47_7 : wc.cell? ⟨gb336, 7, none⟩ = some (.int .i64 a0_7) := (YI BK336.out 7).trans rfl
       have q47_8 : wc.cell? ⟨gb336, 8, none⟩ = some (.int .i64 a0_8) := (YI BK336.out 8).trans rfl
       have q47_9 : wc.cell? ⟨gb336, 9, none⟩ = some (.int .i64 a0_9) := (YI BK336.out 9).trans rfl
       have q47_10 : wc.cell? ⟨gb336, 10, none⟩ = some (.int .i64 a0_10) := (YI BK336.out 10).trans rfl
       have q47_11 : wc.cell? ⟨gb336, 11, none⟩ = some (.int .i64 a0_11) := (YI BK336.out 11).trans rfl
       have f47_0 := YJ BK336.out 0
       have f47_1 := YJ BK336.out 1
       have f47_2 := YJ BK336.out 2
       have f47_3 := YJ BK336.out 3
       have f47_4 := YJ BK336.out 4
       have f47_5 := YJ BK336.out 5
       have f47_6 := YJ BK336.out 6
       have f47_7 := YJ BK336.out 7
       have f47_8 := YJ BK336.out 8
       have f47_9 := YJ BK336.out 9
       have f47_10 := YJ BK336.out 10
       have f47_11 := YJ BK336.out 11
       go_wp2_with (first | ((with_reducible refine gate_callee (f := 7) rfl ?_); refine goesL_ (some 70) rfl rfl Try.func7 (by kernel_rfl) rfl #[.agg #[.int .i64 a0_0, .int .i64 a0_1, .bool a0_2, .int .i64 a0_3, .int .i64 a0_4, .int .i64 a0_5, .int .i64 a0_6, .int .i64 a0_7, .int .i64 a0_8, .int .i64 a0_9, .int .i64 a0_10, .int .i64 a0_11]] rfl (by (try simp only [YP, List.map_cons, List.map_nil]); first | done | rfl | (simp only [YR, YQ]; rfl)) ?_; (with_reducible refine (object_Bytes.calls kj9 a0_0 a0_1 a0_2 a0_3 a0_4 a0_5 a0_6 a0_7 a0_8 a0_9 a0_10 a0_11 t362 t365 _ A38.out).mono ?_); rintro e w48 ⟨v363, rfl, ho0, hb⟩; refine ⟨_, rfl, ?_⟩; have n0_ := YL (Kd.V_elder' (by (with_reducible repeat (first | apply Kd.V_alloc | apply Kd.V_drewN | apply Kd.V_drew)); exact HO_1.out) (Kd.R_base ho0) hb); have n1_ := YL (Kd.V_elder' (by (with_reducible repeat (first | apply Kd.V_alloc | apply Kd.V_drewN | apply Kd.V_drew)); exact HO_2.out) (Kd.R_base ho0) hb); have n2_ := YL (Kd.R_lower (Kd.R_newM (M := fun k_ => (w.heap.size ≤ k_)) ho0 (YE (by repeat (first | (with_reducible first | exact HB.out | apply YA | apply YB | apply YC | refine below_set ?_ GE336.out | refine below_set ?_ GE351.out) | exact HB.out))) (fun k_ h_ => h_)) (YE (by repeat (first | (with_reducible first | exact HB.out | apply YA | apply YB | apply YC | refine below_set ?_ GE336.out | refine below_set ?_ GE351.out) | exact HB.out)))); have n3_ := YL (YK (g := gb336) (o := .cells #[.int .i64 a0_0, .int .i64 a0_1, .bool a0_2, .int .i64 a0_3, .int .i64 a0_4, .int .i64 a0_5, .int .i64 a0_6, .int .i64 a0_7, .int .i64 a0_8, .int .i64 a0_9, .int .i64 a0_10, .int .i64 a0_11] 27 (0, 0)) (by (with_reducible repeat (first | refine YF ?_ _ | refine YG ?_ | refine YH ?_ _)); exact BK336.out) hb); have n4_ := YL (YK (g := gb351) (o := .cells #[.int .i64 t337, .int .i64 t338, .bool t339, .int .i64 t340, .int .i64 t341, .int .i64 t342, .int .i64 t343, .int .i64 t344, .int .i64 t345, .int .i64 t346, .int .i64 t347, .int .i64 t348] 27 (0, 0)) (by (with_reducible repeat (first | refine YF ?_ _ | refine YG ?_ | refine YH ?_ _)); exact BK351.out) hb); have n5_ := YL (YD (by repeat (first | (with_reducible first | exact HB.out | apply YA | apply YB | apply YC | refine below_set ?_ GE336.out | refine below_set ?_ GE351.out) | exact HB.out)) hb); clear HO_1; clear HO_2; clear BK336; clear BK351; clear HB; have HO_1 := n0_; have HO_2 := n1_; have HO364 := n2_; have BK336 := n3_; have BK351 := n4_; have HB := n5_; clear n0_ n1_ n2_ n3_ n4_ n5_; (try clear hb); (try clear hb2); (try clear hk); (try clear hi); (try clear ho0); obtain ⟨Ao49, co49, eo49⟩ := Kd.R_slice HO364.out; subst eo49) | ((with_reducible refine gate_dst (N := 77) rfl ?_); (try (refine gate_guard (by rfl) ?_; dsimp only)); refine Kd.N_lit (Kd.slice 5 (Kd.int .u8)) _ 28 ?hg (N' := 77) ?hd (xs := ([l1, t362, l2] : List (List Int))) (inner := [.slice A1 l1.length c1, .slice Ao49 t362.length co49, .slice A2 l2.length c2]) (ok := (fun k_ => ((P1_ k_ ∨ P2_ k_) ∨ w.heap.size ≤ k_) ∧ k_ ≠ gb336 ∧ k_ ≠ gb351)) (okp := (fun k_ => ((P1_ k_ ∨ P2_ k_) ∨ w.heap.size ≤ k_) ∧ k_ ≠ gb336 ∧ k_ ≠ gb351)) ?hr ?hp (fun _ hk => hk) ((show ∀ k_, w48.heap.size ≤ k_ → (fun k_ => ((P1_ k_ ∨ P2_ k_) ∨ w.heap.size ≤ k_) ∧ k_ ≠ gb336 ∧ k_ ≠ gb351) k_ from fun k_ hk => ⟨(.inr (Nat.le_trans (YE (by repeat (first | (with_reducible first | exact HB.out | apply YA | apply YB | apply YC | refine below_set ?_ GE336.out | refine below_set ?_ GE351.out) | exact HB.out))) hk)), Kd.freshB (g := gb336) (o := .cells #[.int .i64 a0_0, .int .i64 a0_1, .bool a0_2, .int .i64 a0_3, .int .i64 a0_4, .int .i64 a0_5, .int .i64 a0_6, .int .i64 a0_7, .int .i64 a0_8, .int .i64 a0_9, .int .i64 a0_10, .int .i64 a0_11] 27 (0, 0)) (by (with_reducible repeat (first | refine YF ?_ _ | refine YG ?_ | refine YH ?_ _)); exact BK336.out) k_ hk, Kd.freshB (g := gb351) (o := .cells #[.int .i64 t337, .int .i64 t338, .bool t339, .int .i64 t340, .int .i64 t341, .int .i64 t342, .int .i64 t343, .int .i64 t344, .int .i64 t345, .int .i64 t346, .int .i64 t347, .int .i64 t348] 27 (0, 0)) (by (with_reducible repeat (first | refine YF ?_ _ | refine YG ?_ | refine YH ?_ _)); exact BK351.out) k_ hk⟩) _ (Nat.le_refl _)) (Below.refl _ _) (Nat.le_refl _) (by simp) ?_; (case hd => rfl); (case hg => rfl); (case hr => first | (go_simp; done) | (go_simp; rfl)); (case hp => exact (Reps.one (show Kd.FK (Kd.slice 5 (Kd.int .u8)) _ _ l1 [.slice A1 l1.length c1] from (Kd.FK_slice_mk (Kd.V_reads' (Kd.V_mono (ok' := (fun k_ => ((P1_ k_ ∨ P2_ k_) ∨ w.heap.size ≤ k_) ∧ k_ ≠ gb336 ∧ k_ ≠ gb351)) (HO_1.out) (fun k_ hk => ⟨hk.1.1, ⟨hk.1.2.1, hk.1.2.2⟩⟩))).2.1 (Kd.V_F (Kd.V_mono (ok' := (fun k_ => ((P1_ k_ ∨ P2_ k_) ∨ w.heap.size ≤ k_) ∧ k_ ≠ gb336 ∧ k_ ≠ gb351)) (by (with_reducible repeat (first | apply Kd.V_alloc | apply Kd.V_drewN | apply Kd.V_drew)); exact HO_1.out) (fun k_ hk => by exact ⟨hk.1.1, ⟨hk.1.2.1, hk.1.2.2⟩⟩))))) (Reps.one (show Kd.FK (Kd.slice 5 (Kd.int .u8)) _ _ t362 [.slice Ao49 t362.length co49] from (Kd.FK_slice_mk (Kd.R_reads' (Kd.R_mono (ok' := (fun k_ => ((P1_ k_ ∨ P2_ k_) ∨ w.heap.size ≤ k_) ∧ k_ ≠ gb336 ∧ k_ ≠ gb351)) (Kd.R_types (Kd.R_types (HO364.out) BK336.out (by decide)) BK351.out (by decide)) (fun k_ hk => ⟨(.inr (hk.1.1.1)), ⟨hk.1.2, hk.2⟩⟩))).2.1 (Kd.R_F (Kd.R_mono (ok' := (fun k_ => ((P1_ k_ ∨ P2_ k_) ∨ w.heap.size ≤ k_) ∧ k_ ≠ gb336 ∧ k_ ≠ gb351)) (Kd.R_types (Kd.R_types (HO364.out) BK336.out (by decide)) BK351.out (by decide)) (fun k_ hk => ⟨(.inr (hk.1.1.1)), ⟨hk.1.2, hk.2⟩⟩))))) (Reps.one (show Kd.FK (Kd.slice 5 (Kd.int .u8)) _ _ l2 [.slice A2 l2.length c2] from (Kd.FK_slice_mk (Kd.V_reads' (Kd.V_mono (ok' := (fun k_ => ((P1_ k_ ∨ P2_ k_) ∨ w.heap.size ≤ k_) ∧ k_ ≠ gb336 ∧ k_ ≠ gb351)) (by (with_reducible repeat (first | apply YS | apply YT | apply YU)); exact HO_2.out) (fun k_ hk => by exact ⟨hk.1.1, ⟨hk.1.2.1, hk.1.2.2⟩⟩))).2.1 (Kd.V_F (Kd.V_mono (ok' := (fun k_ => ((P1_ k_ ∨ P2_ k_) ∨ w.heap.size ≤ k_) ∧ k_ ≠ gb336 ∧ k_ ≠ gb351)) (by (with_reducible repeat (first | apply Kd.V_alloc | apply Kd.V_drewN | apply Kd.V_drew)); exact HO_2.out) (fun k_ hk => by exact ⟨hk.1.1, ⟨hk.1.2.1, hk.1.2.2⟩⟩))))) (Reps.none _ _))))); intro v367 w50 ho51 hb hg_ hnew_; clear hg_ hnew_; (first | rw [← Ny366.out] at ho51 | (simp only [Int.reduceToNat] at ho51; rw [← Ny366.out] at ho51)); have n0_ := YL (Kd.V_elder' (by (with_reducible repeat (first | apply Kd.V_alloc | apply Kd.V_drewN | apply Kd.V_drew)); exact HO_1.out) (Kd.N_base ho51) hb); have n1_ := YL (Kd.V_elder' (by (with_reducible repeat (first | apply Kd.V_alloc | apply Kd.V_drewN | apply Kd.V_drew)); exact HO_2.out) (Kd.N_base ho51) hb); have n2_ := YL (Kd.N_lower ho51 (YE (by repeat (first | (with_reducible first | exact HB.out | apply YA | apply YB | apply YC | refine below_set ?_ GE336.out | refine below_set ?_ GE351.out) | exact HB.out)))); have n3_ := YL (YK (g := gb336) (o := .cells #[.int .i64 a0_0, .int .i64 a0_1, .bool a0_2, .int .i64 a0_3, .int .i64 a0_4, .int .i64 a0_5, .int .i64 a0_6, .int .i64 a0_7, .int .i64 a0_8, .int .i64 a0_9, .int .i64 a0_10, .int .i64 a0_11] 27 (0, 0)) (by (with_reducible repeat (first | refine YF ?_ _ | refine YG ?_ | refine YH ?_ _)); exact BK336.out) hb); have n4_ := YL (YK (g := gb351) (o := .cells #[.int .i64 t337, .int .i64 t338, .bool t339, .int .i64 t340, .int .i64 t341, .int .i64 t342, .int .i64 t343, .int .i64 t344, .int .i64 t345, .int .i64 t346, .int .i64 t347, .int .i64 t348] 27 (0, 0)) (by (with_reducible repeat (first | refine YF ?_ _ | refine YG ?_ | refine YH ?_ _)); exact BK351.out) hb); have n5_ := YL (YD (by repeat (first | (with_reducible first | exact HB.out | apply YA | apply YB | apply YC | refine below_set ?_ GE336.out | refine below_set ?_ GE351.out) | exact HB.out)) hb); clear HO_1; clear HO_2; clear BK336; clear BK351; clear HB; clear HO364; have HO_1 := n0_; have HO_2 := n1_; have HO368 := n2_; have BK336 := n3_; have BK351 := n4_; have HB := n5_; clear n0_ n1_ n2_ n3_ n4_ n5_; clear hb ho51; obtain ⟨Ao52, co52, eo52⟩ := Kd.N_slice HO368.out; subst eo52) | ((with_reducible refine gate_callee (f := 14) rfl ?_); refine goesL_ (some 78) rfl rfl Try.func14 (by kernel_rfl) rfl #[.slice Ao52 y366.length co52] rfl (by (try simp only [YP, List.map_cons, List.map_nil]); first | done | rfl | (simp only [YR, YQ]; rfl)) ?_; (with_reducible refine (thalwegref01_Both.calls kj9 _ _ y366 t369 _ ?side1 ?side2 A39.out).mono ?_); (case side1 => repeat (first | exact (Kd.N_reads' HO368.out).2.2 | (with_reducible refine Kd.C_alloc ?_ _) | (with_reducible refine Kd.C_drewN ?_ _) | (with_reducible refine Kd.C_drew ?_))); (case side2 => exact (Kd.N_reads' HO368.out).2.1); rintro e w53 ⟨v370, rfl, ho0, hb⟩; refine ⟨_, rfl, ?_⟩; have n0_ := YL (Kd.V_elder' (by (with_reducible repeat (first | apply Kd.V_alloc | apply Kd.V_drewN | apply Kd.V_drew)); exact HO_1.out) (Kd.R_base ho0) hb); have n1_ := YL (Kd.V_elder' (by (with_reducible repeat (first | apply Kd.V_alloc | apply Kd.V_drewN | apply Kd.V_drew)); exact HO_2.out) (Kd.R_base ho0) hb); have n2_ := YL (Kd.N_elder' (by (with_reducible repeat (first | apply Kd.N_alloc | apply Kd.N_drewN | apply Kd.N_drew)); exact HO368.out) (Kd.R_base ho0) hb); have n3_ := YL (Kd.R_lower (Kd.R_newM (M := fun k_ => (w.heap.size ≤ k_)) ho0 (YE (by repeat (first | (with_reducible first | exact HB.out | apply YA | apply YB | apply YC | refine below_set ?_ GE336.out | refine below_set ?_ GE351.out) | exact HB.out))) (fun k_ h_ => h_)) (YE (by repeat (first | (with_reducible first | exact HB.out | apply YA | apply YB | apply YC | refine below_set ?_ GE336.out | refine below_set ?_ GE351.out) | exact HB.out)))); have n4_ := YL (YK (g := gb336) (o := .cells #[.int .i64 a0_0, .int .i64 a0_1, .bool a0_2, .int .i64 a0_3, .int .i64 a0_4, .int .i64 a0_5, .int .i64 a0_6, .int .i64 a0_7, .int .i64 a0_8, .int .i64 a0_9, .int .i64 a0_10, .int .i64 a0_11] 27 (0, 0)) (by (with_reducible repeat (first | refine YF ?_ _ | refine YG ?_ | refine YH ?_ _)); exact BK336.out) hb); have n5_ := YL (YK (g := gb351) (o := .cells #[.int .i64 t337, .int .i64 t338, .bool t339, .int .i64 t340, .int .i64 t341, .int .i64 t342, .int .i64 t343, .int .i64 t344, .int .i64 t345, .int .i64 t346, .int .i64 t347, .int .i64 t348] 27 (0, 0)) (by (with_reducible repeat (first | refine YF ?_ _ | refine YG ?_ | refine YH ?_ _)); exact BK351.out) hb); have n6_ := YL (YD (by repeat (first | (with_reducible first | exact HB.out | apply YA | apply YB | apply YC | refine below_set ?_ GE336.out | refine below_set ?_ GE351.out) | exact HB.out)) hb); clear HO_1; clear HO_2; clear HO368; clear BK336; clear BK351; clear HB; have HO_1 := n0_; have HO_2 := n1_; have HO368 := n2_; have HO371 := n3_; have BK336 := n4_; have BK351 := n5_; have HB := n6_; clear n0_ n1_ n2_ n3_ n4_ n5_ n6_; (try clear hb); (try clear hb2); (try clear hk); (try clear hi); (try clear ho0); obtain ⟨Ao54, co54, eo54⟩ := Kd.R_slice HO371.out; subst eo54) | ((with_reducible refine gate_callee (f := 13) rfl ?_); refine goesL_ (some 81) rfl rfl Try.func13 (by kernel_rfl) rfl #[.slice Ao54 t369.length co54, .int .i64 (l1.length : Int)] rfl (by (try simp only [YP, List.map_cons, List.map_nil]); first | done | rfl | (simp only [YR, YQ]; rfl)) ?_; (with_reducible refine (object_Parse.calls _ _ t369 (l1.length : Int) t372 t373 t374 t375 t376 t377 t378 t379 t380 t381 t382 t383 t384 t385 _ ?side1 ?side2 A40.out).mono ?_); (case side1 => repeat (first | exact (Kd.R_reads' HO371.out).2.2 | (with_reducible refine Kd.C_alloc ?_ _) | (with_reducible refine Kd.C_drewN ?_ _) | (with_reducible refine Kd.C_drew ?_))); (case side2 => exact (Kd.R_reads' HO371.out).2.1); rintro e w55 ⟨rfl, hb⟩; refine ⟨_, rfl, ?_⟩; have n0_ := YL (Kd.V_below (by (with_reducible repeat (first | apply Kd.V_alloc | apply Kd.V_drewN | apply Kd.V_drew)); exact HO_1.out) hb); have n1_ := YL (Kd.V_below (by (with_reducible repeat (first | apply Kd.V_alloc | apply Kd.V_drewN | apply Kd.V_drew)); exact HO_2.out) hb); have n2_ := YL (Kd.N_below (by (with_reducible repeat (first | apply Kd.N_alloc | apply Kd.N_drewN | apply Kd.N_drew)); exact HO368.out) hb); have n3_ := YL (YV (by (with_reducible repeat (first | apply YS | apply YT | apply YU)); exact HO371.out) hb); have n4_ := YL (YK (g := gb336) (o := .cells #[.int .i64 a0_0, .int .i64 a0_1, .bool a0_2, .int .i64 a0_3, .int .i64 a0_4, .int .i64 a0_5, .int .i64 a0_6, .int .i64 a0_7, .int .i64 a0_8, .int .i64 a0_9, .int .i64 a0_10, .int .i64 a0_11] 27 (0, 0)) (by (with_reducible repeat (first | refine YF ?_ _ | refine YG ?_ | refine YH ?_ _)); exact BK336.out) hb); have n5_ := YL (YK (g := gb351) (o := .cells #[.int .i64 t337, .int .i64 t338, .bool t339, .int .i64 t340, .int .i64 t341, .int .i64 t342, .int .i64 t343, .int .i64 t344, .int .i64 t345, .int .i64 t346, .int .i64 t347, .int .i64 t348] 27 (0, 0)) (by (with_reducible repeat (first | refine YF ?_ _ | refine YG ?_ | refine YH ?_ _)); exact BK351.out) hb); have n6_ := YL (YD (by repeat (first | (with_reducible first | exact HB.out | apply YA | apply YB | apply YC | refine below_set ?_ GE336.out | refine below_set ?_ GE351.out) | exact HB.out)) hb); clear HO_1; clear HO_2; clear HO368; clear HO371; clear BK336; clear BK351; clear HB; have HO_1 := n0_; have HO_2 := n1_; have HO368 := n2_; have HO371 := n3_; have BK336 := n4_; have BK351 := n5_; have HB := n6_; clear n0_ n1_ n2_ n3_ n4_ n5_ n6_; (try clear hb); (try clear hb2); (try clear hk); (try clear hi)) | ((with_reducible refine gate_dst (N := 14) rfl ?_); (try (refine gate_guard (by rfl) ?_; dsimp only)); refine box_event ?hg (N := 14) ?hd (cs := #[.int .i64 0, .int .i64 0, .bool false, .int .i64 0, .int .i64 0, .int .i64 0, .int .i64 0, .int .i64 0, .int .i64 0, .int .i64 0, .int .i64 0, .int .i64 0]) (t := 27) ?hr ?_; (case hd => rfl); (case hg => rfl); (case hr => first | (go_simp; done) | (go_simp; rfl)); intro gb386 hg w56 hbox hb; have n0_ := YL (Kd.V_below (Kd.V_elderB (by (with_reducible repeat (first | apply Kd.V_alloc | apply Kd.V_drewN | apply Kd.V_drew)); exact HO_1.out) gb386 (Nat.le_of_eq hg.symm)) hb); have n1_ := YL (Kd.V_below (Kd.V_elderB (by (with_reducible repeat (first | apply Kd.V_alloc | apply Kd.V_drewN | apply Kd.V_drew)); exact HO_2.out) gb386 (Nat.le_of_eq hg.symm)) hb); have n2_ := YL (Kd.N_below (Kd.N_elderB (by (with_reducible repeat (first | apply Kd.N_alloc | apply Kd.N_drewN | apply Kd.N_drew)); exact HO368.out) gb386 (Nat.le_of_eq hg.symm)) hb); have n3_ := YL (YV (by (with_reducible repeat (first | apply YS | apply YT | apply YU)); exact HO371.out) hb); have n4_ := YL (YK (g := gb336) (o := .cells #[.int .i64 a0_0, .int .i64 a0_1, .bool a0_2, .int .i64 a0_3, .int .i64 a0_4, .int .i64 a0_5, .int .i64 a0_6, .int .i64 a0_7, .int .i64 a0_8, .int .i64 a0_9, .int .i64 a0_10, .int .i64 a0_11] 27 (0, 0)) (by (with_reducible repeat (first | refine YF ?_ _ | refine YG ?_ | refine YH ?_ _)); exact BK336.out) hb); have n5_ := YL (YK (g := gb351) (o := .cells #[.int .i64 t337, .int .i64 t338, .bool t339, .int .i64 t340, .int .i64 t341, .int .i64 t342, .int .i64 t343, .int .i64 t344, .int .i64 t345, .int .i64 t346, .int .i64 t347, .int .i64 t348] 27 (0, 0)) (by (with_reducible repeat (first | refine YF ?_ _ | refine YG ?_ | refine YH ?_ _)); exact BK351.out) hb); have n6_ := YL (YD (by repeat (first | (with_reducible first | exact HB.out | apply YA | apply YB | apply YC | refine below_set ?_ GE336.out | refine below_set ?_ GE351.out) | exact HB.out)) hb); have n7_ := YL (hbox); have n8_ := YL ((by rw [hg]; exact (YE (by repeat (first | (with_reducible first | exact HB.out | apply YA | apply YB | apply YC | refine below_set ?_ GE336.out | refine below_set ?_ GE351.out) | exact HB.out))) : w.heap.size ≤ gb386)); have n9_ := YL ((by rw [hg]; exact (YE (by repeat (first | (with_reducible first | exact HB.out | apply YA | apply YB | apply YC | refine below_set ?_ GE336.out | refine below_set ?_ GE351.out) | exact HB.out))) : w.heap.size ≤ gb386)); have n10_ := YL ((by rw [hg]; exact Nat.ne_of_lt (blk_lt (g := gb336) (o := .cells #[.int .i64 a0_0, .int .i64 a0_1, .bool a0_2, .int .i64 a0_3, .int .i64 a0_4, .int .i64 a0_5, .int .i64 a0_6, .int .i64 a0_7, .int .i64 a0_8, .int .i64 a0_9, .int .i64 a0_10, .int .i64 a0_11] 27 (0, 0)) (by (with_reducible repeat (first | refine YF ?_ _ | refine YG ?_ | refine YH ?_ _)); exact BK336.out)) : gb336 ≠ gb386)); have n11_ := YL ((by rw [hg]; exact Nat.ne_of_gt (blk_lt (g := gb336) (o := .cells #[.int .i64 a0_0, .int .i64 a0_1, .bool a0_2, .int .i64 a0_3, .int .i64 a0_4, .int .i64 a0_5, .int .i64 a0_6, .int .i64 a0_7, .int .i64 a0_8, .int .i64 a0_9, .int .i64 a0_10, .int .i64 a0_11] 27 (0, 0)) (by (with_reducible repeat (first | refine YF ?_ _ | refine YG ?_ | refine YH ?_ _)); exact BK336.out)) : gb386 ≠ gb336)); have n12_ := YL ((by rw [hg]; exact Nat.ne_of_lt (blk_lt (g := gb351) (o := .cells #[.int .i64 t337, .int .i64 t338, .bool t339, .int .i64 t340, .int .i64 t341, .int .i64 t342, .int .i64 t343, .int .i64 t344, .int .i64 t345, .int .i64 t346, .int .i64 t347, .int .i64 t348] 27 (0, 0)) (by (with_reducible repeat (first | refine YF ?_ _ | refine YG ?_ | refine YH ?_ _)); exact BK351.out)) : gb351 ≠ gb386)); have n13_ := YL ((by rw [hg]; exact Nat.ne_of_gt (blk_lt (g := gb351) (o := .cells #[.int .i64 t337, .int .i64 t338, .bool t339, .int .i64 t340, .int .i64 t341, .int .i64 t342, .int .i64 t343, .int .i64 t344, .int .i64 t345, .int .i64 t346, .int .i64 t347, .int .i64 t348] 27 (0, 0)) (by (with_reducible repeat (first | refine YF ?_ _ | refine YG ?_ | refine YH ?_ _)); exact BK351.out)) : gb386 ≠ gb351)); clear HO_1; clear HO_2; clear HO368; clear HO371; clear BK336; clear BK351; clear HB; have HO_1 := n0_; have HO_2 := n1_; have HO368 := n2_; have HO371 := n3_; have BK336 := n4_; have BK351 := n5_; have HB := n6_; have BK386 := n7_; have GW386 := n8_; have GE386 := n9_; have NB336_386 := n10_; have NB386_336 := n11_; have NB351_386 := n12_; have NB386_351 := n13_; clear n0_ n1_ n2_ n3_ n4_ n5_ n6_ n7_ n8_ n9_ n10_ n11_ n12_ n13_; clear hb hbox hg; have hnb57 := NB386_336.out; have hnc57 := NB336_386.out; have hnb58 := NB386_351.out; have hnc58 := NB351_386.out; have q59_0 : w56.cell? ⟨gb386, 0, none⟩ = some (.int .i64 0) := (YI BK386.out 0).trans rfl; have q59_1 : w56.cell? ⟨gb386, 1, none⟩ = some (.int .i64 0) := (YI BK386.out 1).trans rfl; have q59_2 : w56.cell? ⟨gb386, 2, none⟩ = some (.bool false) := (YI BK386.out 2).trans rfl; have q59_3 : w56.cell? ⟨gb386, 3, none⟩ = some (.int .i64 0) := (YI BK386.out 3).trans rfl; have q59_4 : w56.cell? ⟨gb386, 4, none⟩ = some (.int .i64 0) := (YI BK386.out 4).trans rfl; have q59_5 : w56.cell? ⟨gb386, 5, none⟩ = some (.int .i64 0) := (YI BK386.out 5).trans rfl; have q59_6 : w56.cell? ⟨gb386, 6, none⟩ = some (.int .i64 0) := (YI BK386.out 6).trans rfl; have q59_7 : w56.cell? ⟨gb386, 7, none⟩ = some (.int .i64 0) := (YI BK386.out 7).trans rfl; have q59_8 : w56.cell? ⟨gb386, 8, none⟩ = some (.int .i64 0) := (YI BK386.out 8).trans rfl; have q59_9 : w56.cell? ⟨gb386, 9, none⟩ = some (.int .i64 0) := (YI BK386.out 9).trans rfl; have q59_10 : w56.cell? ⟨gb386, 10, none⟩ = some (.int .i64 0) := (YI BK386.out 10).trans rfl; have q59_11 : w56.cell? ⟨gb386, 11, none⟩ = some (.int .i64 0) := (YI BK386.out 11).trans rfl; have f59_0 := YJ BK386.out 0; have f59_1 := YJ BK386.out 1; have f59_2 := YJ BK386.out 2; have f59_3 := YJ BK386.out 3; have f59_4 := YJ BK386.out 4; have f59_5 := YJ BK386.out 5; have f59_6 := YJ BK386.out 6; have f59_7 := YJ BK386.out 7; have f59_8 := YJ BK386.out 8; have f59_9 := YJ BK386.out 9; have f59_10 := YJ BK386.out 10; have f59_11 := YJ BK386.out 11) | ((with_reducible refine gate_callee (f := 8) rfl ?_); refine goesL_ (some 98) rfl rfl Try.func8 (by kernel_rfl) rfl #[] rfl (by (try simp only [YP, List.map_cons, List.map_nil]); first | done | rfl | (simp only [YR, YQ]; rfl)) ?_; (with_reducible refine (thalweglaw04_awake.calls kj9  true _ A42.out).mono ?_); rintro e w60 ⟨rfl, hb⟩; refine ⟨_, rfl, ?_⟩; have n0_ := YL (Kd.V_below (by (with_reducible repeat (first | apply Kd.V_alloc | apply Kd.V_drewN | apply Kd.V_drew)); exact (Kd.V_mono (Kd.V_far (p := ⟨gb386, 11, none⟩) (Kd.V_far (p := ⟨gb386, 10, none⟩) (Kd.V_far (p := ⟨gb386, 9, none⟩) (Kd.V_far (p := ⟨gb386, 8, none⟩) (Kd.V_far (p := ⟨gb386, 7, none⟩) (Kd.V_far (p := ⟨gb386, 6, none⟩) (Kd.V_far (p := ⟨gb386, 5, none⟩) (Kd.V_far (p := ⟨gb386, 4, none⟩) (Kd.V_far (p := ⟨gb386, 3, none⟩) (Kd.V_far (p := ⟨gb386, 2, none⟩) (Kd.V_far (p := ⟨gb386, 1, none⟩) (Kd.V_far (p := ⟨gb386, 0, none⟩) (Kd.V_mono HO_1.out (fun k_ hk => (⟨hk, hk.2⟩ : _ ∧ k_ ≠ gb386))) (fun _ hk => hk.2) (.int .i64 t372)) (fun _ hk => hk.2) (.int .i64 t373)) (fun _ hk => hk.2) (.bool t374)) (fun _ hk => hk.2) (.int .i64 t375)) (fun _ hk => hk.2) (.int .i64 t376)) (fun _ hk => hk.2) (.int .i64 t377)) (fun _ hk => hk.2) (.int .i64 t378)) (fun _ hk => hk.2) (.int .i64 t379)) (fun _ hk => hk.2) (.int .i64 t380)) (fun _ hk => hk.2) (.int .i64 t381)) (fun _ hk => hk.2) (.int .i64 t382)) (fun _ hk => hk.2) (.int .i64 t383)) (fun _ h_ => h_.1))) hb); have n1_ := YL (Kd.V_below (by (with_reducible repeat (first | apply Kd.V_alloc | apply Kd.V_drewN | apply Kd.V_drew)); exact (Kd.V_mono (Kd.V_far (p := ⟨gb386, 11, none⟩) (Kd.V_far (p := ⟨gb386, 10, none⟩) (Kd.V_far (p := ⟨gb386, 9, none⟩) (Kd.V_far (p := ⟨gb386, 8, none⟩) (Kd.V_far (p := ⟨gb386, 7, none⟩) (Kd.V_far (p := ⟨gb386, 6, none⟩) (Kd.V_far (p := ⟨gb386, 5, none⟩) (Kd.V_far (p := ⟨gb386, 4, none⟩) (Kd.V_far (p := ⟨gb386, 3, none⟩) (Kd.V_far (p := ⟨gb386, 2, none⟩) (Kd.V_far (p := ⟨gb386, 1, none⟩) (Kd.V_far (p := ⟨gb386, 0, none⟩) (Kd.V_mono HO_2.out (fun k_ hk => (⟨hk, hk.2⟩ : _ ∧ k_ ≠ gb386))) (fun _ hk => hk.2) (.int .i64 t372)) (fun _ hk => hk.2) (.int .i64 t373)) (fun _ hk => hk.2) (.bool t374)) (fun _ hk => hk.2) (.int .i64 t375)) (fun _ hk => hk.2) (.int .i64 t376)) (fun _ hk => hk.2) (.int .i64 t377)) (fun _ hk => hk.2) (.int .i64 t378)) (fun _ hk => hk.2) (.int .i64 t379)) (fun _ hk => hk.2) (.int .i64 t380)) (fun _ hk => hk.2) (.int .i64 t381)) (fun _ hk => hk.2) (.int .i64 t382)) (fun _ hk => hk.2) (.int .i64 t383)) (fun _ h_ => h_.1))) hb); have n2_ := YL (Kd.N_below (by (with_reducible repeat (first | apply Kd.N_alloc | apply Kd.N_drewN | apply Kd.N_drew)); exact (Kd.N_mono (Kd.N_far (p := ⟨gb386, 11, none⟩) (Kd.N_far (p := ⟨gb386, 10, none⟩) (Kd.N_far (p := ⟨gb386, 9, none⟩) (Kd.N_far (p := ⟨gb386, 8, none⟩) (Kd.N_far (p := ⟨gb386, 7, none⟩) (Kd.N_far (p := ⟨gb386, 6, none⟩) (Kd.N_far (p := ⟨gb386, 5, none⟩) (Kd.N_far (p := ⟨gb386, 4, none⟩) (Kd.N_far (p := ⟨gb386, 3, none⟩) (Kd.N_far (p := ⟨gb386, 2, none⟩) (Kd.N_far (p := ⟨gb386, 1, none⟩) (Kd.N_far (p := ⟨gb386, 0, none⟩) (Kd.N_mono HO368.out (fun k_ hk => (⟨hk, hk.2⟩ : _ ∧ k_ ≠ gb386))) (fun _ hk => hk.2) (.int .i64 t372)) (fun _ hk => hk.2) (.int .i64 t373)) (fun _ hk => hk.2) (.bool t374)) (fun _ hk => hk.2) (.int .i64 t375)) (fun _ hk => hk.2) (.int .i64 t376)) (fun _ hk => hk.2) (.int .i64 t377)) (fun _ hk => hk.2) (.int .i64 t378)) (fun _ hk => hk.2) (.int .i64 t379)) (fun _ hk => hk.2) (.int .i64 t380)) (fun _ hk => hk.2) (.int .i64 t381)) (fun _ hk => hk.2) (.int .i64 t382)) (fun _ hk => hk.2) (.int .i64 t383)) (fun _ h_ => h_.1))) hb); have n3_ := YL (YV (by (with_reducible repeat (first | apply YS | apply YT | apply YU)); exact (Kd.R_mono (Kd.R_far (p := ⟨gb386, 11, none⟩) (Kd.R_far (p := ⟨gb386, 10, none⟩) (Kd.R_far (p := ⟨gb386, 9, none⟩) (Kd.R_far (p := ⟨gb386, 8, none⟩) (Kd.R_far (p := ⟨gb386, 7, none⟩) (Kd.R_far (p := ⟨gb386, 6, none⟩) (Kd.R_far (p := ⟨gb386, 5, none⟩) (Kd.R_far (p := ⟨gb386, 4, none⟩) (Kd.R_far (p := ⟨gb386, 3, none⟩) (Kd.R_far (p := ⟨gb386, 2, none⟩) (Kd.R_far (p := ⟨gb386, 1, none⟩) (Kd.R_far (p := ⟨gb386, 0, none⟩) (Kd.R_types HO371.out BK386.out (by decide)) (fun _ hk => hk.2) (.int .i64 t372)) (fun _ hk => hk.2) (.int .i64 t373)) (fun _ hk => hk.2) (.bool t374)) (fun _ hk => hk.2) (.int .i64 t375)) (fun _ hk => hk.2) (.int .i64 t376)) (fun _ hk => hk.2) (.int .i64 t377)) (fun _ hk => hk.2) (.int .i64 t378)) (fun _ hk => hk.2) (.int .i64 t379)) (fun _ hk => hk.2) (.int .i64 t380)) (fun _ hk => hk.2) (.int .i64 t381)) (fun _ hk => hk.2) (.int .i64 t382)) (fun _ hk => hk.2) (.int .i64 t383)) (fun _ h_ => h_.1))) hb); have n4_ := YL (YK (g := gb336) (o := .cells #[.int .i64 a0_0, .int .i64 a0_1, .bool a0_2, .int .i64 a0_3, .int .i64 a0_4, .int .i64 a0_5, .int .i64 a0_6, .int .i64 a0_7, .int .i64 a0_8, .int .i64 a0_9, .int .i64 a0_10, .int .i64 a0_11] 27 (0, 0)) (by (with_reducible repeat (first | refine YF ?_ _ | refine YG ?_ | refine YH ?_ _)); refine blk_far ?_ NB336_386.out _; (with_reducible repeat (first | refine YF ?_ _ | refine YG ?_ | refine YH ?_ _)); refine blk_far ?_ NB336_386.out _; (with_reducible repeat (first | refine YF ?_ _ | refine YG ?_ | refine YH ?_ _)); refine blk_far ?_ NB336_386.out _; (with_reducible repeat (first | refine YF ?_ _ | refine YG ?_ | refine YH ?_ _)); refine blk_far ?_ NB336_386.out _; (with_reducible repeat (first | refine YF ?_ _ | refine YG ?_ | refine YH ?_ _)); refine blk_far ?_ NB336_386.out _; (with_reducible repeat (first | refine YF ?_ _ | refine YG ?_ | refine YH ?_ _)); refine blk_far ?_ NB336_386.out _; (with_reducible repeat (first | refine YF ?_ _ | refine YG ?_ | refine YH ?_ _)); refine blk_far ?_ NB336_386.out _; (with_reducible repeat (first | refine YF ?_ _ | refine YG ?_ | refine YH ?_ _)); refine blk_far ?_ NB336_386.out _; (with_reducible repeat (first | refine YF ?_ _ | refine YG ?_ | refine YH ?_ _)); refine blk_far ?_ NB336_386.out _; (with_reducible repeat (first | refine YF ?_ _ | refine YG ?_ | refine YH ?_ _)); refine blk_far ?_ NB336_386.out _; (with_reducible repeat (first | refine YF ?_ _ | refine YG ?_ | refine YH ?_ _)); refine blk_far ?_ NB336_386.out _; (with_reducible repeat (first | refine YF ?_ _ | refine YG ?_ | refine YH ?_ _)); refine blk_far ?_ NB336_386.out _; (with_reducible repeat (first | refine YF ?_ _ | refine YG ?_ | refine YH ?_ _)); exact BK336.out) hb); have n5_ := YL (YK (g := gb351) (o := .cells #[.int .i64 t337, .int .i64 t338, .bool t339, .int .i64 t340, .int .i64 t341, .int .i64 t342, .int .i64 t343, .int .i64 t344, .int .i64 t345, .int .i64 t346, .int .i64 t347, .int .i64 t348] 27 (0, 0)) (by (with_reducible repeat (first | refine YF ?_ _ | refine YG ?_ | refine YH ?_ _)); refine blk_far ?_ NB351_386.out _; (with_reducible repeat (first | refine YF ?_ _ | refine YG ?_ | refine YH ?_ _)); refine blk_far ?_ NB351_386.out _; (with_reducible repeat (first | refine YF ?_ _ | refine YG ?_ | refine YH ?_ _)); refine blk_far ?_ NB351_386.out _; (with_reducible repeat (first | refine YF ?_ _ | refine YG ?_ | refine YH ?_ _)); refine blk_far ?_ NB351_386.out _; (with_reducible repeat (first | refine YF ?_ _ | refine YG ?_ | refine YH ?_ _)); refine blk_far ?_ NB351_386.out _; (with_reducible repeat (first | refine YF ?_ _ | refine YG ?_ | refine YH ?_ _)); refine blk_far ?_ NB351_386.out _; (with_reducible repeat (first | refine YF ?_ _ | refine YG ?_ | refine YH ?_ _)); refine blk_far ?_ NB351_386.out _; (with_reducible repeat (first | refine YF ?_ _ | refine YG ?_ | refine YH ?_ _)); refine blk_far ?_ NB351_386.out _; (with_reducible repeat (first | refine YF ?_ _ | refine YG ?_ | refine YH ?_ _)); refine blk_far ?_ NB351_386.out _; (with_reducible repeat (first | refine YF ?_ _ | refine YG ?_ | refine YH ?_ _)); refine blk_far ?_ NB351_386.out _; (with_reducible repeat (first | refine YF ?_ _ | refine YG ?_ | refine YH ?_ _)); refine blk_far ?_ NB351_386.out _; (with_reducible repeat (first | refine YF ?_ _ | refine YG ?_ | refine YH ?_ _)); refine blk_far ?_ NB351_386.out _; (with_reducible repeat (first | refine YF ?_ _ | refine YG ?_ | refine YH ?_ _)); exact BK351.out) hb); have n6_ := YL (YK (g := gb386) (o := .cells #[.int .i64 t372, .int .i64 t373, .bool t374, .int .i64 t375, .int .i64 t376, .int .i64 t377, .int .i64 t378, .int .i64 t379, .int .i64 t380, .int .i64 t381, .int .i64 t382, .int .i64 t383] 27 (0, 0)) (by (with_reducible repeat (first | refine YF ?_ _ | refine YG ?_ | refine YH ?_ _)); refine blk_put (cs := #[.int .i64 t372, .int .i64 t373, .bool t374, .int .i64 t375, .int .i64 t376, .int .i64 t377, .int .i64 t378, .int .i64 t379, .int .i64 t380, .int .i64 t381, .int .i64 t382, .int .i64 0]) ?_ 11 _ rfl; (with_reducible repeat (first | refine YF ?_ _ | refine YG ?_ | refine YH ?_ _)); refine blk_put (cs := #[.int .i64 t372, .int .i64 t373, .bool t374, .int .i64 t375, .int .i64 t376, .int .i64 t377, .int .i64 t378, .int .i64 t379, .int .i64 t380, .int .i64 t381, .int .i64 0, .int .i64 0]) ?_ 10 _ rfl; (with_reducible repeat (first | refine YF ?_ _ | refine YG ?_ | refine YH ?_ _)); refine blk_put (cs := #[.int .i64 t372, .int .i64 t373, .bool t374, .int .i64 t375, .int .i64 t376, .int .i64 t377, .int .i64 t378, .int .i64 t379, .int .i64 t380, .int .i64 0, .int .i64 0, .int .i64 0]) ?_ 9 _ rfl; (with_reducible repeat (first | refine YF ?_ _ | refine YG ?_ | refine YH ?_ _)); refine blk_put (cs := #[.int .i64 t372, .int .i64 t373, .bool t374, .int .i64 t375, .int .i64 t376, .int .i64 t377, .int .i64 t378, .int .i64 t379, .int .i64 0, .int .i64 0, .int .i64 0, .int .i64 0]) ?_ 8 _ rfl; (with_reducible repeat (first | refine YF ?_ _ | refine YG ?_ | refine YH ?_ _)); refine blk_put (cs := #[.int .i64 t372, .int .i64 t373, .bool t374, .int .i64 t375, .int .i64 t376, .int .i64 t377, .int .i64 t378, .int .i64 0, .int .i64 0, .int .i64 0, .int .i64 0, .int .i64 0]) ?_ 7 _ rfl; (with_reducible repeat (first | refine YF ?_ _ | refine YG ?_ | refine YH ?_ _)); refine blk_put (cs := #[.int .i64 t372, .int .i64 t373, .bool t374, .int .i64 t375, .int .i64 t376, .int .i64 t377, .int .i64 0, .int .i64 0, .int .i64 0, .int .i64 0, .int .i64 0, .int .i64 0]) ?_ 6 _ rfl; (with_reducible repeat (first | refine YF ?_ _ | refine YG ?_ | refine YH ?_ _)); refine blk_put (cs := #[.int .i64 t372, .int .i64 t373, .bool t374, .int .i64 t375, .int .i64 t376, .int .i64 0, .int .i64 0, .int .i64 0, .int .i64 0, .int .i64 0, .int .i64 0, .int .i64 0]) ?_ 5 _ rfl; (with_reducible repeat (first | refine YF ?_ _ | refine YG ?_ | refine YH ?_ _)); refine blk_put (cs := #[.int .i64 t372, .int .i64 t373, .bool t374, .int .i64 t375, .int .i64 0, .int .i64 0, .int .i64 0, .int .i64 0, .int .i64 0, .int .i64 0, .int .i64 0, .int .i64 0]) ?_ 4 _ rfl; (with_reducible repeat (first | refine YF ?_ _ | refine YG ?_ | refine YH ?_ _)); refine blk_put (cs := #[.int .i64 t372, .int .i64 t373, .bool t374, .int .i64 0, .int .i64 0, .int .i64 0, .int .i64 0, .int .i64 0, .int .i64 0, .int .i64 0, .int .i64 0, .int .i64 0]) ?_ 3 _ rfl; (with_reducible repeat (first | refine YF ?_ _ | refine YG ?_ | refine YH ?_ _)); refine blk_put (cs := #[.int .i64 t372, .int .i64 t373, .bool false, .int .i64 0, .int .i64 0, .int .i64 0, .int .i64 0, .int .i64 0, .int .i64 0, .int .i64 0, .int .i64 0, .int .i64 0]) ?_ 2 _ rfl; (with_reducible repeat (first | refine YF ?_ _ | refine YG ?_ | refine YH ?_ _)); refine blk_put (cs := #[.int .i64 t372, .int .i64 0, .bool false, .int .i64 0, .int .i64 0, .int .i64 0, .int .i64 0, .int .i64 0, .int .i64 0, .int .i64 0, .int .i64 0, .int .i64 0]) ?_ 1 _ rfl; (with_reducible repeat (first | refine YF ?_ _ | refine YG ?_ | refine YH ?_ _)); refine blk_put (cs := #[.int .i64 0, .int .i64 0, .bool false, .int .i64 0, .int .i64 0, .int .i64 0, .int .i64 0, .int .i64 0, .int .i64 0, .int .i64 0, .int .i64 0, .int .i64 0]) ?_ 0 _ rfl; (with_reducible repeat (first | refine YF ?_ _ | refine YG ?_ | refine YH ?_ _)); exact BK386.out) hb); have n7_ := YL (YD (by repeat (first | (with_reducible first | exact HB.out | apply YA | apply YB | apply YC | refine below_set ?_ GE336.out | refine below_set ?_ GE351.out | refine below_set ?_ GE386.out) | exact HB.out)) hb); clear HO_1; clear HO_2; clear HO368; clear HO371; clear BK336; clear BK351; clear BK386; clear HB; have HO_1 := n0_; have HO_2 := n1_; have HO368 := n2_; have HO371 := n3_; have BK336 := n4_; have BK351 := n5_; have BK386 := n6_; have HB := n7_; clear n0_ n1_ n2_ n3_ n4_ n5_ n6_ n7_; (try clear hb); (try clear hb2); (try clear hk); (try clear hi); have q61_0 : w60.cell? ⟨gb386, 0, none⟩ = some (.int .i64 t372) := (YI BK386.out 0).trans rfl; have q61_1 : w60.cell? ⟨gb386, 1, none⟩ = some (.int .i64 t373) := (YI BK386.out 1).trans rfl; have q61_2 : w60.cell? ⟨gb386, 2, none⟩ = some (.bool t374) := (YI BK386.out 2).trans rfl; have q61_3 : w60.cell? ⟨gb386, 3, none⟩ = some (.int .i64 t375) := (YI BK386.out 3).trans rfl; have q61_4 : w60.cell? ⟨gb386, 4, none⟩ = some (.int .i64 t376) := (YI BK386.out 4).trans rfl; have q61_5 : w60.cell? ⟨gb386, 5, none⟩ = some (.int .i64 t377) := (YI BK386.out 5).trans rfl; have q61_6 : w60.cell? ⟨gb386, 6, none⟩ = some (.int .i64 t378) := (YI BK386.out 6).trans rfl; have q61_7 : w60.cell? ⟨gb386, 7, none⟩ = some (.int .i64 t379) := (YI BK386.out 7).trans rfl; have q61_8 : w60.cell? ⟨gb386, 8, none⟩ = some (.int .i64 t380) := (YI BK386.out 8).trans rfl; have q61_9 : w60.cell? ⟨gb386, 9, none⟩ = some (.int .i64 t381) := (YI BK386.out 9).trans rfl; have q61_10 : w60.cell? ⟨gb386, 10, none⟩ = some (.int .i64 t382) := (YI BK386.out 10).trans rfl; have q61_11 : w60.cell? ⟨gb386, 11, none⟩ = some (.int .i64 t383) := (YI BK386.out 11).trans rfl; have f61_0 := YJ BK386.out 0; have f61_1 := YJ BK386.out 1; have f61_2 := YJ BK386.out 2; have f61_3 := YJ BK386.out 3; have f61_4 := YJ BK386.out 4; have f61_5 := YJ BK386.out 5; have f61_6 := YJ BK386.out 6; have f61_7 := YJ BK386.out 7; have f61_8 := YJ BK386.out 8; have f61_9 := YJ BK386.out 9; have f61_10 := YJ BK386.out 10; have f61_11 := YJ BK386.out 11; have q62_0 : w60.cell? ⟨gb336, 0, none⟩ = some (.int .i64 a0_0) := (YI BK336.out 0).trans rfl; have q62_1 : w60.cell? ⟨gb336, 1, none⟩ = some (.int .i64 a0_1) := (YI BK336.out 1).trans rfl; have q62_2 : w60.cell? ⟨gb336, 2, none⟩ = some (.bool a0_2) := (YI BK336.out 2).trans rfl; have q62_3 : w60.cell? ⟨gb336, 3, none⟩ = some (.int .i64 a0_3) := (YI BK336.out 3).trans rfl; have q62_4 : w60.cell? ⟨gb336, 4, none⟩ = some (.int .i64 a0_4) := (YI BK336.out 4).trans rfl; have q62_5 : w60.cell? ⟨gb336, 5, none⟩ = some (.int .i64 a0_5) := (YI BK336.out 5).trans rfl; have q62_6 : w60.cell? ⟨gb336, 6, none⟩ = some (.int .i64 a0_6) := (YI BK336.out 6).trans rfl; have q62_7 : w60.cell? ⟨gb336, 7, none⟩ = some (.int .i64 a0_7) := (YI BK336.out 7).trans rfl; have q62_8 : w60.cell? ⟨gb336, 8, none⟩ = some (.int .i64 a0_8) := (YI BK336.out 8).trans rfl; have q62_9 : w60.cell? ⟨gb336, 9, none⟩ = some (.int .i64 a0_9) := (YI BK336.out 9).trans rfl; have q62_10 : w60.cell? ⟨gb336, 10, none⟩ = some (.int .i64 a0_10) := (YI BK336.out 10).trans rfl; have q62_11 : w60.cell? ⟨gb336, 11, none⟩ = some (.int .i64 a0_11) := (YI BK336.out 11).trans rfl; have f62_0 := YJ BK336.out 0; have f62_1 := YJ BK336.out 1; have f62_2 := YJ BK336.out 2; have f62_3 := YJ BK336.out 3; have f62_4 := YJ BK336.out 4; have f62_5 := YJ BK336.out 5; have f62_6 := YJ BK336.out 6; have f62_7 := YJ BK336.out 7; have f62_8 := YJ BK336.out 8; have f62_9 := YJ BK336.out 9; have f62_10 := YJ BK336.out 10; have f62_11 := YJ BK336.out 11))
       go_ret
       exact ⟨by first | rfl | (simp [errW_none, errW_some] <;> rfl) | (simp [*, errW_none, errW_some] <;> rfl), by repeat (first | (with_reducible first | exact HB.out | apply YA | apply YB | apply YC | refine below_set ?_ GE336.out | refine below_set ?_ GE351.out | refine below_set ?_ GE386.out) | exact HB.out)⟩
      replace c43 := Bool.eq_false_iff.mpr c43
      subst c43
      have H1 : (none) = some r := by rw [if_neg (show ¬ (false = true) by decide)] at H; exact H
      clear H
      have H := H1
      clear H1
      exact absurd H (by simp)
     rw [if_neg c41] at H
     have c41b0 : (t365 == 0) = false := beq_eq_false_iff_ne.mpr c41
     have c41b1 : (t365 != 0) = true := bne_iff_ne.mpr c41
     replace H := Option.bind_eq_some_iff.mp H; obtain ⟨t388, A630, H⟩ := H
     replace H : (if t388 = true then (if (t362.length : Int) = 0 then ((object_Size.f kj9 a0_0 a0_1 a0_2 a0_3 a0_4 a0_5 a0_6 a0_7 a0_8 a0_9 a0_10 a0_11).bind fun t389 => (some (t389 == 0))) else (none)) else (none)) = some r := H
     have A63 := YL A630; clear A630
     by_cases c64 : t388 = true
     ·subst c64
      have H1 : (if (t362.length : Int) = 0 then ((object_Size.f kj9 a0_0 a0_1 a0_2 a0_3 a0_4 a0_5 a0_6 a0_7 a0_8 a0_9 a0_10 a0_11).bind fun t389 => (some (t389 == 0))) else (none)) = some r := by rw [if_pos rfl] at H; exact H
      clear H
      have H := H1
      clear H1
      by_cases c65 : (t362.length : Int) = 0
      rotate_left
      ·rw [if_neg c65] at H
       exact absurd H (by simp)
      rw [if_pos c65] at H
      have c65b0 : ((t362.length : Int) == 0) = true := beq_iff_eq.mpr c65
      have c65b1 : ((t362.length : Int) != 0) = false := bne_eq_false_iff_eq.mpr c65
      clear c65; replace H := Option.bind_eq_some_iff.mp H; obtain ⟨t389, A660, H⟩ := H
      replace H : (some (t389 == 0)) = some r := H
      have A66 := YL A660; clear A660
      obtain rfl := Option.some.inj H
      have hnb67 := NB336_351.out
      have hnc67 := NB351_336.out
      have q68_0 : wc.cell? ⟨gb336, 0, none⟩ = some (.int .i64 a0_0) := (YI BK336.out 0).trans rfl
      have q68_1 : wc.cell? ⟨gb336, 1, none⟩ = some (.int .i64 a0_1) := (YI BK336.out 1).trans rfl
      have q68_2 : wc.cell? ⟨gb336, 2, none⟩ = some (.bool a0_2) := (YI BK336.out 2).trans rfl
      have q68_3 : wc.cell? ⟨gb336, 3, none⟩ = some (.int .i64 a0_3) := (YI BK336.out 3).trans rfl
      have q68_4 : wc.cell? ⟨gb336, 4, none⟩ = some (.int .i64 a0_4) := (YI BK336.out 4).trans rfl
      have q68_5 : wc.cell? ⟨gb336, 5, none⟩ = some (.int .i64 a0_5) := (YI BK336.out 5).trans rfl
      have q68_6 : wc.cell? ⟨gb336, 6, none⟩ = some (.int .i64 a0_6) := (YI BK336.out 6).trans rfl
      have q68_7 : wc.cell? ⟨gb336, 7, none⟩ = some (.int .i64 a0_7) := (YI BK336.out 7).trans rfl
      have q68_8 : wc.cell? ⟨gb336, 8, none⟩ = some (.int .i64 a0_8) := (YI BK336.out 8).trans rfl
      have q68_9 : wc.cell? ⟨gb336, 9, none⟩ = some (.int .i64 a0_9) := (YI BK336.out 9).trans rfl
      have q68_10 : wc.cell? ⟨gb336, 10, none⟩ = some (.int .i64 a0_10) := (YI BK336.out 10).trans rfl
      have q68_11 : wc.cell? ⟨gb336, 11, none⟩ = some (.int .i64 a0_11) := (YI BK336.out 11).trans rfl
      have f68_0 := YJ BK336.out 0
      have f68_1 := YJ BK336.out 1
      have f68_2 := YJ BK336.out 2
      have f68_3 := YJ BK336.out 3
      have f68_4 := YJ BK336.out 4
      have f68_5 := YJ BK336.out 5
      have f68_6 := YJ BK336.out 6
      have f68_7 := YJ BK336.out 7
      have f68_8 := YJ BK336.out 8
      have f68_9 := YJ BK336.out 9
      have f68_10 := YJ BK336.out 10
      have f68_11 := YJ BK336.out 11
      go_wp2_with (first | ((with_reducible refine gate_callee (f := 7) rfl ?_); refine goesL_ (some 70) rfl rfl Try.func7 (by kernel_rfl) rfl #[.agg #[.int .i64 a0_0, .int .i64 a0_1, .bool a0_2, .int .i64 a0_3, .int .i64 a0_4, .int .i64 a0_5, .int .i64 a0_6, .int .i64 a0_7, .int .i64 a0_8, .int .i64 a0_9, .int .i64 a0_10, .int .i64 a0_11]] rfl (by (try simp only [YP, List.map_cons, List.map_nil]); first | done | rfl | (simp only [YR, YQ]; rfl)) ?_; (with_reducible refine (object_Bytes.calls kj9 a0_0 a0_1 a0_2 a0_3 a0_4 a0_5 a0_6 a0_7 a0_8 a0_9 a0_10 a0_11 t362 t365 _ A38.out).mono ?_); rintro e w69 ⟨v363, rfl, ho0, hb⟩; refine ⟨_, rfl, ?_⟩; have n0_ := YL (Kd.V_elder' (by (with_reducible repeat (first | apply Kd.V_alloc | apply Kd.V_drewN | apply Kd.V_drew)); exact HO_1.out) (Kd.R_base ho0) hb); have n1_ := YL (Kd.V_elder' (by (with_reducible repeat (first | apply Kd.V_alloc | apply Kd.V_drewN | apply Kd.V_drew)); exact HO_2.out) (Kd.R_base ho0) hb); have n2_ := YL (Kd.R_lower (Kd.R_newM (M := fun k_ => (w.heap.size ≤ k_)) ho0 (YE (by repeat (first | (with_reducible first | exact HB.out | apply YA | apply YB | apply YC | refine below_set ?_ GE336.out | refine below_set ?_ GE351.out) | exact HB.out))) (fun k_ h_ => h_)) (YE (by repeat (first | (with_reducible first | exact HB.out | apply YA | apply YB | apply YC | refine below_set ?_ GE336.out | refine below_set ?_ GE351.out) | exact HB.out)))); have n3_ := YL (YK (g := gb336) (o := .cells #[.int .i64 a0_0, .int .i64 a0_1, .bool a0_2, .int .i64 a0_3, .int .i64 a0_4, .int .i64 a0_5, .int .i64 a0_6, .int .i64 a0_7, .int .i64 a0_8, .int .i64 a0_9, .int .i64 a0_10, .int .i64 a0_11] 27 (0, 0)) (by (with_reducible repeat (first | refine YF ?_ _ | refine YG ?_ | refine YH ?_ _)); exact BK336.out) hb); have n4_ := YL (YK (g := gb351) (o := .cells #[.int .i64 t337, .int .i64 t338, .bool t339, .int .i64 t340, .int .i64 t341, .int .i64 t342, .int .i64 t343, .int .i64 t344, .int .i64 t345, .int .i64 t346, .int .i64 t347, .int .i64 t348] 27 (0, 0)) (by (with_reducible repeat (first | refine YF ?_ _ | refine YG ?_ | refine YH ?_ _)); exact BK351.out) hb); have n5_ := YL (YD (by repeat (first | (with_reducible first | exact HB.out | apply YA | apply YB | apply YC | refine below_set ?_ GE336.out | refine below_set ?_ GE351.out) | exact HB.out)) hb); clear HO_1; clear HO_2; clear BK336; clear BK351; clear HB; have HO_1 := n0_; have HO_2 := n1_; have HO364 := n2_; have BK336 := n3_; have BK351 := n4_; have HB := n5_; clear n0_ n1_ n2_ n3_ n4_ n5_; (try clear hb); (try clear hb2); (try clear hk); (try clear hi); (try clear ho0); obtain ⟨Ao70, co70, eo70⟩ := Kd.R_slice HO364.out; subst eo70) | ((with_reducible refine gate_dst (N := 77) rfl ?_); (try (refine gate_guard (by rfl) ?_; dsimp only)); refine Kd.N_lit (Kd.slice 5 (Kd.int .u8)) _ 28 ?hg (N' := 77) ?hd (xs := ([l1, t362, l2] : List (List Int))) (inner := [.slice A1 l1.length c1, .slice Ao70 t362.length co70, .slice A2 l2.length c2]) (ok := (fun k_ => ((P1_ k_ ∨ P2_ k_) ∨ w.heap.size ≤ k_) ∧ k_ ≠ gb336 ∧ k_ ≠ gb351)) (okp := (fun k_ => ((P1_ k_ ∨ P2_ k_) ∨ w.heap.size ≤ k_) ∧ k_ ≠ gb336 ∧ k_ ≠ gb351)) ?hr ?hp (fun _ hk => hk) ((show ∀ k_, w69.heap.size ≤ k_ → (fun k_ => ((P1_ k_ ∨ P2_ k_) ∨ w.heap.size ≤ k_) ∧ k_ ≠ gb336 ∧ k_ ≠ gb351) k_ from fun k_ hk => ⟨(.inr (Nat.le_trans (YE (by repeat (first | (with_reducible first | exact HB.out | apply YA | apply YB | apply YC | refine below_set ?_ GE336.out | refine below_set ?_ GE351.out) | exact HB.out))) hk)), Kd.freshB (g := gb336) (o := .cells #[.int .i64 a0_0, .int .i64 a0_1, .bool a0_2, .int .i64 a0_3, .int .i64 a0_4, .int .i64 a0_5, .int .i64 a0_6, .int .i64 a0_7, .int .i64 a0_8, .int .i64 a0_9, .int .i64 a0_10, .int .i64 a0_11] 27 (0, 0)) (by (with_reducible repeat (first | refine YF ?_ _ | refine YG ?_ | refine YH ?_ _)); exact BK336.out) k_ hk, Kd.freshB (g := gb351) (o := .cells #[.int .i64 t337, .int .i64 t338, .bool t339, .int .i64 t340, .int .i64 t341, .int .i64 t342, .int .i64 t343, .int .i64 t344, .int .i64 t345, .int .i64 t346, .int .i64 t347, .int .i64 t348] 27 (0, 0)) (by (with_reducible repeat (first | refine YF ?_ _ | refine YG ?_ | refine YH ?_ _)); exact BK351.out) k_ hk⟩) _ (Nat.le_refl _)) (Below.refl _ _) (Nat.le_refl _) (by simp) ?_; (case hd => rfl); (case hg => rfl); (case hr => first | (go_simp; done) | (go_simp; rfl)); (case hp => exact (Reps.one (show Kd.FK (Kd.slice 5 (Kd.int .u8)) _ _ l1 [.slice A1 l1.length c1] from (Kd.FK_slice_mk (Kd.V_reads' (Kd.V_mono (ok' := (fun k_ => ((P1_ k_ ∨ P2_ k_) ∨ w.heap.size ≤ k_) ∧ k_ ≠ gb336 ∧ k_ ≠ gb351)) (HO_1.out) (fun k_ hk => ⟨hk.1.1, ⟨hk.1.2.1, hk.1.2.2⟩⟩))).2.1 (Kd.V_F (Kd.V_mono (ok' := (fun k_ => ((P1_ k_ ∨ P2_ k_) ∨ w.heap.size ≤ k_) ∧ k_ ≠ gb336 ∧ k_ ≠ gb351)) (by (with_reducible repeat (first | apply Kd.V_alloc | apply Kd.V_drewN | apply Kd.V_drew)); exact HO_1.out) (fun k_ hk => by exact ⟨hk.1.1, ⟨hk.1.2.1, hk.1.2.2⟩⟩))))) (Reps.one (show Kd.FK (Kd.slice 5 (Kd.int .u8)) _ _ t362 [.slice Ao70 t362.length co70] from (Kd.FK_slice_mk (Kd.R_reads' (Kd.R_mono (ok' := (fun k_ => ((P1_ k_ ∨ P2_ k_) ∨ w.heap.size ≤ k_) ∧ k_ ≠ gb336 ∧ k_ ≠ gb351)) (Kd.R_types (Kd.R_types (HO364.out) BK336.out (by decide)) BK351.out (by decide)) (fun k_ hk => ⟨(.inr (hk.1.1.1)), ⟨hk.1.2, hk.2⟩⟩))).2.1 (Kd.R_F (Kd.R_mono (ok' := (fun k_ => ((P1_ k_ ∨ P2_ k_) ∨ w.heap.size ≤ k_) ∧ k_ ≠ gb336 ∧ k_ ≠ gb351)) (Kd.R_types (Kd.R_types (HO364.out) BK336.out (by decide)) BK351.out (by decide)) (fun k_ hk => ⟨(.inr (hk.1.1.1)), ⟨hk.1.2, hk.2⟩⟩))))) (Reps.one (show Kd.FK (Kd.slice 5 (Kd.int .u8)) _ _ l2 [.slice A2 l2.length c2] from (Kd.FK_slice_mk (Kd.V_reads' (Kd.V_mono (ok' := (fun k_ => ((P1_ k_ ∨ P2_ k_) ∨ w.heap.size ≤ k_) ∧ k_ ≠ gb336 ∧ k_ ≠ gb351)) (by (with_reducible repeat (first | apply YS | apply YT | apply YU)); exact HO_2.out) (fun k_ hk => by exact ⟨hk.1.1, ⟨hk.1.2.1, hk.1.2.2⟩⟩))).2.1 (Kd.V_F (Kd.V_mono (ok' := (fun k_ => ((P1_ k_ ∨ P2_ k_) ∨ w.heap.size ≤ k_) ∧ k_ ≠ gb336 ∧ k_ ≠ gb351)) (by (with_reducible repeat (first | apply Kd.V_alloc | apply Kd.V_drewN | apply Kd.V_drew)); exact HO_2.out) (fun k_ hk => by exact ⟨hk.1.1, ⟨hk.1.2.1, hk.1.2.2⟩⟩))))) (Reps.none _ _))))); intro v367 w71 ho72 hb hg_ hnew_; clear hg_ hnew_; (first | rw [← Ny366.out] at ho72 | (simp only [Int.reduceToNat] at ho72; rw [← Ny366.out] at ho72)); have n0_ := YL (Kd.V_elder' (by (with_reducible repeat (first | apply Kd.V_alloc | apply Kd.V_drewN | apply Kd.V_drew)); exact HO_1.out) (Kd.N_base ho72) hb); have n1_ := YL (Kd.V_elder' (by (with_reducible repeat (first | apply Kd.V_alloc | apply Kd.V_drewN | apply Kd.V_drew)); exact HO_2.out) (Kd.N_base ho72) hb); have n2_ := YL (Kd.N_lower ho72 (YE (by repeat (first | (with_reducible first | exact HB.out | apply YA | apply YB | apply YC | refine below_set ?_ GE336.out | refine below_set ?_ GE351.out) | exact HB.out)))); have n3_ := YL (YK (g := gb336) (o := .cells #[.int .i64 a0_0, .int .i64 a0_1, .bool a0_2, .int .i64 a0_3, .int .i64 a0_4, .int .i64 a0_5, .int .i64 a0_6, .int .i64 a0_7, .int .i64 a0_8, .int .i64 a0_9, .int .i64 a0_10, .int .i64 a0_11] 27 (0, 0)) (by (with_reducible repeat (first | refine YF ?_ _ | refine YG ?_ | refine YH ?_ _)); exact BK336.out) hb); have n4_ := YL (YK (g := gb351) (o := .cells #[.int .i64 t337, .int .i64 t338, .bool t339, .int .i64 t340, .int .i64 t341, .int .i64 t342, .int .i64 t343, .int .i64 t344, .int .i64 t345, .int .i64 t346, .int .i64 t347, .int .i64 t348] 27 (0, 0)) (by (with_reducible repeat (first | refine YF ?_ _ | refine YG ?_ | refine YH ?_ _)); exact BK351.out) hb); have n5_ := YL (YD (by repeat (first | (with_reducible first | exact HB.out | apply YA | apply YB | apply YC | refine below_set ?_ GE336.out | refine below_set ?_ GE351.out) | exact HB.out)) hb); clear HO_1; clear HO_2; clear BK336; clear BK351; clear HB; clear HO364; have HO_1 := n0_; have HO_2 := n1_; have HO368 := n2_; have BK336 := n3_; have BK351 := n4_; have HB := n5_; clear n0_ n1_ n2_ n3_ n4_ n5_; clear hb ho72; obtain ⟨Ao73, co73, eo73⟩ := Kd.N_slice HO368.out; subst eo73) | ((with_reducible refine gate_callee (f := 14) rfl ?_); refine goesL_ (some 78) rfl rfl Try.func14 (by kernel_rfl) rfl #[.slice Ao73 y366.length co73] rfl (by (try simp only [YP, List.map_cons, List.map_nil]); first | done | rfl | (simp only [YR, YQ]; rfl)) ?_; (with_reducible refine (thalwegref01_Both.calls kj9 _ _ y366 t369 _ ?side1 ?side2 A39.out).mono ?_); (case side1 => repeat (first | exact (Kd.N_reads' HO368.out).2.2 | (with_reducible refine Kd.C_alloc ?_ _) | (with_reducible refine Kd.C_drewN ?_ _) | (with_reducible refine Kd.C_drew ?_))); (case side2 => exact (Kd.N_reads' HO368.out).2.1); rintro e w74 ⟨v370, rfl, ho0, hb⟩; refine ⟨_, rfl, ?_⟩; have n0_ := YL (Kd.V_elder' (by (with_reducible repeat (first | apply Kd.V_alloc | apply Kd.V_drewN | apply Kd.V_drew)); exact HO_1.out) (Kd.R_base ho0) hb); have n1_ := YL (Kd.V_elder' (by (with_reducible repeat (first | apply Kd.V_alloc | apply Kd.V_drewN | apply Kd.V_drew)); exact HO_2.out) (Kd.R_base ho0) hb); have n2_ := YL (Kd.N_elder' (by (with_reducible repeat (first | apply Kd.N_alloc | apply Kd.N_drewN | apply Kd.N_drew)); exact HO368.out) (Kd.R_base ho0) hb); have n3_ := YL (Kd.R_lower (Kd.R_newM (M := fun k_ => (w.heap.size ≤ k_)) ho0 (YE (by repeat (first | (with_reducible first | exact HB.out | apply YA | apply YB | apply YC | refine below_set ?_ GE336.out | refine below_set ?_ GE351.out) | exact HB.out))) (fun k_ h_ => h_)) (YE (by repeat (first | (with_reducible first | exact HB.out | apply YA | apply YB | apply YC | refine below_set ?_ GE336.out | refine below_set ?_ GE351.out) | exact HB.out)))); have n4_ := YL (YK (g := gb336) (o := .cells #[.int .i64 a0_0, .int .i64 a0_1, .bool a0_2, .int .i64 a0_3, .int .i64 a0_4, .int .i64 a0_5, .int .i64 a0_6, .int .i64 a0_7, .int .i64 a0_8, .int .i64 a0_9, .int .i64 a0_10, .int .i64 a0_11] 27 (0, 0)) (by (with_reducible repeat (first | refine YF ?_ _ | refine YG ?_ | refine YH ?_ _)); exact BK336.out) hb); have n5_ := YL (YK (g := gb351) (o := .cells #[.int .i64 t337, .int .i64 t338, .bool t339, .int .i64 t340, .int .i64 t341, .int .i64 t342, .int .i64 t343, .int .i64 t344, .int .i64 t345, .int .i64 t346, .int .i64 t347, .int .i64 t348] 27 (0, 0)) (by (with_reducible repeat (first | refine YF ?_ _ | refine YG ?_ | refine YH ?_ _)); exact BK351.out) hb); have n6_ := YL (YD (by repeat (first | (with_reducible first | exact HB.out | apply YA | apply YB | apply YC | refine below_set ?_ GE336.out | refine below_set ?_ GE351.out) | exact HB.out)) hb); clear HO_1; clear HO_2; clear HO368; clear BK336; clear BK351; clear HB; have HO_1 := n0_; have HO_2 := n1_; have HO368 := n2_; have HO371 := n3_; have BK336 := n4_; have BK351 := n5_; have HB := n6_; clear n0_ n1_ n2_ n3_ n4_ n5_ n6_; (try clear hb); (try clear hb2); (try clear hk); (try clear hi); (try clear ho0); obtain ⟨Ao75, co75, eo75⟩ := Kd.R_slice HO371.out; subst eo75) | ((with_reducible refine gate_callee (f := 13) rfl ?_); refine goesL_ (some 81) rfl rfl Try.func13 (by kernel_rfl) rfl #[.slice Ao75 t369.length co75, .int .i64 (l1.length : Int)] rfl (by (try simp only [YP, List.map_cons, List.map_nil]); first | done | rfl | (simp only [YR, YQ]; rfl)) ?_; (with_reducible refine (object_Parse.calls _ _ t369 (l1.length : Int) t372 t373 t374 t375 t376 t377 t378 t379 t380 t381 t382 t383 t384 t385 _ ?side1 ?side2 A40.out).mono ?_); (case side1 => repeat (first | exact (Kd.R_reads' HO371.out).2.2 | (with_reducible refine Kd.C_alloc ?_ _) | (with_reducible refine Kd.C_drewN ?_ _) | (with_reducible refine Kd.C_drew ?_))); (case side2 => exact (Kd.R_reads' HO371.out).2.1); rintro e w76 ⟨rfl, hb⟩; refine ⟨_, rfl, ?_⟩; have n0_ := YL (Kd.V_below (by (with_reducible repeat (first | apply Kd.V_alloc | apply Kd.V_drewN | apply Kd.V_drew)); exact HO_1.out) hb); have n1_ := YL (Kd.V_below (by (with_reducible repeat (first | apply Kd.V_alloc | apply Kd.V_drewN | apply Kd.V_drew)); exact HO_2.out) hb); have n2_ := YL (Kd.N_below (by (with_reducible repeat (first | apply Kd.N_alloc | apply Kd.N_drewN | apply Kd.N_drew)); exact HO368.out) hb); have n3_ := YL (YV (by (with_reducible repeat (first | apply YS | apply YT | apply YU)); exact HO371.out) hb); have n4_ := YL (YK (g := gb336) (o := .cells #[.int .i64 a0_0, .int .i64 a0_1, .bool a0_2, .int .i64 a0_3, .int .i64 a0_4, .int .i64 a0_5, .int .i64 a0_6, .int .i64 a0_7, .int .i64 a0_8, .int .i64 a0_9, .int .i64 a0_10, .int .i64 a0_11] 27 (0, 0)) (by (with_reducible repeat (first | refine YF ?_ _ | refine YG ?_ | refine YH ?_ _)); exact BK336.out) hb); have n5_ := YL (YK (g := gb351) (o := .cells #[.int .i64 t337, .int .i64 t338, .bool t339, .int .i64 t340, .int .i64 t341, .int .i64 t342, .int .i64 t343, .int .i64 t344, .int .i64 t345, .int .i64 t346, .int .i64 t347, .int .i64 t348] 27 (0, 0)) (by (with_reducible repeat (first | refine YF ?_ _ | refine YG ?_ | refine YH ?_ _)); exact BK351.out) hb); have n6_ := YL (YD (by repeat (first | (with_reducible first | exact HB.out | apply YA | apply YB | apply YC | refine below_set ?_ GE336.out | refine below_set ?_ GE351.out) | exact HB.out)) hb); clear HO_1; clear HO_2; clear HO368; clear HO371; clear BK336; clear BK351; clear HB; have HO_1 := n0_; have HO_2 := n1_; have HO368 := n2_; have HO371 := n3_; have BK336 := n4_; have BK351 := n5_; have HB := n6_; clear n0_ n1_ n2_ n3_ n4_ n5_ n6_; (try clear hb); (try clear hb2); (try clear hk); (try clear hi)) | ((with_reducible refine gate_dst (N := 14) rfl ?_); (try (refine gate_guard (by rfl) ?_; dsimp only)); refine box_event ?hg (N := 14) ?hd (cs := #[.int .i64 0, .int .i64 0, .bool false, .int .i64 0, .int .i64 0, .int .i64 0, .int .i64 0, .int .i64 0, .int .i64 0, .int .i64 0, .int .i64 0, .int .i64 0]) (t := 27) ?hr ?_; (case hd => rfl); (case hg => rfl); (case hr => first | (go_simp; done) | (go_simp; rfl)); intro gb386 hg w77 hbox hb; have n0_ := YL (Kd.V_below (Kd.V_elderB (by (with_reducible repeat (first | apply Kd.V_alloc | apply Kd.V_drewN | apply Kd.V_drew)); exact HO_1.out) gb386 (Nat.le_of_eq hg.symm)) hb); have n1_ := YL (Kd.V_below (Kd.V_elderB (by (with_reducible repeat (first | apply Kd.V_alloc | apply Kd.V_drewN | apply Kd.V_drew)); exact HO_2.out) gb386 (Nat.le_of_eq hg.symm)) hb); have n2_ := YL (Kd.N_below (Kd.N_elderB (by (with_reducible repeat (first | apply Kd.N_alloc | apply Kd.N_drewN | apply Kd.N_drew)); exact HO368.out) gb386 (Nat.le_of_eq hg.symm)) hb); have n3_ := YL (YV (by (with_reducible repeat (first | apply YS | apply YT | apply YU)); exact HO371.out) hb); have n4_ := YL (YK (g := gb336) (o := .cells #[.int .i64 a0_0, .int .i64 a0_1, .bool a0_2, .int .i64 a0_3, .int .i64 a0_4, .int .i64 a0_5, .int .i64 a0_6, .int .i64 a0_7, .int .i64 a0_8, .int .i64 a0_9, .int .i64 a0_10, .int .i64 a0_11] 27 (0, 0)) (by (with_reducible repeat (first | refine YF ?_ _ | refine YG ?_ | refine YH ?_ _)); exact BK336.out) hb); have n5_ := YL (YK (g := gb351) (o := .cells #[.int .i64 t337, .int .i64 t338, .bool t339, .int .i64 t340, .int .i64 t341, .int .i64 t342, .int .i64 t343, .int .i64 t344, .int .i64 t345, .int .i64 t346, .int .i64 t347, .int .i64 t348] 27 (0, 0)) (by (with_reducible repeat (first | refine YF ?_ _ | refine YG ?_ | refine YH ?_ _)); exact BK351.out) hb); have n6_ := YL (YD (by repeat (first | (with_reducible first | exact HB.out | apply YA | apply YB | apply YC | refine below_set ?_ GE336.out | refine below_set ?_ GE351.out) | exact HB.out)) hb); have n7_ := YL (hbox); have n8_ := YL ((by rw [hg]; exact (YE (by repeat (first | (with_reducible first | exact HB.out | apply YA | apply YB | apply YC | refine below_set ?_ GE336.out | refine below_set ?_ GE351.out) | exact HB.out))) : w.heap.size ≤ gb386)); have n9_ := YL ((by rw [hg]; exact (YE (by repeat (first | (with_reducible first | exact HB.out | apply YA | apply YB | apply YC | refine below_set ?_ GE336.out | refine below_set ?_ GE351.out) | exact HB.out))) : w.heap.size ≤ gb386)); have n10_ := YL ((by rw [hg]; exact Nat.ne_of_lt (blk_lt (g := gb336) (o := .cells #[.int .i64 a0_0, .int .i64 a0_1, .bool a0_2, .int .i64 a0_3, .int .i64 a0_4, .int .i64 a0_5, .int .i64 a0_6, .int .i64 a0_7, .int .i64 a0_8, .int .i64 a0_9, .int .i64 a0_10, .int .i64 a0_11] 27 (0, 0)) (by (with_reducible repeat (first | refine YF ?_ _ | refine YG ?_ | refine YH ?_ _)); exact BK336.out)) : gb336 ≠ gb386)); have n11_ := YL ((by rw [hg]; exact Nat.ne_of_gt (blk_lt (g := gb336) (o := .cells #[.int .i64 a0_0, .int .i64 a0_1, .bool a0_2, .int .i64 a0_3, .int .i64 a0_4, .int .i64 a0_5, .int .i64 a0_6, .int .i64 a0_7, .int .i64 a0_8, .int .i64 a0_9, .int .i64 a0_10, .int .i64 a0_11] 27 (0, 0)) (by (with_reducible repeat (first | refine YF ?_ _ | refine YG ?_ | refine YH ?_ _)); exact BK336.out)) : gb386 ≠ gb336)); have n12_ := YL ((by rw [hg]; exact Nat.ne_of_lt (blk_lt (g := gb351) (o := .cells #[.int .i64 t337, .int .i64 t338, .bool t339, .int .i64 t340, .int .i64 t341, .int .i64 t342, .int .i64 t343, .int .i64 t344, .int .i64 t345, .int .i64 t346, .int .i64 t347, .int .i64 t348] 27 (0, 0)) (by (with_reducible repeat (first | refine YF ?_ _ | refine YG ?_ | refine YH ?_ _)); exact BK351.out)) : gb351 ≠ gb386)); have n13_ := YL ((by rw [hg]; exact Nat.ne_of_gt (blk_lt (g := gb351) (o := .cells #[.int .i64 t337, .int .i64 t338, .bool t339, .int .i64 t340, .int .i64 t341, .int .i64 t342, .int .i64 t343, .int .i64 t344, .int .i64 t345, .int .i64 t346, .int .i64 t347, .int .i64 t348] 27 (0, 0)) (by (with_reducible repeat (first | refine YF ?_ _ | refine YG ?_ | refine YH ?_ _)); exact BK351.out)) : gb386 ≠ gb351)); clear HO_1; clear HO_2; clear HO368; clear HO371; clear BK336; clear BK351; clear HB; have HO_1 := n0_; have HO_2 := n1_; have HO368 := n2_; have HO371 := n3_; have BK336 := n4_; have BK351 := n5_; have HB := n6_; have BK386 := n7_; have GW386 := n8_; have GE386 := n9_; have NB336_386 := n10_; have NB386_336 := n11_; have NB351_386 := n12_; have NB386_351 := n13_; clear n0_ n1_ n2_ n3_ n4_ n5_ n6_ n7_ n8_ n9_ n10_ n11_ n12_ n13_; clear hb hbox hg; have hnb78 := NB386_336.out; have hnc78 := NB336_386.out; have hnb79 := NB386_351.out; have hnc79 := NB351_386.out; have q80_0 : w77.cell? ⟨gb386, 0, none⟩ = some (.int .i64 0) := (YI BK386.out 0).trans rfl; have q80_1 : w77.cell? ⟨gb386, 1, none⟩ = some (.int .i64 0) := (YI BK386.out 1).trans rfl; have q80_2 : w77.cell? ⟨gb386, 2, none⟩ = some (.bool false) := (YI BK386.out 2).trans rfl; have q80_3 : w77.cell? ⟨gb386, 3, none⟩ = some (.int .i64 0) := (YI BK386.out 3).trans rfl; have q80_4 : w77.cell? ⟨gb386, 4, none⟩ = some (.int .i64 0) := (YI BK386.out 4).trans rfl; have q80_5 : w77.cell? ⟨gb386, 5, none⟩ = some (.int .i64 0) := (YI BK386.out 5).trans rfl; have q80_6 : w77.cell? ⟨gb386, 6, none⟩ = some (.int .i64 0) := (YI BK386.out 6).trans rfl; have q80_7 : w77.cell? ⟨gb386, 7, none⟩ = some (.int .i64 0) := (YI BK386.out 7).trans rfl; have q80_8 : w77.cell? ⟨gb386, 8, none⟩ = some (.int .i64 0) := (YI BK386.out 8).trans rfl; have q80_9 : w77.cell? ⟨gb386, 9, none⟩ = some (.int .i64 0) := (YI BK386.out 9).trans rfl; have q80_10 : w77.cell? ⟨gb386, 10, none⟩ = some (.int .i64 0) := (YI BK386.out 10).trans rfl; have q80_11 : w77.cell? ⟨gb386, 11, none⟩ = some (.int .i64 0) := (YI BK386.out 11).trans rfl; have f80_0 := YJ BK386.out 0; have f80_1 := YJ BK386.out 1; have f80_2 := YJ BK386.out 2; have f80_3 := YJ BK386.out 3; have f80_4 := YJ BK386.out 4; have f80_5 := YJ BK386.out 5; have f80_6 := YJ BK386.out 6; have f80_7 := YJ BK386.out 7; have f80_8 := YJ BK386.out 8; have f80_9 := YJ BK386.out 9; have f80_10 := YJ BK386.out 10; have f80_11 := YJ BK386.out 11) | ((with_reducible refine gate_callee (f := 8) rfl ?_); refine goesL_ (some 87) rfl rfl Try.func8 (by kernel_rfl) rfl #[] rfl (by (try simp only [YP, List.map_cons, List.map_nil]); first | done | rfl | (simp only [YR, YQ]; rfl)) ?_; (with_reducible refine (thalweglaw04_awake.calls kj9  true _ A63.out).mono ?_); rintro e w81 ⟨rfl, hb⟩; refine ⟨_, rfl, ?_⟩; have n0_ := YL (Kd.V_below (by (with_reducible repeat (first | apply Kd.V_alloc | apply Kd.V_drewN | apply Kd.V_drew)); exact (Kd.V_mono (Kd.V_far (p := ⟨gb386, 11, none⟩) (Kd.V_far (p := ⟨gb386, 10, none⟩) (Kd.V_far (p := ⟨gb386, 9, none⟩) (Kd.V_far (p := ⟨gb386, 8, none⟩) (Kd.V_far (p := ⟨gb386, 7, none⟩) (Kd.V_far (p := ⟨gb386, 6, none⟩) (Kd.V_far (p := ⟨gb386, 5, none⟩) (Kd.V_far (p := ⟨gb386, 4, none⟩) (Kd.V_far (p := ⟨gb386, 3, none⟩) (Kd.V_far (p := ⟨gb386, 2, none⟩) (Kd.V_far (p := ⟨gb386, 1, none⟩) (Kd.V_far (p := ⟨gb386, 0, none⟩) (Kd.V_mono HO_1.out (fun k_ hk => (⟨hk, hk.2⟩ : _ ∧ k_ ≠ gb386))) (fun _ hk => hk.2) (.int .i64 t372)) (fun _ hk => hk.2) (.int .i64 t373)) (fun _ hk => hk.2) (.bool t374)) (fun _ hk => hk.2) (.int .i64 t375)) (fun _ hk => hk.2) (.int .i64 t376)) (fun _ hk => hk.2) (.int .i64 t377)) (fun _ hk => hk.2) (.int .i64 t378)) (fun _ hk => hk.2) (.int .i64 t379)) (fun _ hk => hk.2) (.int .i64 t380)) (fun _ hk => hk.2) (.int .i64 t381)) (fun _ hk => hk.2) (.int .i64 t382)) (fun _ hk => hk.2) (.int .i64 t383)) (fun _ h_ => h_.1))) hb); have n1_ := YL (Kd.V_below (by (with_reducible repeat (first | apply Kd.V_alloc | apply Kd.V_drewN | apply Kd.V_drew)); exact (Kd.V_mono (Kd.V_far (p := ⟨gb386, 11, none⟩) (Kd.V_far (p := ⟨gb386, 10, none⟩) (Kd.V_far (p := ⟨gb386, 9, none⟩) (Kd.V_far (p := ⟨gb386, 8, none⟩) (Kd.V_far (p := ⟨gb386, 7, none⟩) (Kd.V_far (p := ⟨gb386, 6, none⟩) (Kd.V_far (p := ⟨gb386, 5, none⟩) (Kd.V_far (p := ⟨gb386, 4, none⟩) (Kd.V_far (p := ⟨gb386, 3, none⟩) (Kd.V_far (p := ⟨gb386, 2, none⟩) (Kd.V_far (p := ⟨gb386, 1, none⟩) (Kd.V_far (p := ⟨gb386, 0, none⟩) (Kd.V_mono HO_2.out (fun k_ hk => (⟨hk, hk.2⟩ : _ ∧ k_ ≠ gb386))) (fun _ hk => hk.2) (.int .i64 t372)) (fun _ hk => hk.2) (.int .i64 t373)) (fun _ hk => hk.2) (.bool t374)) (fun _ hk => hk.2) (.int .i64 t375)) (fun _ hk => hk.2) (.int .i64 t376)) (fun _ hk => hk.2) (.int .i64 t377)) (fun _ hk => hk.2) (.int .i64 t378)) (fun _ hk => hk.2) (.int .i64 t379)) (fun _ hk => hk.2) (.int .i64 t380)) (fun _ hk => hk.2) (.int .i64 t381)) (fun _ hk => hk.2) (.int .i64 t382)) (fun _ hk => hk.2) (.int .i64 t383)) (fun _ h_ => h_.1))) hb); have n2_ := YL (Kd.N_below (by (with_reducible repeat (first | apply Kd.N_alloc | apply Kd.N_drewN | apply Kd.N_drew)); exact (Kd.N_mono (Kd.N_far (p := ⟨gb386, 11, none⟩) (Kd.N_far (p := ⟨gb386, 10, none⟩) (Kd.N_far (p := ⟨gb386, 9, none⟩) (Kd.N_far (p := ⟨gb386, 8, none⟩) (Kd.N_far (p := ⟨gb386, 7, none⟩) (Kd.N_far (p := ⟨gb386, 6, none⟩) (Kd.N_far (p := ⟨gb386, 5, none⟩) (Kd.N_far (p := ⟨gb386, 4, none⟩) (Kd.N_far (p := ⟨gb386, 3, none⟩) (Kd.N_far (p := ⟨gb386, 2, none⟩) (Kd.N_far (p := ⟨gb386, 1, none⟩) (Kd.N_far (p := ⟨gb386, 0, none⟩) (Kd.N_mono HO368.out (fun k_ hk => (⟨hk, hk.2⟩ : _ ∧ k_ ≠ gb386))) (fun _ hk => hk.2) (.int .i64 t372)) (fun _ hk => hk.2) (.int .i64 t373)) (fun _ hk => hk.2) (.bool t374)) (fun _ hk => hk.2) (.int .i64 t375)) (fun _ hk => hk.2) (.int .i64 t376)) (fun _ hk => hk.2) (.int .i64 t377)) (fun _ hk => hk.2) (.int .i64 t378)) (fun _ hk => hk.2) (.int .i64 t379)) (fun _ hk => hk.2) (.int .i64 t380)) (fun _ hk => hk.2) (.int .i64 t381)) (fun _ hk => hk.2) (.int .i64 t382)) (fun _ hk => hk.2) (.int .i64 t383)) (fun _ h_ => h_.1))) hb); have n3_ := YL (YV (by (with_reducible repeat (first | apply YS | apply YT | apply YU)); exact (Kd.R_mono (Kd.R_far (p := ⟨gb386, 11, none⟩) (Kd.R_far (p := ⟨gb386, 10, none⟩) (Kd.R_far (p := ⟨gb386, 9, none⟩) (Kd.R_far (p := ⟨gb386, 8, none⟩) (Kd.R_far (p := ⟨gb386, 7, none⟩) (Kd.R_far (p := ⟨gb386, 6, none⟩) (Kd.R_far (p := ⟨gb386, 5, none⟩) (Kd.R_far (p := ⟨gb386, 4, none⟩) (Kd.R_far (p := ⟨gb386, 3, none⟩) (Kd.R_far (p := ⟨gb386, 2, none⟩) (Kd.R_far (p := ⟨gb386, 1, none⟩) (Kd.R_far (p := ⟨gb386, 0, none⟩) (Kd.R_types HO371.out BK386.out (by decide)) (fun _ hk => hk.2) (.int .i64 t372)) (fun _ hk => hk.2) (.int .i64 t373)) (fun _ hk => hk.2) (.bool t374)) (fun _ hk => hk.2) (.int .i64 t375)) (fun _ hk => hk.2) (.int .i64 t376)) (fun _ hk => hk.2) (.int .i64 t377)) (fun _ hk => hk.2) (.int .i64 t378)) (fun _ hk => hk.2) (.int .i64 t379)) (fun _ hk => hk.2) (.int .i64 t380)) (fun _ hk => hk.2) (.int .i64 t381)) (fun _ hk => hk.2) (.int .i64 t382)) (fun _ hk => hk.2) (.int .i64 t383)) (fun _ h_ => h_.1))) hb); have n4_ := YL (YK (g := gb336) (o := .cells #[.int .i64 a0_0, .int .i64 a0_1, .bool a0_2, .int .i64 a0_3, .int .i64 a0_4, .int .i64 a0_5, .int .i64 a0_6, .int .i64 a0_7, .int .i64 a0_8, .int .i64 a0_9, .int .i64 a0_10, .int .i64 a0_11] 27 (0, 0)) (by (with_reducible repeat (first | refine YF ?_ _ | refine YG ?_ | refine YH ?_ _)); refine blk_far ?_ NB336_386.out _; (with_reducible repeat (first | refine YF ?_ _ | refine YG ?_ | refine YH ?_ _)); refine blk_far ?_ NB336_386.out _; (with_reducible repeat (first | refine YF ?_ _ | refine YG ?_ | refine YH ?_ _)); refine blk_far ?_ NB336_386.out _; (with_reducible repeat (first | refine YF ?_ _ | refine YG ?_ | refine YH ?_ _)); refine blk_far ?_ NB336_386.out _; (with_reducible repeat (first | refine YF ?_ _ | refine YG ?_ | refine YH ?_ _)); refine blk_far ?_ NB336_386.out _; (with_reducible repeat (first | refine YF ?_ _ | refine YG ?_ | refine YH ?_ _)); refine blk_far ?_ NB336_386.out _; (with_reducible repeat (first | refine YF ?_ _ | refine YG ?_ | refine YH ?_ _)); refine blk_far ?_ NB336_386.out _; (with_reducible repeat (first | refine YF ?_ _ | refine YG ?_ | refine YH ?_ _)); refine blk_far ?_ NB336_386.out _; (with_reducible repeat (first | refine YF ?_ _ | refine YG ?_ | refine YH ?_ _)); refine blk_far ?_ NB336_386.out _; (with_reducible repeat (first | refine YF ?_ _ | refine YG ?_ | refine YH ?_ _)); refine blk_far ?_ NB336_386.out _; (with_reducible repeat (first | refine YF ?_ _ | refine YG ?_ | refine YH ?_ _)); refine blk_far ?_ NB336_386.out _; (with_reducible repeat (first | refine YF ?_ _ | refine YG ?_ | refine YH ?_ _)); refine blk_far ?_ NB336_386.out _; (with_reducible repeat (first | refine YF ?_ _ | refine YG ?_ | refine YH ?_ _)); exact BK336.out) hb); have n5_ := YL (YK (g := gb351) (o := .cells #[.int .i64 t337, .int .i64 t338, .bool t339, .int .i64 t340, .int .i64 t341, .int .i64 t342, .int .i64 t343, .int .i64 t344, .int .i64 t345, .int .i64 t346, .int .i64 t347, .int .i64 t348] 27 (0, 0)) (by (with_reducible repeat (first | refine YF ?_ _ | refine YG ?_ | refine YH ?_ _)); refine blk_far ?_ NB351_386.out _; (with_reducible repeat (first | refine YF ?_ _ | refine YG ?_ | refine YH ?_ _)); refine blk_far ?_ NB351_386.out _; (with_reducible repeat (first | refine YF ?_ _ | refine YG ?_ | refine YH ?_ _)); refine blk_far ?_ NB351_386.out _; (with_reducible repeat (first | refine YF ?_ _ | refine YG ?_ | refine YH ?_ _)); refine blk_far ?_ NB351_386.out _; (with_reducible repeat (first | refine YF ?_ _ | refine YG ?_ | refine YH ?_ _)); refine blk_far ?_ NB351_386.out _; (with_reducible repeat (first | refine YF ?_ _ | refine YG ?_ | refine YH ?_ _)); refine blk_far ?_ NB351_386.out _; (with_reducible repeat (first | refine YF ?_ _ | refine YG ?_ | refine YH ?_ _)); refine blk_far ?_ NB351_386.out _; (with_reducible repeat (first | refine YF ?_ _ | refine YG ?_ | refine YH ?_ _)); refine blk_far ?_ NB351_386.out _; (with_reducible repeat (first | refine YF ?_ _ | refine YG ?_ | refine YH ?_ _)); refine blk_far ?_ NB351_386.out _; (with_reducible repeat (first | refine YF ?_ _ | refine YG ?_ | refine YH ?_ _)); refine blk_far ?_ NB351_386.out _; (with_reducible repeat (first | refine YF ?_ _ | refine YG ?_ | refine YH ?_ _)); refine blk_far ?_ NB351_386.out _; (with_reducible repeat (first | refine YF ?_ _ | refine YG ?_ | refine YH ?_ _)); refine blk_far ?_ NB351_386.out _; (with_reducible repeat (first | refine YF ?_ _ | refine YG ?_ | refine YH ?_ _)); exact BK351.out) hb); have n6_ := YL (YK (g := gb386) (o := .cells #[.int .i64 t372, .int .i64 t373, .bool t374, .int .i64 t375, .int .i64 t376, .int .i64 t377, .int .i64 t378, .int .i64 t379, .int .i64 t380, .int .i64 t381, .int .i64 t382, .int .i64 t383] 27 (0, 0)) (by (with_reducible repeat (first | refine YF ?_ _ | refine YG ?_ | refine YH ?_ _)); refine blk_put (cs := #[.int .i64 t372, .int .i64 t373, .bool t374, .int .i64 t375, .int .i64 t376, .int .i64 t377, .int .i64 t378, .int .i64 t379, .int .i64 t380, .int .i64 t381, .int .i64 t382, .int .i64 0]) ?_ 11 _ rfl; (with_reducible repeat (first | refine YF ?_ _ | refine YG ?_ | refine YH ?_ _)); refine blk_put (cs := #[.int .i64 t372, .int .i64 t373, .bool t374, .int .i64 t375, .int .i64 t376, .int .i64 t377, .int .i64 t378, .int .i64 t379, .int .i64 t380, .int .i64 t381, .int .i64 0, .int .i64 0]) ?_ 10 _ rfl; (with_reducible repeat (first | refine YF ?_ _ | refine YG ?_ | refine YH ?_ _)); refine blk_put (cs := #[.int .i64 t372, .int .i64 t373, .bool t374, .int .i64 t375, .int .i64 t376, .int .i64 t377, .int .i64 t378, .int .i64 t379, .int .i64 t380, .int .i64 0, .int .i64 0, .int .i64 0]) ?_ 9 _ rfl; (with_reducible repeat (first | refine YF ?_ _ | refine YG ?_ | refine YH ?_ _)); refine blk_put (cs := #[.int .i64 t372, .int .i64 t373, .bool t374, .int .i64 t375, .int .i64 t376, .int .i64 t377, .int .i64 t378, .int .i64 t379, .int .i64 0, .int .i64 0, .int .i64 0, .int .i64 0]) ?_ 8 _ rfl; (with_reducible repeat (first | refine YF ?_ _ | refine YG ?_ | refine YH ?_ _)); refine blk_put (cs := #[.int .i64 t372, .int .i64 t373, .bool t374, .int .i64 t375, .int .i64 t376, .int .i64 t377, .int .i64 t378, .int .i64 0, .int .i64 0, .int .i64 0, .int .i64 0, .int .i64 0]) ?_ 7 _ rfl; (with_reducible repeat (first | refine YF ?_ _ | refine YG ?_ | refine YH ?_ _)); refine blk_put (cs := #[.int .i64 t372, .int .i64 t373, .bool t374, .int .i64 t375, .int .i64 t376, .int .i64 t377, .int .i64 0, .int .i64 0, .int .i64 0, .int .i64 0, .int .i64 0, .int .i64 0]) ?_ 6 _ rfl; (with_reducible repeat (first | refine YF ?_ _ | refine YG ?_ | refine YH ?_ _)); refine blk_put (cs := #[.int .i64 t372, .int .i64 t373, .bool t374, .int .i64 t375, .int .i64 t376, .int .i64 0, .int .i64 0, .int .i64 0, .int .i64 0, .int .i64 0, .int .i64 0, .int .i64 0]) ?_ 5 _ rfl; (with_reducible repeat (first | refine YF ?_ _ | refine YG ?_ | refine YH ?_ _)); refine blk_put (cs := #[.int .i64 t372, .int .i64 t373, .bool t374, .int .i64 t375, .int .i64 0, .int .i64 0, .int .i64 0, .int .i64 0, .int .i64 0, .int .i64 0, .int .i64 0, .int .i64 0]) ?_ 4 _ rfl; (with_reducible repeat (first | refine YF ?_ _ | refine YG ?_ | refine YH ?_ _)); refine blk_put (cs := #[.int .i64 t372, .int .i64 t373, .bool t374, .int .i64 0, .int .i64 0, .int .i64 0, .int .i64 0, .int .i64 0, .int .i64 0, .int .i64 0, .int .i64 0, .int .i64 0]) ?_ 3 _ rfl; (with_reducible repeat (first | refine YF ?_ _ | refine YG ?_ | refine YH ?_ _)); refine blk_put (cs := #[.int .i64 t372, .int .i64 t373, .bool false, .int .i64 0, .int .i64 0, .int .i64 0, .int .i64 0, .int .i64 0, .int .i64 0, .int .i64 0, .int .i64 0, .int .i64 0]) ?_ 2 _ rfl; (with_reducible repeat (first | refine YF ?_ _ | refine YG ?_ | refine YH ?_ _)); refine blk_put (cs := #[.int .i64 t372, .int .i64 0, .bool false, .int .i64 0, .int .i64 0, .int .i64 0, .int .i64 0, .int .i64 0, .int .i64 0, .int .i64 0, .int .i64 0, .int .i64 0]) ?_ 1 _ rfl; (with_reducible repeat (first | refine YF ?_ _ | refine YG ?_ | refine YH ?_ _)); refine blk_put (cs := #[.int .i64 0, .int .i64 0, .bool false, .int .i64 0, .int .i64 0, .int .i64 0, .int .i64 0, .int .i64 0, .int .i64 0, .int .i64 0, .int .i64 0, .int .i64 0]) ?_ 0 _ rfl; (with_reducible repeat (first | refine YF ?_ _ | refine YG ?_ | refine YH ?_ _)); exact BK386.out) hb); have n7_ := YL (YD (by repeat (first | (with_reducible first | exact HB.out | apply YA | apply YB | apply YC | refine below_set ?_ GE336.out | refine below_set ?_ GE351.out | refine below_set ?_ GE386.out) | exact HB.out)) hb); clear HO_1; clear HO_2; clear HO368; clear HO371; clear BK336; clear BK351; clear BK386; clear HB; have HO_1 := n0_; have HO_2 := n1_; have HO368 := n2_; have HO371 := n3_; have BK336 := n4_; have BK351 := n5_; have BK386 := n6_; have HB := n7_; clear n0_ n1_ n2_ n3_ n4_ n5_ n6_ n7_; (try clear hb); (try clear hb2); (try clear hk); (try clear hi); have q82_0 : w81.cell? ⟨gb336, 0, none⟩ = some (.int .i64 a0_0) := (YI BK336.out 0).trans rfl; have q82_1 : w81.cell? ⟨gb336, 1, none⟩ = some (.int .i64 a0_1) := (YI BK336.out 1).trans rfl; have q82_2 : w81.cell? ⟨gb336, 2, none⟩ = some (.bool a0_2) := (YI BK336.out 2).trans rfl; have q82_3 : w81.cell? ⟨gb336, 3, none⟩ = some (.int .i64 a0_3) := (YI BK336.out 3).trans rfl; have q82_4 : w81.cell? ⟨gb336, 4, none⟩ = some (.int .i64 a0_4) := (YI BK336.out 4).trans rfl; have q82_5 : w81.cell? ⟨gb336, 5, none⟩ = some (.int .i64 a0_5) := (YI BK336.out 5).trans rfl; have q82_6 : w81.cell? ⟨gb336, 6, none⟩ = some (.int .i64 a0_6) := (YI BK336.out 6).trans rfl; have q82_7 : w81.cell? ⟨gb336, 7, none⟩ = some (.int .i64 a0_7) := (YI BK336.out 7).trans rfl; have q82_8 : w81.cell? ⟨gb336, 8, none⟩ = some (.int .i64 a0_8) := (YI BK336.out 8).trans rfl; have q82_9 : w81.cell? ⟨gb336, 9, none⟩ = some (.int .i64 a0_9) := (YI BK336.out 9).trans rfl; have q82_10 : w81.cell? ⟨gb336, 10, none⟩ = some (.int .i64 a0_10) := (YI BK336.out 10).trans rfl; have q82_11 : w81.cell? ⟨gb336, 11, none⟩ = some (.int .i64 a0_11) := (YI BK336.out 11).trans rfl; have f82_0 := YJ BK336.out 0; have f82_1 := YJ BK336.out 1; have f82_2 := YJ BK336.out 2; have f82_3 := YJ BK336.out 3; have f82_4 := YJ BK336.out 4; have f82_5 := YJ BK336.out 5; have f82_6 := YJ BK336.out 6; have f82_7 := YJ BK336.out 7; have f82_8 := YJ BK336.out 8; have f82_9 := YJ BK336.out 9; have f82_10 := YJ BK336.out 10; have f82_11 := YJ BK336.out 11) | (go_at_call 12; (with_reducible refine (object_Size.calls kj9 a0_0 a0_1 a0_2 a0_3 a0_4 a0_5 a0_6 a0_7 a0_8 a0_9 a0_10 a0_11 t389 _ A66.out).mono ?_); rintro e w83 ⟨rfl, hb⟩; have n0_ := YL (Kd.V_below (by (with_reducible repeat (first | apply Kd.V_alloc | apply Kd.V_drewN | apply Kd.V_drew)); exact HO_1.out) hb); have n1_ := YL (Kd.V_below (by (with_reducible repeat (first | apply Kd.V_alloc | apply Kd.V_drewN | apply Kd.V_drew)); exact HO_2.out) hb); have n2_ := YL (Kd.N_below (by (with_reducible repeat (first | apply Kd.N_alloc | apply Kd.N_drewN | apply Kd.N_drew)); exact HO368.out) hb); have n3_ := YL (YV (by (with_reducible repeat (first | apply YS | apply YT | apply YU)); exact HO371.out) hb); have n4_ := YL (YK (g := gb336) (o := .cells #[.int .i64 a0_0, .int .i64 a0_1, .bool a0_2, .int .i64 a0_3, .int .i64 a0_4, .int .i64 a0_5, .int .i64 a0_6, .int .i64 a0_7, .int .i64 a0_8, .int .i64 a0_9, .int .i64 a0_10, .int .i64 a0_11] 27 (0, 0)) (by (with_reducible repeat (first | refine YF ?_ _ | refine YG ?_ | refine YH ?_ _)); exact BK336.out) hb); have n5_ := YL (YK (g := gb351) (o := .cells #[.int .i64 t337, .int .i64 t338, .bool t339, .int .i64 t340, .int .i64 t341, .int .i64 t342, .int .i64 t343, .int .i64 t344, .int .i64 t345, .int .i64 t346, .int .i64 t347, .int .i64 t348] 27 (0, 0)) (by (with_reducible repeat (first | refine YF ?_ _ | refine YG ?_ | refine YH ?_ _)); exact BK351.out) hb); have n6_ := YL (YK (g := gb386) (o := .cells #[.int .i64 t372, .int .i64 t373, .bool t374, .int .i64 t375, .int .i64 t376, .int .i64 t377, .int .i64 t378, .int .i64 t379, .int .i64 t380, .int .i64 t381, .int .i64 t382, .int .i64 t383] 27 (0, 0)) (by (with_reducible repeat (first | refine YF ?_ _ | refine YG ?_ | refine YH ?_ _)); exact BK386.out) hb); have n7_ := YL (YD (by repeat (first | (with_reducible first | exact HB.out | apply YA | apply YB | apply YC | refine below_set ?_ GE336.out | refine below_set ?_ GE351.out | refine below_set ?_ GE386.out) | exact HB.out)) hb); clear HO_1; clear HO_2; clear HO368; clear HO371; clear BK336; clear BK351; clear BK386; clear HB; have HO_1 := n0_; have HO_2 := n1_; have HO368 := n2_; have HO371 := n3_; have BK336 := n4_; have BK351 := n5_; have BK386 := n6_; have HB := n7_; clear n0_ n1_ n2_ n3_ n4_ n5_ n6_ n7_; (try clear hb); (try clear hb2); (try clear hk); (try clear hi)))
      go_ret
      exact ⟨by first | rfl | (simp [errW_none, errW_some] <;> rfl) | (simp [*, errW_none, errW_some] <;> rfl), by repeat (first | (with_reducible first | exact HB.out | apply YA | apply YB | apply YC | refine below_set ?_ GE336.out | refine below_set ?_ GE351.out | refine below_set ?_ GE386.out) | exact HB.out)⟩
     replace c64 := Bool.eq_false_iff.mpr c64
     subst c64
     have H1 : (none) = some r := by rw [if_neg (show ¬ (false = true) by decide)] at H; exact H
     clear H
     have H := H1
     clear H1
     exact absurd H (by simp)
end Go.Proofs.Ytmcmemknikineaa.P
namespace Go.Proofs.Ytmcmemknikineaa.P
open Go.RowKit YtmcmemknikineaaW.PrintWords
def thalweglaw04_ObjectBack.Pure : Prop := ∀ (x0 : S27) (l1 : List Int) (l2 : List Int), ((Lit.int .i64 x0.f0).wf = true ∧ (Lit.int .i64 x0.f1).wf = true ∧ (True ∧ (Lit.int .i64 x0.f2.f1).wf = true ∧ (Lit.int .i64 x0.f2.f2).wf = true ∧ (Lit.int .i64 x0.f2.f3).wf = true ∧ (Lit.int .i64 x0.f2.f4).wf = true ∧ (Lit.int .i64 x0.f2.f5).wf = true) ∧ ((Lit.int .i64 x0.f3.f0).wf = true ∧ (Lit.int .i64 x0.f3.f1).wf = true ∧ (Lit.int .i64 x0.f3.f2).wf = true) ∧ (Lit.int .i64 x0.f4).wf = true) → l1.length ≤ maxLen → (∀ x ∈ l1, (Lit.int .u8 x).wf = true) → l2.length ≤ maxLen → (∀ x ∈ l2, (Lit.int .u8 x).wf = true) → ∃ k, thalweglaw04_ObjectBack.f k x0.f0 x0.f1 x0.f2.f0 x0.f2.f1 x0.f2.f2 x0.f2.f3 x0.f2.f4 x0.f2.f5 x0.f3.f0 x0.f3.f1 x0.f3.f2 x0.f4 l1 l2 = some true
end Go.Proofs.Ytmcmemknikineaa.P
namespace Go.Proofs.Ytmcmemknikineaa.P
open Go.RowKit YtmcmemknikineaaW.PrintWords YtmcmemknikineaaW.PrintLast YtmcmemknikineaaW.PrintMore
theorem num_in (A B C : List Int) (n : Nat) (hn : B.length = n) : numSpec (A ++ (B ++ C)) (A.length : Int) (n : Int) = (bev B, (A.length : Int) + n, 0) := by
 unfold numSpec
 rw [if_neg (by simp only [List.length_append]; omega), if_neg (by simp only [List.length_append]; omega)]
 simp only [Int.toNat_natCast, List.drop_left]
 rw [List.take_append_of_le_length (by omega), List.take_of_length_le (by omega)]
theorem get_in_mid (A C : List Int) (v : Int) (n : Nat) (h1 : 1 ≤ n) (h7 : n ≤ 7) (v0 : 0 ≤ v) (v1 : v < 256 ^ n) : getSpec (A ++ (be n v ++ C)) (A.length : Int) (n : Int) = (v, (A.length : Int) + n, 0) := by
 unfold getSpec
 rw [if_neg (by omega), num_in A (be n v) C n (be_length _ _), bev_be n v v0 v1]
theorem num_ok (l : List Int) (at_ : Int) (n : Nat) (h : (numSpec l at_ n).2.2 = 0) : (0 ≤ at_ ∧ at_ + n ≤ l.length) ∧ numSpec l at_ n = (bev ((l.drop at_.toNat).take n), at_ + n, 0) := by
 unfold numSpec at h ⊢
 split at h
 ·exact absurd h (by decide)
 rename_i g1
 rw [if_neg g1]
 split at h
 ·exact absurd h (by decide)
 rename_i g2
 rw [if_neg g2]
 exact ⟨⟨by omega, by omega⟩, by rw [Int.toNat_natCast]⟩
theorem get_was (l : List Int) (hB : Bytes l) (at_ : Int) (n : Nat) (h1 : 1 ≤ n) (h7 : n ≤ 7) (h : (getSpec l at_ n).2.2 = 0) :
  (0 ≤ at_ ∧ at_ + n ≤ l.length) ∧ (getSpec l at_ n).2.1 = at_ + n ∧ be n (getSpec l at_ n).1 = (l.drop at_.toNat).take n ∧ 0 ≤ (getSpec l at_ n).1 ∧ (getSpec l at_ n).1 < 256 ^ n := by
 unfold getSpec at h ⊢
 rw [if_neg (by omega)] at h ⊢
 obtain ⟨hr, he⟩ := num_ok l at_ n h
 rw [he]
 have hl : ((l.drop at_.toNat).take n).length = n := by rw [List.length_take, List.length_drop]; omega
 have hb := be_bev ((l.drop at_.toNat).take n) ((hB.drop _).take _)
 have hv := bev_range ((l.drop at_.toNat).take n) ((hB.drop _).take _)
 rw [hl] at hb hv
 exact ⟨hr, rfl, hb, hv⟩
theorem seg_add (l : List Int) (a m n : Nat) : (l.drop a).take (m + n) = (l.drop a).take m ++ (l.drop (a + m)).take n := by
 rw [List.take_add, List.drop_drop]
def hB9 (n : Bool) (a b c d e : Int) : List Int := if n = true then [0, e % 256] else [1] ++ intSpec a ++ [b % 256, c % 256] ++ intSpec d ++ [e % 256]
theorem be1' (v : Int) : be 1 v = [v % 256] := by rw [be_cons 0]; simp [be]
theorem one_put (A C : List Int) (v : Int) (h0 : 0 ≤ v) (h1 : v ≤ 255) : rd1 (A ++ ([v % 256] ++ C)) 1 (A.length : Int) 0 = (v, ((A.length + 1 : Nat) : Int), 0) := by
 have g := get_in_mid A C v 1 (by omega) (by omega) h0 (by rw [show (256 : Int) ^ 1 = 256 by decide]; omega)
 rw [be1'] at g
 unfold rd1 rdStep
 simp only [show ((1 : Nat) : Int) = 1 from rfl] at g
 simp only [g, if_true, Prod.mk.injEq, true_and, and_true]
 omega
theorem eight_put (A C : List Int) (v : Int) (h0 : -9223372036854775808 ≤ v) (h1 : v ≤ 9223372036854775807) : rd8 (A ++ (intSpec v ++ C)) (A.length : Int) 0 = (v, ((A.length + 8 : Nat) : Int), 0) := by
 have g := num_in A (intSpec v) C 8 (be_length _ _)
 have hb : bev (intSpec v) = v % 18446744073709551616 := bev_be 8 _ (by omega) (by rw [show (256 : Int) ^ 8 = 18446744073709551616 by decide]; omega)
 rw [hb] at g
 have hw : wrap64 (v % 18446744073709551616) = v := by unfold wrap64; omega
 unfold rd8 rdStep getIntSpec
 simp only [show ((8 : Nat) : Int) = 8 from rfl] at g
 simp only [g, hw, if_true, Prod.mk.injEq, true_and, and_true]
 omega
theorem one_was (l : List Int) (hB : Bytes l) (p v p2 : Int) (h : rd1 l 1 p 0 = (v, p2, 0)) : (0 ≤ p ∧ p + 1 ≤ l.length) ∧ p2 = p + 1 ∧ [v % 256] = (l.drop p.toNat).take 1 ∧ 0 ≤ v ∧ v ≤ 255 := by
 unfold rd1 rdStep at h
 rw [if_pos rfl] at h
 split at h
 ·rename_i h0
  have w := get_was l hB p 1 (by omega) (by omega) h0
  rw [show ((1 : Nat) : Int) = 1 from rfl] at w
  simp only [Prod.mk.injEq, and_true] at h
  obtain ⟨rfl, rfl⟩ := h
  obtain ⟨r, a, b, c, d⟩ := w
  rw [show (256 : Int) ^ 1 = 256 by decide] at d
  rw [be1'] at b
  exact ⟨r, a, b, c, by omega⟩
 ·rename_i h0
  exact absurd (congrArg (fun z => z.2.2) h) h0
theorem eight_was (l : List Int) (hB : Bytes l) (p v p2 : Int) (h : rd8 l p 0 = (v, p2, 0)) : (0 ≤ p ∧ p + 8 ≤ l.length) ∧ p2 = p + 8 ∧ intSpec v = (l.drop p.toNat).take 8 ∧ -9223372036854775808 ≤ v ∧ v ≤ 9223372036854775807 := by
 unfold rd8 rdStep getIntSpec at h
 rw [if_pos rfl] at h
 split at h
 ·rename_i h0
  obtain ⟨r, w⟩ := num_ok l p 8 h0
  simp only [show ((8 : Nat) : Int) = 8 from rfl] at w r
  rw [w] at h
  simp only [Prod.mk.injEq, and_true] at h
  obtain ⟨rfl, rfl⟩ := h
  have hl : ((l.drop p.toNat).take 8).length = 8 := by rw [List.length_take, List.length_drop]; omega
  have hb := be_bev ((l.drop p.toNat).take 8) ((hB.drop _).take _)
  have hv := bev_range ((l.drop p.toNat).take 8) ((hB.drop _).take _)
  rw [hl] at hb hv
  rw [show (256 : Int) ^ 8 = 18446744073709551616 by decide] at hv
  generalize bev ((l.drop p.toNat).take 8) = x at hb hv
  refine ⟨r, rfl, ?_, by unfold wrap64; omega, by unfold wrap64; omega⟩
  unfold intSpec
  rw [show wrap64 x % 18446744073709551616 = x by unfold wrap64; omega, hb]
 ·rename_i h0
  exact absurd (congrArg (fun z => z.2.2) h) h0
theorem hB9_length (n : Bool) (a b c d e : Int) : (hB9 n a b c d e).length = if n = true then 2 else 20 := by
 unfold hB9
 split
 ·rfl
 ·simp [intSpec, be_length]
theorem hp_put (F M : List Int) (n : Bool) (a b c d e : Int) (h : RH n a b c d e) : hpGo (F ++ (hB9 n a b c d e ++ M)) (F.length : Int) = (n, a, b, c, d, e, (F.length : Int) + (hB9 n a b c d e).length, 0) := by
 rw [hB9_length]
 obtain ⟨⟨e0, e1⟩, hh⟩ := h
 rcases hh with ⟨rfl, rfl, rfl, rfl, rfl⟩ | ⟨rfl, a0, a1, b0, b1, c0, c1, d0, d1⟩
 ·simp only [hB9, if_true]
  have g0 := one_put F ([e % 256] ++ M) 0 (by omega) (by omega)
  have g1 := one_put (F ++ [0]) M e (by omega) (by omega)
  have x0 : F ++ ([(0 : Int) % 256] ++ ([e % 256] ++ M)) = F ++ ([0, e % 256] ++ M) := by simp
  have x1 : F ++ [0] ++ ([e % 256] ++ M) = F ++ ([0, e % 256] ++ M) := by simp
  rw [x0] at g0
  rw [x1, List.length_append, List.length_singleton] at g1
  unfold hpGo
  have hr : RH true 0 0 0 0 e := ⟨⟨e0, e1⟩, .inl ⟨rfl, rfl, rfl, rfl, rfl⟩⟩
  simp only [g0, if_true, hpErr, if_neg (show ¬ (1 : Int) < 0 by decide), g1, hpFin, if_pos hr, Prod.mk.injEq, true_and, and_true]
  omega
 ·simp only [hB9, Bool.false_eq_true, if_false]
  have g0 := one_put F (intSpec a ++ ([b % 256] ++ ([c % 256] ++ (intSpec d ++ ([e % 256] ++ M))))) 1 (by omega) (by omega)
  have g1 := eight_put (F ++ [1]) ([b % 256] ++ ([c % 256] ++ (intSpec d ++ ([e % 256] ++ M)))) a (by omega) (by omega)
  have g2 := one_put (F ++ [1] ++ intSpec a) ([c % 256] ++ (intSpec d ++ ([e % 256] ++ M))) b (by omega) (by omega)
  have g3 := one_put (F ++ [1] ++ intSpec a ++ [b % 256]) (intSpec d ++ ([e % 256] ++ M)) c (by omega) (by omega)
  have g4 := eight_put (F ++ [1] ++ intSpec a ++ [b % 256] ++ [c % 256]) ([e % 256] ++ M) d (by omega) (by omega)
  have g5 := one_put (F ++ [1] ++ intSpec a ++ [b % 256] ++ [c % 256] ++ intSpec d) M e (by omega) (by omega)
  have x : F ++ ([1] ++ intSpec a ++ [b % 256, c % 256] ++ intSpec d ++ [e % 256] ++ M) = F ++ ([1] ++ (intSpec a ++ ([b % 256] ++ ([c % 256] ++ (intSpec d ++ ([e % 256] ++ M)))))) := by simp
  rw [x]
  rw [show ([(1 : Int) % 256] : List Int) = [1] from rfl] at g0
  have hi : ∀ v, (intSpec v).length = 8 := fun v => be_length _ _
  simp only [List.append_assoc, List.length_append, List.length_singleton, hi] at g1 g2 g3 g4 g5
  generalize F ++ ([1] ++ (intSpec a ++ ([b % 256] ++ ([c % 256] ++ (intSpec d ++ ([e % 256] ++ M)))))) = l at g0 g1 g2 g3 g4 g5 ⊢
  simp only [Nat.add_assoc, Nat.reduceAdd] at g0 g1 g2 g3 g4 g5
  unfold hpGo
  have hr : RH false a b c d e := ⟨⟨e0, e1⟩, .inr ⟨rfl, a0, a1, b0, b1, c0, c1, d0, d1⟩⟩
  simp only [g0, if_neg (show ¬ (1 : Int) = 0 by decide), hpErr, if_true, if_neg (show ¬ (1 : Int) < 1 by decide), g1, g2, g3, g4, g5, hpFin, if_pos hr, Prod.mk.injEq, true_and, and_true]
  omega
theorem hp_was (l : List Int) (hB : Bytes l) (p : Int) (n : Bool) (a b c d e i : Int) (h : hpGo l p = (n, a, b, c, d, e, i, 0)) :
  RH n a b c d e ∧ 0 ≤ p ∧ i = p + (hB9 n a b c d e).length ∧ i ≤ l.length ∧ hB9 n a b c d e = (l.drop p.toNat).take (hB9 n a b c d e).length := by
 unfold hpGo at h
 obtain ⟨k, p1, e1, hk⟩ : ∃ k p1 e1, rd1 l 1 p 0 = (k, p1, e1) := ⟨_, _, _, rfl⟩
 simp only [hk] at h
 rw [hB9_length]
 have fin_ : ∀ (n' : Bool) (a' b' c' d' : Int) (z : Int × Int × Int), hpFin n' a' b' c' d' z = (n, a, b, c, d, e, i, 0) → z.2.2 = 0 ∧ RH n a b c d e ∧ n' = n ∧ a' = a ∧ b' = b ∧ c' = c ∧ d' = d ∧ z.1 = e ∧ z.2.1 = i := by
  intro n' a' b' c' d' z hz
  unfold hpFin hpNo at hz
  split at hz
  ·rename_i z0
   split at hz
   ·rename_i hr
    simp only [Prod.mk.injEq, and_true] at hz
    obtain ⟨rfl, rfl, rfl, rfl, rfl, rfl, rfl⟩ := hz
    exact ⟨z0, hr, rfl, rfl, rfl, rfl, rfl, rfl, rfl⟩
   ·exact absurd (congrArg (fun y => y.2.2.2.2.2.2.2) hz) (show ¬ (4 : Int) = 0 by decide)
  ·rename_i z0
   exact absurd (congrArg (fun y => y.2.2.2.2.2.2.2) hz) z0
 split at h
 ·rename_i hk0
  obtain ⟨z0, hr, rfl, rfl, rfl, rfl, rfl, he, hi⟩ := fin_ _ _ _ _ _ _ h
  obtain ⟨v, p2, e2, hv⟩ : ∃ v p2 e2, rd1 l 1 p1 (hpErr k e1) = (v, p2, e2) := ⟨_, _, _, rfl⟩
  simp only [hv] at z0 he hi
  subst z0 he hi
  have hz : hpErr k e1 = 0 := by
   by_cases c0 : hpErr k e1 = 0
   ·exact c0
   ·exact absurd (rdStep_stay c0 hv).symm c0
  have he1 : e1 = 0 := by
   unfold hpErr at hz
   split at hz
   ·assumption
   ·exact hz
  rw [hz] at hv
  subst he1 hk0
  obtain ⟨r1, rfl, b1, c1, d1⟩ := one_was l hB p 0 p1 hk
  obtain ⟨r2, rfl, b2, c2, d2⟩ := one_was l hB (p + 1) v p2 hv
  refine ⟨hr, by omega, by simp only [if_true]; omega, by omega, ?_⟩
  simp only [hB9, if_true]
  rw [show (2 : Nat) = 1 + 1 from rfl, seg_add, ← b1, show p.toNat + 1 = (p + 1).toNat by omega, ← b2]
  rfl
 ·rename_i hk0
  obtain ⟨z0, hr, rfl, ha, hb, hc, hd, he, hi⟩ := fin_ _ _ _ _ _ _ h
  obtain ⟨t, pt, et, ht⟩ : ∃ t pt et, rd8 l p1 (hpErr k e1) = (t, pt, et) := ⟨_, _, _, rfl⟩
  simp only [ht] at z0 ha hb hc hd he hi
  obtain ⟨o, po, eo, ho⟩ : ∃ o po eo, rd1 l 1 pt et = (o, po, eo) := ⟨_, _, _, rfl⟩
  simp only [ho] at z0 ha hb hc hd he hi
  obtain ⟨r, pr, er, hrr⟩ : ∃ r pr er, rd1 l 1 po eo = (r, pr, er) := ⟨_, _, _, rfl⟩
  simp only [hrr] at z0 ha hb hc hd he hi
  obtain ⟨dd, pd, ed, hdd⟩ : ∃ d pd ed, rd8 l pr er = (d, pd, ed) := ⟨_, _, _, rfl⟩
  simp only [hdd] at z0 ha hb hc hd he hi
  obtain ⟨v, pv, ev, hv⟩ : ∃ v p e, rd1 l 1 pd ed = (v, p, e) := ⟨_, _, _, rfl⟩
  simp only [hv] at z0 ha hb hc hd he hi
  subst z0 ha hb hc hd he hi
  have h1 : ed = 0 := by
   by_cases c0 : ed = 0
   ·exact c0
   ·exact absurd (rdStep_stay c0 hv).symm c0
  subst h1
  have h2 : er = 0 := by
   by_cases c0 : er = 0
   ·exact c0
   ·exact absurd (rdStep_stay c0 hdd).symm c0
  subst h2
  have h3 : eo = 0 := by
   by_cases c0 : eo = 0
   ·exact c0
   ·exact absurd (rdStep_stay c0 hrr).symm c0
  subst h3
  have h4 : et = 0 := by
   by_cases c0 : et = 0
   ·exact c0
   ·exact absurd (rdStep_stay c0 ho).symm c0
  subst h4
  have hz : hpErr k e1 = 0 := by
   by_cases c0 : hpErr k e1 = 0
   ·exact c0
   ·exact absurd (rdStep_stay c0 ht).symm c0
  have he1 : e1 = 0 ∧ ¬ 1 < k := by
   unfold hpErr at hz
   split at hz
   ·rename_i q
    refine ⟨q, fun q2 => ?_⟩
    rw [if_pos q2] at hz
    omega
   ·rename_i q
    exact absurd hz q
  rw [hz] at ht
  obtain ⟨rfl, hk1⟩ := he1
  obtain ⟨r1, rfl, b1, c1, d1⟩ := one_was l hB p k p1 hk
  obtain rfl : k = 1 := by omega
  obtain ⟨r2, rfl, b2, _, _⟩ := eight_was l hB (p + 1) t pt ht
  obtain ⟨r3, rfl, b3, _, _⟩ := one_was l hB (p + 1 + 8) o po ho
  obtain ⟨r4, rfl, b4, _, _⟩ := one_was l hB (p + 1 + 8 + 1) r pr hrr
  obtain ⟨r5, rfl, b5, _, _⟩ := eight_was l hB (p + 1 + 8 + 1 + 1) dd pd hdd
  obtain ⟨r6, rfl, b6, _, _⟩ := one_was l hB (p + 1 + 8 + 1 + 1 + 8) v pv hv
  refine ⟨hr, by omega, by simp only [Bool.false_eq_true, if_false]; omega, by omega, ?_⟩
  simp only [hB9, Bool.false_eq_true, if_false]
  rw [show (20 : Nat) = 1 + (8 + (1 + (1 + (8 + 1)))) from rfl, seg_add l p.toNat 1, seg_add l (p.toNat + 1) 8, seg_add l (p.toNat + 1 + 8) 1, seg_add l (p.toNat + 1 + 8 + 1) 1, seg_add l (p.toNat + 1 + 8 + 1 + 1) 8]
  rw [← b1, show p.toNat + 1 = (p + 1).toNat by omega, ← b2, show (p + 1).toNat + 8 = (p + 1 + 8).toNat by omega, ← b3, show (p + 1 + 8).toNat + 1 = (p + 1 + 8 + 1).toNat by omega, ← b4, show (p + 1 + 8 + 1).toNat + 1 = (p + 1 + 8 + 1 + 1).toNat by omega, ← b5, show (p + 1 + 8 + 1 + 1).toNat + 8 = (p + 1 + 8 + 1 + 1 + 8).toNat by omega, ← b6]
  simp
def oB9 (a0 a1 : Int) (a2 : Bool) (a3 a4 a5 a6 a7 a8 a9 a10 a11 : Int) : List Int :=
 [a0 % 256, a1 % 256] ++ (if a0 = 1 then [] else if a0 = 3 then intSpec a8 ++ [a9 % 256, a10 % 256] else if a0 = 4 then hB9 a2 a3 a4 a5 a6 a7 ++ [a11 / 256 % 256, a11 % 256] else hB9 a2 a3 a4 a5 a6 a7)
theorem be2' (v : Int) : be 2 v = [v / 256 % 256, v % 256] := by rw [be_cons 1, be_cons 0]; simp [be]
theorem rdN1 (l : List Int) (a e : Int) : rdN l 1 a e = rd1 l 1 a e := by unfold rdN; rw [if_neg (by decide)]
theorem rdN2 (l : List Int) (a e : Int) : rdN l 2 a e = rd1 l 2 a e := by unfold rdN; rw [if_neg (by decide)]
theorem rdN8 (l : List Int) (a e : Int) : rdN l 8 a e = rd8 l a e := by unfold rdN; rw [if_pos rfl]
theorem two_put (A C : List Int) (v : Int) (h0 : 0 ≤ v) (h1 : v ≤ 65535) : rd1 (A ++ (be 2 v ++ C)) 2 (A.length : Int) 0 = (v, ((A.length + 2 : Nat) : Int), 0) := by
 have g := get_in_mid A C v 2 (by omega) (by omega) h0 (by rw [show (256 : Int) ^ 2 = 65536 by decide]; omega)
 unfold rd1 rdStep
 simp only [show ((2 : Nat) : Int) = 2 from rfl] at g
 simp only [g, if_true, Prod.mk.injEq, true_and, and_true]
 omega
theorem two_was (l : List Int) (hB : Bytes l) (p v p2 : Int) (h : rd1 l 2 p 0 = (v, p2, 0)) : (0 ≤ p ∧ p + 2 ≤ l.length) ∧ p2 = p + 2 ∧ be 2 v = (l.drop p.toNat).take 2 ∧ 0 ≤ v ∧ v ≤ 65535 := by
 unfold rd1 rdStep at h
 rw [if_pos rfl] at h
 split at h
 ·rename_i h0
  have w := get_was l hB p 2 (by omega) (by omega) h0
  rw [show ((2 : Nat) : Int) = 2 from rfl] at w
  simp only [Prod.mk.injEq, and_true] at h
  obtain ⟨rfl, rfl⟩ := h
  obtain ⟨r, a, b, c, d⟩ := w
  rw [show (256 : Int) ^ 2 = 65536 by decide] at d
  exact ⟨r, a, b, c, by omega⟩
 ·rename_i h0
  exact absurd (congrArg (fun z => z.2.2) h) h0
theorem rdH_put (F M : List Int) (n : Bool) (a b c d e : Int) (h : RH n a b c d e) : rdH (F ++ (hB9 n a b c d e ++ M)) (F.length : Int) 0 = (n, a, b, c, d, e, (F.length : Int) + (hB9 n a b c d e).length, 0) := by
 unfold rdH
 rw [if_pos rfl, hp_put F M n a b c d e h, if_pos rfl]
theorem rdH_was (l : List Int) (hB : Bytes l) (p : Int) (n : Bool) (a b c d e i : Int) (h : rdH l p 0 = (n, a, b, c, d, e, i, 0)) :
  RH n a b c d e ∧ 0 ≤ p ∧ i = p + (hB9 n a b c d e).length ∧ i ≤ l.length ∧ hB9 n a b c d e = (l.drop p.toNat).take (hB9 n a b c d e).length := by
 unfold rdH at h
 rw [if_pos rfl] at h
 split at h
 ·exact hp_was l hB p n a b c d e i h
 ·rename_i h0
  exact absurd (congrArg (fun z => z.2.2.2.2.2.2.2) h) h0
theorem rdH_stay {l : List Int} {a e0 : Int} {n : Bool} {a1 b1 c1 d1 i1 p e : Int} (h0 : ¬ e0 = 0) (h : rdH l a e0 = (n, a1, b1, c1, d1, i1, p, e)) : e = e0 := by
 unfold rdH at h
 rw [if_neg h0] at h
 simp only [Prod.mk.injEq] at h
 exact h.2.2.2.2.2.2.2.symm
theorem oB9_length (a0 a1 : Int) (a2 : Bool) (a3 a4 a5 a6 a7 a8 a9 a10 a11 : Int) : 2 ≤ (oB9 a0 a1 a2 a3 a4 a5 a6 a7 a8 a9 a10 a11).length ∧ (oB9 a0 a1 a2 a3 a4 a5 a6 a7 a8 a9 a10 a11).length ≤ 24 := by
 have hl := hB9_length a2 a3 a4 a5 a6 a7
 have hl2 : (hB9 a2 a3 a4 a5 a6 a7).length ≤ 20 := by rw [hl]; split <;> omega
 unfold oB9
 rw [List.length_append]
 split
 ·simp
 split
 ·simp [intSpec, be_length]
 split
 ·simp only [List.length_append, List.length_cons, List.length_nil]; omega
 ·simp only [List.length_cons, List.length_nil]; omega
theorem op_put (F M : List Int) (a0 a1 : Int) (a2 : Bool) (a3 a4 a5 a6 a7 a8 a9 a10 a11 : Int) (h : RO a0 a1 a2 a3 a4 a5 a6 a7 a8 a9 a10 a11) :
  opGo (F ++ (oB9 a0 a1 a2 a3 a4 a5 a6 a7 a8 a9 a10 a11 ++ M)) (F.length : Int) = (a0, a1, a2, a3, a4, a5, a6, a7, a8, a9, a10, a11, (F.length : Int) + (oB9 a0 a1 a2 a3 a4 a5 a6 a7 a8 a9 a10 a11).length, 0) := by
 have hh := h
 obtain ⟨⟨d0, d1⟩, hk⟩ := h
 have hi : ∀ v, (intSpec v).length = 8 := fun v => be_length _ _
 have key : ∀ T : List Int, (a0 = 1 ∨ a0 = 2 ∨ a0 = 3 ∨ a0 = 4) → opGo (F ++ ([a0 % 256, a1 % 256] ++ T)) (F.length : Int) = opSw (F ++ ([a0 % 256, a1 % 256] ++ T)) a0 a1 ((F.length + 2 : Nat) : Int) 0 := by
  intro T h4
  have g0 := one_put F ([a1 % 256] ++ T) a0 (by omega) (by omega)
  have g1 := one_put (F ++ [a0 % 256]) T a1 (by omega) (by omega)
  have x0 : F ++ ([a0 % 256] ++ ([a1 % 256] ++ T)) = F ++ ([a0 % 256, a1 % 256] ++ T) := by simp
  have x1 : F ++ [a0 % 256] ++ ([a1 % 256] ++ T) = F ++ ([a0 % 256, a1 % 256] ++ T) := by simp
  rw [x0] at g0
  rw [x1, List.length_append, List.length_singleton] at g1
  unfold opGo
  have he : opErr a0 0 = 0 := by unfold opErr; rw [if_pos rfl, if_neg (by omega)]
  simp only [rdN1, g0, he, g1]
 rcases hk with ⟨rfl, ⟨rfl, rfl, rfl⟩, ⟨rfl, rfl, rfl, rfl, rfl, rfl⟩, rfl⟩ | ⟨rfl, ⟨rfl, rfl, rfl⟩, rfl, hr⟩ | ⟨rfl, ⟨rfl, rfl, rfl, rfl, rfl, rfl⟩, rfl, hr⟩ | ⟨rfl, ⟨rfl, rfl, rfl⟩, m0, m1, hr, rfl⟩
 ·have e : oB9 1 a1 false 0 0 0 0 0 0 0 0 0 ++ M = [(1 : Int) % 256, a1 % 256] ++ M := by unfold oB9; rw [if_pos rfl, List.append_nil]
  have hl : (oB9 1 a1 false 0 0 0 0 0 0 0 0 0).length = 2 := by unfold oB9; rw [if_pos rfl]; rfl
  rw [e, key _ (by omega), hl]
  unfold opSw
  rw [if_neg (by decide), if_neg (by decide), if_neg (by decide)]
  unfold opFin
  rw [if_pos rfl, if_pos hh]
  simp only [Prod.mk.injEq, true_and, and_true]
  omega
 ·have e : oB9 2 a1 a2 a3 a4 a5 a6 a7 0 0 0 0 ++ M = [(2 : Int) % 256, a1 % 256] ++ (hB9 a2 a3 a4 a5 a6 a7 ++ M) := by unfold oB9; rw [if_neg (by decide), if_neg (by decide), if_neg (by decide), List.append_assoc]
  have hl : (oB9 2 a1 a2 a3 a4 a5 a6 a7 0 0 0 0).length = 2 + (hB9 a2 a3 a4 a5 a6 a7).length := by unfold oB9; rw [if_neg (by decide), if_neg (by decide), if_neg (by decide), List.length_append]; rfl
  have g := rdH_put (F ++ [(2 : Int) % 256, a1 % 256]) M a2 a3 a4 a5 a6 a7 hr
  rw [List.append_assoc, List.length_append] at g
  rw [e, key _ (by omega), hl]
  unfold opSw
  rw [if_pos rfl]
  rw [show F.length + [(2 : Int) % 256, a1 % 256].length = F.length + 2 from rfl] at g
  simp only [g]
  unfold opFin
  rw [if_pos rfl, if_pos hh]
  simp only [Prod.mk.injEq, true_and, and_true]
  omega
 ·have e : oB9 3 a1 false 0 0 0 0 0 a8 a9 a10 0 ++ M = [(3 : Int) % 256, a1 % 256] ++ (intSpec a8 ++ ([a9 % 256] ++ ([a10 % 256] ++ M))) := by unfold oB9; rw [if_neg (by decide), if_pos rfl]; simp
  have hl : (oB9 3 a1 false 0 0 0 0 0 a8 a9 a10 0).length = 12 := by unfold oB9; rw [if_neg (by decide), if_pos rfl]; simp [hi]
  obtain ⟨_, hr⟩ := hr
  rcases hr with ⟨q, _⟩ | ⟨_, t0, t1, o0, o1, r0, r1, _, _⟩
  ·exact absurd q (by decide)
  have g1 := eight_put (F ++ [(3 : Int) % 256, a1 % 256]) ([a9 % 256] ++ ([a10 % 256] ++ M)) a8 (by omega) (by omega)
  have g2 := one_put (F ++ [(3 : Int) % 256, a1 % 256] ++ intSpec a8) ([a10 % 256] ++ M) a9 (by omega) (by omega)
  have g3 := one_put (F ++ [(3 : Int) % 256, a1 % 256] ++ intSpec a8 ++ [a9 % 256]) M a10 (by omega) (by omega)
  rw [e, key _ (by omega), hl]
  simp only [List.append_assoc, List.length_append, List.length_singleton, hi] at g1 g2 g3
  rw [show [(3 : Int) % 256, a1 % 256].length = 2 from rfl] at g1 g2 g3
  generalize F ++ ([(3 : Int) % 256, a1 % 256] ++ (intSpec a8 ++ ([a9 % 256] ++ ([a10 % 256] ++ M)))) = l at g1 g2 g3 ⊢
  unfold opSw
  rw [if_neg (by decide), if_pos rfl]
  simp only [Nat.add_assoc, Nat.reduceAdd] at g1 g2 g3
  simp only [rdN8, rdN1, g1, g2, g3]
  unfold opFin
  rw [if_pos rfl, if_pos hh]
  simp only [Prod.mk.injEq, true_and, and_true]
  omega
 ·have e : oB9 4 a1 false a3 a4 a5 a6 a7 0 0 0 a11 ++ M = [(4 : Int) % 256, a1 % 256] ++ (hB9 false a3 a4 a5 a6 a7 ++ (be 2 a11 ++ M)) := by unfold oB9; rw [if_neg (by decide), if_neg (by decide), if_pos rfl, be2']; simp
  have hb20 : (hB9 false a3 a4 a5 a6 a7).length = 20 := by rw [hB9_length]; rfl
  have hl : (oB9 4 a1 false a3 a4 a5 a6 a7 0 0 0 a11).length = 24 := by unfold oB9; rw [if_neg (by decide), if_neg (by decide), if_pos rfl]; simp [hb20]
  have g := rdH_put (F ++ [(4 : Int) % 256, a1 % 256]) (be 2 a11 ++ M) false a3 a4 a5 a6 a7 hr
  have g2 := two_put (F ++ [(4 : Int) % 256, a1 % 256] ++ hB9 false a3 a4 a5 a6 a7) M a11 m0 m1
  rw [e, key _ (by omega), hl]
  simp only [List.append_assoc, List.length_append, hb20] at g g2
  rw [show [(4 : Int) % 256, a1 % 256].length = 2 from rfl] at g g2
  generalize F ++ ([(4 : Int) % 256, a1 % 256] ++ (hB9 false a3 a4 a5 a6 a7 ++ (be 2 a11 ++ M))) = l at g g2 ⊢
  rw [show ((F.length + 2 : Nat) : Int) + ((20 : Nat) : Int) = ((F.length + (2 + 20) : Nat) : Int) by omega] at g
  unfold opSw
  rw [if_neg (by decide), if_neg (by decide), if_pos rfl]
  simp only [g, rdN2, g2]
  unfold opFin
  rw [if_pos rfl, if_pos hh]
  simp only [Prod.mk.injEq, true_and, and_true]
  omega
theorem opFin_ok {k d : Int} {n : Bool} {a b c_ dd i x y z m p e : Int} {r1 r2 : Int} {r3 : Bool} {r4 r5 r6 r7 r8 r9 r10 r11 r12 r13 : Int} (h : opFin k d n a b c_ dd i x y z m p e = (r1, r2, r3, r4, r5, r6, r7, r8, r9, r10, r11, r12, r13, 0)) :
  e = 0 ∧ RO k d n a b c_ dd i x y z m ∧ k = r1 ∧ d = r2 ∧ n = r3 ∧ a = r4 ∧ b = r5 ∧ c_ = r6 ∧ dd = r7 ∧ i = r8 ∧ x = r9 ∧ y = r10 ∧ z = r11 ∧ m = r12 ∧ p = r13 := by
 unfold opFin at h
 split at h
 ·rename_i h0
  split at h
  ·rename_i hr
   simp only [Prod.mk.injEq, and_true] at h
   exact ⟨h0, hr, h⟩
  ·unfold opNo at h
   exact absurd (congrArg (fun t => t.2.2.2.2.2.2.2.2.2.2.2.2.2) h) (show ¬ (4 : Int) = 0 by decide)
 ·rename_i h0
  unfold opNo at h
  exact absurd (congrArg (fun t => t.2.2.2.2.2.2.2.2.2.2.2.2.2) h) h0
theorem op_was (l : List Int) (hB : Bytes l) (p : Int) (r1 r2 : Int) (r3 : Bool) (r4 r5 r6 r7 r8 r9 r10 r11 r12 r13 : Int) (h : opGo l p = (r1, r2, r3, r4, r5, r6, r7, r8, r9, r10, r11, r12, r13, 0)) :
  RO r1 r2 r3 r4 r5 r6 r7 r8 r9 r10 r11 r12 ∧ 0 ≤ p ∧ r13 = p + (oB9 r1 r2 r3 r4 r5 r6 r7 r8 r9 r10 r11 r12).length ∧ r13 ≤ l.length ∧ oB9 r1 r2 r3 r4 r5 r6 r7 r8 r9 r10 r11 r12 = (l.drop p.toNat).take (oB9 r1 r2 r3 r4 r5 r6 r7 r8 r9 r10 r11 r12).length := by
 unfold opGo at h
 obtain ⟨k, p1, e1, hk⟩ : ∃ k p1 e1, rdN l 1 p 0 = (k, p1, e1) := ⟨_, _, _, rfl⟩
 simp only [hk] at h
 obtain ⟨d, p2, e2, hd⟩ : ∃ d p2 e2, rdN l 1 p1 (opErr k e1) = (d, p2, e2) := ⟨_, _, _, rfl⟩
 simp only [hd] at h
 have first_ : e2 = 0 → (e1 = 0 ∧ ¬ (k < 1 ∨ 4 < k)) ∧ (0 ≤ p ∧ p2 = p + 2 ∧ p + 2 ≤ l.length) ∧ [k % 256, d % 256] = (l.drop p.toNat).take 2 := by
  intro h0
  have hz : opErr k e1 = 0 := by
   by_cases c0 : opErr k e1 = 0
   ·exact c0
   ·exact absurd (rdN_stay c0 hd) (by omega)
  have he : e1 = 0 ∧ ¬ (k < 1 ∨ 4 < k) := by
   unfold opErr at hz
   split at hz
   ·rename_i q
    refine ⟨q, fun q2 => ?_⟩
    rw [if_pos q2] at hz
    omega
   ·rename_i q
    exact absurd hz q
  obtain ⟨q1, q2⟩ := he
  subst q1 h0
  rw [hz] at hd
  rw [rdN1] at hk hd
  obtain ⟨a1, rfl, b1, _, _⟩ := one_was l hB p k p1 hk
  obtain ⟨a2, rfl, b2, _, _⟩ := one_was l hB (p + 1) d p2 hd
  refine ⟨⟨rfl, q2⟩, ⟨by omega, by omega, by omega⟩, ?_⟩
  rw [show (2 : Nat) = 1 + 1 from rfl, seg_add, ← b1, show p.toNat + 1 = (p + 1).toNat by omega, ← b2]
  rfl
 have hi : ∀ v, (intSpec v).length = 8 := fun v => be_length _ _
 unfold opSw at h
 split at h
 ·rename_i k2
  obtain ⟨n, a, b, c_, dd, i, p3, e3, hh⟩ : ∃ n a b c d i p e, rdH l p2 e2 = (n, a, b, c, d, i, p, e) := ⟨_, _, _, _, _, _, _, _, rfl⟩
  simp only [hh] at h
  obtain ⟨h0, hr, rfl, rfl, rfl, rfl, rfl, rfl, rfl, rfl, rfl, rfl, rfl, rfl, rfl⟩ := opFin_ok h
  subst h0
  have e20 : e2 = 0 := by
   by_cases c0 : e2 = 0
   ·exact c0
   ·exact absurd (rdH_stay c0 hh) (by omega)
  obtain ⟨_, ⟨f1, rfl, f3⟩, fb⟩ := first_ e20
  rw [e20] at hh
  obtain ⟨hrh, _, g2, g3, g4⟩ := rdH_was l hB (p + 2) _ _ _ _ _ _ _ hh
  have e : oB9 k d n a b c_ dd i 0 0 0 0 = [k % 256, d % 256] ++ hB9 n a b c_ dd i := by unfold oB9; rw [if_neg (by omega), if_neg (by omega), if_neg (by omega)]
  rw [e, List.length_append, show [k % 256, d % 256].length = 2 from rfl]
  refine ⟨hr, f1, by omega, by omega, ?_⟩
  rw [seg_add, ← fb, show p.toNat + 2 = (p + 2).toNat by omega, ← g4]
 split at h
 ·rename_i k2 k3
  obtain ⟨x, p3, e3, hx⟩ : ∃ x p e, rdN l 8 p2 e2 = (x, p, e) := ⟨_, _, _, rfl⟩
  simp only [hx] at h
  obtain ⟨y, p4, e4, hy⟩ : ∃ x p e, rdN l 1 p3 e3 = (x, p, e) := ⟨_, _, _, rfl⟩
  simp only [hy] at h
  obtain ⟨z, p5, e5, hz⟩ : ∃ x p e, rdN l 1 p4 e4 = (x, p, e) := ⟨_, _, _, rfl⟩
  simp only [hz] at h
  obtain ⟨h0, hr, rfl, rfl, rfl, rfl, rfl, rfl, rfl, rfl, rfl, rfl, rfl, rfl, rfl⟩ := opFin_ok h
  subst h0
  have e40 : e4 = 0 := by
   by_cases c0 : e4 = 0
   ·exact c0
   ·exact absurd (rdN_stay c0 hz) (by omega)
  subst e40
  have e30 : e3 = 0 := by
   by_cases c0 : e3 = 0
   ·exact c0
   ·exact absurd (rdN_stay c0 hy) (by omega)
  subst e30
  have e20 : e2 = 0 := by
   by_cases c0 : e2 = 0
   ·exact c0
   ·exact absurd (rdN_stay c0 hx) (by omega)
  obtain ⟨_, ⟨f1, rfl, f3⟩, fb⟩ := first_ e20
  subst e20
  rw [rdN8] at hx
  rw [rdN1] at hy hz
  obtain ⟨a1, rfl, b1, _, _⟩ := eight_was l hB (p + 2) x p3 hx
  obtain ⟨a2, rfl, b2, _, _⟩ := one_was l hB (p + 2 + 8) y p4 hy
  obtain ⟨a3, rfl, b3, _, _⟩ := one_was l hB (p + 2 + 8 + 1) z p5 hz
  have e : oB9 k d false 0 0 0 0 0 x y z 0 = [k % 256, d % 256] ++ (intSpec x ++ ([y % 256] ++ [z % 256])) := by unfold oB9; rw [if_neg (by omega), if_pos k3]; simp
  have hl : ([k % 256, d % 256] ++ (intSpec x ++ ([y % 256] ++ [z % 256]))).length = 2 + (8 + (1 + 1)) := by simp [hi]
  rw [e, hl]
  refine ⟨hr, f1, by omega, by omega, ?_⟩
  rw [seg_add l p.toNat 2, seg_add l (p.toNat + 2) 8, seg_add l (p.toNat + 2 + 8) 1]
  rw [← fb, show p.toNat + 2 = (p + 2).toNat by omega, ← b1, show (p + 2).toNat + 8 = (p + 2 + 8).toNat by omega, ← b2, show (p + 2 + 8).toNat + 1 = (p + 2 + 8 + 1).toNat by omega, ← b3]
 split at h
 ·rename_i k2 k3 k4
  obtain ⟨n, a, b, c_, dd, i, p3, e3, hh⟩ : ∃ n a b c d i p e, rdH l p2 e2 = (n, a, b, c, d, i, p, e) := ⟨_, _, _, _, _, _, _, _, rfl⟩
  simp only [hh] at h
  obtain ⟨m, p4, e4, hm⟩ : ∃ x p e, rdN l 2 p3 e3 = (x, p, e) := ⟨_, _, _, rfl⟩
  simp only [hm] at h
  obtain ⟨h0, hr, rfl, rfl, rfl, rfl, rfl, rfl, rfl, rfl, rfl, rfl, rfl, rfl, rfl⟩ := opFin_ok h
  subst h0
  have e30 : e3 = 0 := by
   by_cases c0 : e3 = 0
   ·exact c0
   ·exact absurd (rdN_stay c0 hm) (by omega)
  subst e30
  have e20 : e2 = 0 := by
   by_cases c0 : e2 = 0
   ·exact c0
   ·exact absurd (rdH_stay c0 hh) (by omega)
  obtain ⟨_, ⟨f1, rfl, f3⟩, fb⟩ := first_ e20
  rw [e20] at hh
  rw [rdN2] at hm
  obtain ⟨hrh, _, g2, g3, g4⟩ := rdH_was l hB (p + 2) _ _ _ _ _ _ _ hh
  obtain ⟨a3, rfl, b3, _, _⟩ := two_was l hB p3 m p4 hm
  have e : oB9 k d n a b c_ dd i 0 0 0 m = [k % 256, d % 256] ++ (hB9 n a b c_ dd i ++ be 2 m) := by unfold oB9; rw [if_neg (by omega), if_neg (by omega), if_pos k4, be2']
  rw [e, List.length_append, List.length_append, be_length, show [k % 256, d % 256].length = 2 from rfl]
  refine ⟨hr, f1, by omega, by omega, ?_⟩
  rw [seg_add l p.toNat 2, seg_add l (p.toNat + 2) (hB9 n a b c_ dd i).length, ← fb, show p.toNat + 2 = (p + 2).toNat by omega, ← g4, show (p + 2).toNat + (hB9 n a b c_ dd i).length = p3.toNat by omega, ← b3]
 ·rename_i k2 k3 k4
  obtain ⟨h0, hr, rfl, rfl, rfl, rfl, rfl, rfl, rfl, rfl, rfl, rfl, rfl, rfl, rfl⟩ := opFin_ok h
  obtain ⟨⟨_, f0⟩, ⟨f1, rfl, f3⟩, fb⟩ := first_ h0
  have k1 : k = 1 := by omega
  have e : oB9 k d false 0 0 0 0 0 0 0 0 0 = [k % 256, d % 256] := by unfold oB9; rw [if_pos k1, List.append_nil]
  rw [e]
  exact ⟨hr, f1, by show p + 2 = p + ((2 : Nat) : Int); omega, by omega, fb⟩
theorem oparse_eq (l : List Int) (a : Int) (hB : Bytes l) (hl : l.length ≤ 1000000000000) : object_Parse.f l a = some (opGo l a) := by
 unfold object_Parse.f
 rw [if_pos ⟨hl, hB⟩]
def hB (n : Bool) (a b c d e : Int) : List Int := if n = true then [0, e % 256] else [1] ++ intSpec a ++ [b % 256, c % 256] ++ intSpec d ++ [e % 256]
theorem hB_length (n : Bool) (a b c d e : Int) : (hB n a b c d e).length = if n = true then 2 else 20 := by
 unfold hB
 cases n
 ·simp only [Bool.false_eq_true, if_false, List.length_append, intSpec_length, List.length_cons, List.length_nil]
 ·rfl
theorem hb_eq (n : Bool) (a b c d e : Int) (h : RH n a b c d e) : Ev (fun k => height_Bytes.f k n a b c d e) (hB n a b c d e, 0) := by
 have hc := hc_eq n a b c d e
 rw [if_pos h] at hc
 unfold height_Bytes.f hB
 refine Ev.bind hc ?_
 cases n with
 | true =>
  simp only [if_true, List.length_nil, List.nil_append, Option.bind_some, List.length_singleton]
  simp only [show (0 : Nat) < 140737488355328 by decide, show (1 : Nat) < 140737488355328 by decide, if_true]
  exact Ev.now _
 | false =>
  simp only [if_true, Bool.false_eq_true, if_false, List.length_nil, List.nil_append, Option.bind_some, List.length_singleton, wire_Int_eq, List.length_append, intSpec_length, List.length_cons]
  simp only [show (0 : Nat) < 140737488355328 by decide, Nat.reduceAdd, Nat.reduceLT, if_true]
  exact Ev.now _
def oB (a0 a1 : Int) (a2 : Bool) (a3 a4 a5 a6 a7 a8 a9 a10 a11 : Int) : List Int :=
 [a0 % 256, a1 % 256] ++ (if a0 = 1 then [] else if a0 = 3 then intSpec a8 ++ [a9 % 256, a10 % 256] else if a0 = 4 then hB a2 a3 a4 a5 a6 a7 ++ [a11 / 256 % 256, a11 % 256] else hB a2 a3 a4 a5 a6 a7)
theorem obx (a0 a1 : Int) (a2 : Bool) (a3 a4 a5 a6 a7 a8 a9 a10 a11 : Int) (h : RO a0 a1 a2 a3 a4 a5 a6 a7 a8 a9 a10 a11) :
  Ev (fun k => object_Bytes.f k a0 a1 a2 a3 a4 a5 a6 a7 a8 a9 a10 a11) (oB a0 a1 a2 a3 a4 a5 a6 a7 a8 a9 a10 a11, 0) := by
 have hc := oc_eq a0 a1 a2 a3 a4 a5 a6 a7 a8 a9 a10 a11
 rw [if_pos h] at hc
 unfold object_Bytes.f
 refine Ev.bind hc ?_
 simp only [if_true, Option.bind_some]
 rcases h.2 with ⟨rfl, _⟩ | ⟨rfl, _, _, hh⟩ | ⟨rfl, _⟩ | ⟨rfl, _, _, _, hh, rfl⟩
 ·simp only [if_neg (show ¬ (1 : Int) = 2 by decide), show ((1 : Int) == 4) = false by decide]
  refine Ev.step (f := fun k => _) (fun k => by simp only [object_Bytes.j0]; rfl) ?_
  simp only [Bool.false_eq_true, if_false, if_neg (show ¬ (1 : Int) = 3 by decide), if_neg (show ¬ (1 : Int) = 4 by decide)]
  exact Ev.now _
 ·simp only [show ((2 : Int) == 2) = true by decide, if_true]
  refine Ev.step (f := fun k => _) (fun k => by simp only [object_Bytes.j0]; rfl) ?_
  simp only [if_true]
  refine Ev.bind (hb_eq _ _ _ _ _ _ hh) ?_
  have hl := hB_length a2 a3 a4 a5 a6 a7
  have : [2 % 256, a1 % 256].length + (hB a2 a3 a4 a5 a6 a7).length < 140737488355328 := by rw [hl]; simp; split <;> omega
  simp only [if_true, if_pos this, Option.bind_some, if_neg (show ¬ (2 : Int) = 4 by decide)]
  exact Ev.now _
 ·simp only [if_neg (show ¬ (3 : Int) = 2 by decide), show ((3 : Int) == 4) = false by decide]
  refine Ev.step (f := fun k => _) (fun k => by simp only [object_Bytes.j0]; rfl) ?_
  simp only [Bool.false_eq_true, if_false, if_true, wire_Int_eq, Option.bind_some, List.length_append, intSpec_length, List.length_cons, List.length_nil, Nat.reduceAdd, Nat.reduceLT, if_neg (show ¬ (3 : Int) = 4 by decide)]
  refine ev_eq (Ev.now _) ?_
  unfold oB
  rw [if_neg (show ¬ (3 : Int) = 1 by decide), if_pos rfl, List.append_assoc]
 ·simp only [if_neg (show ¬ (4 : Int) = 2 by decide), show ((4 : Int) == 4) = true by decide]
  refine Ev.step (f := fun k => _) (fun k => by simp only [object_Bytes.j0]; rfl) ?_
  simp only [if_true]
  refine Ev.bind (hb_eq _ _ _ _ _ _ hh) ?_
  have h20 : (hB false a3 a4 a5 a6 a7).length = 20 := by rw [hB_length]; rfl
  simp only [List.length_append, List.length_cons, List.length_nil, h20, Nat.reduceAdd, Nat.reduceLT, if_true, Option.bind_some]
  refine ev_eq (Ev.now _) ?_
  unfold oB
  rw [if_neg (show ¬ (4 : Int) = 1 by decide), if_neg (show ¬ (4 : Int) = 3 by decide), if_pos rfl, List.append_assoc]
theorem obn (a0 a1 : Int) (a2 : Bool) (a3 a4 a5 a6 a7 a8 a9 a10 a11 : Int) (h : ¬ RO a0 a1 a2 a3 a4 a5 a6 a7 a8 a9 a10 a11) :
  Ev (fun k => object_Bytes.f k a0 a1 a2 a3 a4 a5 a6 a7 a8 a9 a10 a11) ([], 1) := by
 have hc := oc_eq a0 a1 a2 a3 a4 a5 a6 a7 a8 a9 a10 a11
 rw [if_neg h] at hc
 exact ob_no _ _ _ _ _ _ _ _ _ _ _ _ _ hc (by decide)
theorem oB_bytes (a0 a1 : Int) (a2 : Bool) (a3 a4 a5 a6 a7 a8 a9 a10 a11 : Int) : Bytes (oB a0 a1 a2 a3 a4 a5 a6 a7 a8 a9 a10 a11) := by
 have hm : ∀ x : Int, 0 ≤ x % 256 ∧ x % 256 ≤ 255 := fun x => by omega
 have hi : ∀ v, Bytes (intSpec v) := fun v => be_bytes _ _
 have hh : Bytes (hB a2 a3 a4 a5 a6 a7) := by
  unfold hB
  intro x hx
  split at hx
  ·simp only [List.mem_cons, List.not_mem_nil, or_false] at hx
   rcases hx with rfl | rfl
   ·exact ⟨by decide, by decide⟩
   ·exact hm _
  ·simp only [List.mem_append, List.mem_cons, List.not_mem_nil, or_false] at hx
   rcases hx with (((rfl | hx) | rfl | rfl) | hx) | rfl
   ·exact ⟨by decide, by decide⟩
   ·exact hi _ _ hx
   ·exact hm _
   ·exact hm _
   ·exact hi _ _ hx
   ·exact hm _
 unfold oB
 intro x hx
 rw [List.mem_append] at hx
 rcases hx with hx | hx
 ·simp only [List.mem_cons, List.not_mem_nil, or_false] at hx
  rcases hx with rfl | rfl <;> exact hm _
 ·split at hx
  ·cases hx
  ·split at hx
   ·simp only [List.mem_append, List.mem_cons, List.not_mem_nil, or_false] at hx
    rcases hx with hx | rfl | rfl
    ·exact hi _ _ hx
    ·exact hm _
    ·exact hm _
   ·split at hx
    ·simp only [List.mem_append, List.mem_cons, List.not_mem_nil, or_false] at hx
     rcases hx with hx | rfl | rfl
     ·exact hh _ hx
     ·exact hm _
     ·exact hm _
    ·exact hh _ hx
theorem awake04 : Ev (fun k => thalweglaw04_awake.f k) true := Ev.of (fun k => thalweglaw04_awake.mono k) (k := 10) (by decide +kernel)
theorem rows_get (rows : List (List Int)) (i : Int) (h0 : 0 ≤ i) (h1 : i < rows.length) : rows.drop i.toNat = rd_L3 rows i :: rows.drop (i + 1).toNat := by
 have hi : i.toNat < rows.length := by omega
 rw [List.drop_eq_getElem_cons hi, show (i + 1).toNat = i.toNat + 1 by omega]
 congr 1
 unfold rd_L3
 rw [List.getD_eq_getElem?_getD, List.getElem?_eq_getElem hi]
 rfl
theorem both_l0 (rows : List (List Int)) (hr : rows.length ≤ 1000) : ∀ (d : Nat) (i : Int) (acc : List Int), 0 ≤ i → (rows.length : Int) - i = d → acc.length + (rows.drop i.toNat).flatten.length < 140737488355328 →
  Ev (fun k => thalwegref01_Both.l0 k rows acc i) (acc ++ (rows.drop i.toNat).flatten) := by
 intro d
 induction d with
 | zero =>
  intro i acc h0 hd hl
  refine Ev.from 1 fun k => ?_
  simp only [thalwegref01_Both.l0]
  rw [if_neg (by omega), List.drop_eq_nil_of_le (by omega)]
  simp
 | succ d ih =>
  intro i acc h0 hd hl
  have h1 : i < (rows.length : Int) := by omega
  refine Ev.step (f := fun k => _) (fun k => by simp only [thalwegref01_Both.l0]; rfl) ?_
  rw [rows_get rows i h0 h1] at hl ⊢
  simp only [List.flatten_cons, List.length_append] at hl ⊢
  have hc : acc.length + (rd_L3 rows i).length < 140737488355328 := by omega
  simp only [if_pos h1, if_pos h0, if_pos hc, w64 (x := i + 1) (by omega) (by omega)]
  have := ih (i + 1) (acc ++ rd_L3 rows i) (by omega) (by omega) (by rw [List.length_append]; omega)
  rw [← List.append_assoc]
  exact this
theorem both_ev (rows : List (List Int)) (hr : rows.length ≤ 1000) (hl : rows.flatten.length < 140737488355328) : Ev (fun k => thalwegref01_Both.f k rows) rows.flatten := by
 unfold thalwegref01_Both.f
 have := both_l0 rows hr rows.length 0 [] (by omega) (by omega) (by simpa using hl)
 simpa using this
end Go.Proofs.Ytmcmemknikineaa.P
namespace Go.Proofs.Ytmcmemknikineaa.Pure
open Go.RowKit Go.Proofs.Ytmcmemknikineaa.P YtmcmemknikineaaW.PrintWords YtmcmemknikineaaW.PrintLast YtmcmemknikineaaW.PrintMore
theorem ob_one (a0 a1 : Int) (a2 : Bool) (a3 a4 a5 a6 a7 a8 a9 a10 a11 : Int) : oB a0 a1 a2 a3 a4 a5 a6 a7 a8 a9 a10 a11 = oB9 a0 a1 a2 a3 a4 a5 a6 a7 a8 a9 a10 a11 := rfl
theorem oback_j1 (a0 a1 : Int) (a2 : Bool) (a3 a4 a5 a6 a7 a8 a9 a10 a11 : Int) (F M : List Int) (hF : Bytes F) (hM : Bytes M) (lF : F.length ≤ 200) (lM : M.length ≤ 200) : Ev (fun k => thalweglaw04_ObjectBack.j1 k F M false a0 a1 a2 a3 a4 a5 a6 a7 a8 a9 a10 a11) true := by
 refine Ev.step (f := fun k => _) (fun k => by simp only [thalweglaw04_ObjectBack.j1]; rfl) ?_
 simp only [Bool.false_eq_true, if_false]
 by_cases h : RO a0 a1 a2 a3 a4 a5 a6 a7 a8 a9 a10 a11
 ·have hl := oB9_length a0 a1 a2 a3 a4 a5 a6 a7 a8 a9 a10 a11
  refine Ev.bind (obx _ _ _ _ _ _ _ _ _ _ _ _ h) ?_
  have hby := oB_bytes a0 a1 a2 a3 a4 a5 a6 a7 a8 a9 a10 a11
  rw [ob_one] at hby ⊢
  have hput := op_put F M a0 a1 a2 a3 a4 a5 a6 a7 a8 a9 a10 a11 h
  generalize oB9 a0 a1 a2 a3 a4 a5 a6 a7 a8 a9 a10 a11 = b at hl hby hput ⊢
  have hboth : Ev (fun k => thalwegref01_Both.f k [F, b, M]) (F ++ (b ++ M)) := by
   have := both_ev [F, b, M] (by simp) (by simp; omega)
   simpa using this
  refine Ev.bind hboth ?_
  simp only [oparse_eq _ (F.length : Int) (hF.append (hby.append hM)) (by simp only [List.length_append]; omega), hput, Option.bind_some, if_true]
  refine Ev.bind awake04 ?_
  simp only [if_true, beq_self_eq_true, Bool.and_self]
  rw [w64 (by omega) (by omega), beq_self_eq_true]
  exact Ev.now _
 ·have hb := obn _ _ _ _ _ _ _ _ _ _ _ _ h
  refine Ev.bind hb ?_
  have hboth : Ev (fun k => thalwegref01_Both.f k [F, [], M]) (F ++ M) := by
   have := both_ev [F, [], M] (by simp) (by simp; omega)
   simpa using this
  refine Ev.bind hboth ?_
  simp only [oparse_eq _ (F.length : Int) (hF.append hM) (by simp only [List.length_append]; omega), Option.bind_some, if_neg (show ¬ (1 : Int) = 0 by decide)]
  refine Ev.bind awake04 ?_
  simp only [if_true, List.length_nil, show ((0 : Nat) : Int) = 0 from rfl]
  refine Ev.bind (os_ev _ _ _ _ _ _ _ _ _ _ _ _ _ hb) ?_
  exact Ev.now _
theorem oback_j0 (a0 a1 : Int) (a2 : Bool) (a3 a4 a5 a6 a7 a8 a9 a10 a11 : Int) (F M : List Int) (hF : Bytes F) (hM : Bytes M) (lF : F.length ≤ 200) (lM : M.length ≤ 200) : Ev (fun k => thalweglaw04_ObjectBack.j0 k F M false a0 a1 a2 a3 a4 a5 a6 a7 a8 a9 a10 a11) true := by
 have hj := oback_j1 a0 a1 a2 a3 a4 a5 a6 a7 a8 a9 a10 a11 F M hF hM lF lM
 refine Ev.step (f := fun k => _) (fun k => by simp only [thalweglaw04_ObjectBack.j0]; rfl) ?_
 obtain ⟨x0, x1, x2, x3, x4, x5, x6, x7, x8, x9, x10, x11, i, er, he⟩ : ∃ x0 x1 x2 x3 x4 x5 x6 x7 x8 x9 x10 x11 i er, opGo M 0 = (x0, x1, x2, x3, x4, x5, x6, x7, x8, x9, x10, x11, i, er) := ⟨_, _, _, _, _, _, _, _, _, _, _, _, _, _, rfl⟩
 simp only [Bool.false_eq_true, if_false, oparse_eq M 0 hM (by omega), he, Option.bind_some]
 by_cases h0 : er = 0
 ·subst h0
  obtain ⟨hr, _, hi, hiM, hb⟩ := op_was M hM 0 x0 x1 x2 x3 x4 x5 x6 x7 x8 x9 x10 x11 i he
  have hl := oB9_length x0 x1 x2 x3 x4 x5 x6 x7 x8 x9 x10 x11
  have hbx := obx _ _ _ _ _ _ _ _ _ _ _ _ hr
  refine Ev.bind hbx ?_
  rw [ob_one] at hbx ⊢
  have hbt : oB9 x0 x1 x2 x3 x4 x5 x6 x7 x8 x9 x10 x11 = M.take i.toNat := by
   rw [show i.toNat = (oB9 x0 x1 x2 x3 x4 x5 x6 x7 x8 x9 x10 x11).length by omega]
   exact hb
  simp only [if_true, if_neg (show ¬ i < 2 by omega), if_neg (show ¬ i > (M.length : Int) by omega), if_pos (show 0 ≤ i by omega), if_pos hiM, ← hbt]
  refine Ev.bind (os_ev _ _ _ _ _ _ _ _ _ _ _ _ _ hbx) ?_
  rw [show ((oB9 x0 x1 x2 x3 x4 x5 x6 x7 x8 x9 x10 x11).length : Int) = i by omega, bne_self_eq_false]
  exact hj
 ·by_cases hr : RO x0 x1 x2 x3 x4 x5 x6 x7 x8 x9 x10 x11
  ·refine Ev.bind (obx _ _ _ _ _ _ _ _ _ _ _ _ hr) ?_
   simp only [if_neg h0]
   exact hj
  ·refine Ev.bind (obn _ _ _ _ _ _ _ _ _ _ _ _ hr) ?_
   simp only [if_neg h0]
   exact hj
theorem ObjectBack : thalweglaw04_ObjectBack.Pure := by
 intro x F M _ _ hF _ hM
 have hF : Bytes F := bytes_of hF
 have hM : Bytes M := bytes_of hM
 apply Ev.rounds
 have yes : Ev (fun k => thalweglaw04_ObjectBack.j0 k F M true x.f0 x.f1 x.f2.f0 x.f2.f1 x.f2.f2 x.f2.f3 x.f2.f4 x.f2.f5 x.f3.f0 x.f3.f1 x.f3.f2 x.f4) true := by
  refine Ev.step (f := fun k => _) (fun k => by simp only [thalweglaw04_ObjectBack.j0]; rfl) ?_
  simp only [if_true]
  exact Ev.now _
 unfold thalweglaw04_ObjectBack.f
 by_cases h2 : (F.length : Int) > 200
 ·simp only [if_pos h2]; exact yes
 simp only [if_neg h2]
 by_cases h3 : (M.length : Int) > 200
 ·rw [decide_eq_true h3]; exact yes
 ·rw [decide_eq_false h3]; exact oback_j0 _ _ _ _ _ _ _ _ _ _ _ _ F M hF hM (by omega) (by omega)
end Go.Proofs.Ytmcmemknikineaa.Pure
