/- Walks. -/
import Derived.WalkMore
import Derived.Deep.CutBlock
import Derived.Laws.CopyOwn
import Derived.Test.YtclbempnhelmoaaXSenderDoesa
set_option linter.unusedVariables false
set_option linter.unusedSimpArgs false
set_option maxHeartbeats 8000000
set_option maxRecDepth 100000
namespace Go.Proofs.Ytclbempnhelmoaa.P
open Go.RowKit YtclbempnhelmoaaW.PrintWords YtclbempnhelmoaaW.PrintLast YtclbempnhelmoaaW.PrintMore
open YtclbempnhelmoaaW.PrintWords renaming below_alloc → YA, pw_below_drewN → YB, below_drew1 → YC, below_step → YD, blk_cell → YE, blk_frozen → YF
open YtclbempnhelmoaaW.PrintWords.Aside0 renaming mk → YG
attribute [local go_sem] max2_int min2_int max_two min_two max_three min_three max_four min_four
def batch_wrong.f (k : Nat) (a0_0 : Int) (a0_1 : Int) (a0_2 : Bool) (a0_3 : Int) (a0_4 : Int) (a0_5 : Int) (a0_6 : Int) (a0_7 : Int) (a0_8 : Int) (a0_9 : Int) (a0_10 : Int) (a0_11 : Int) : Option (Bool) := (object_Check.f k a0_0 a0_1 a0_2 a0_3 a0_4 a0_5 a0_6 a0_7 a0_8 a0_9 a0_10 a0_11).bind fun t148 => (some (t148 != 0))
theorem batch_wrong.calls (k : Nat) (a0_0 : Int) (a0_1 : Int) (a0_2 : Bool) (a0_3 : Int) (a0_4 : Int) (a0_5 : Int) (a0_6 : Int) (a0_7 : Int) (a0_8 : Int) (a0_9 : Int) (a0_10 : Int) (a0_11 : Int) (r : Bool) (w : World) (h : batch_wrong.f k a0_0 a0_1 a0_2 a0_3 a0_4 a0_5 a0_6 a0_7 a0_8 a0_9 a0_10 a0_11 = some r) :
  Calls Try.prog 51 #[.agg #[.int .i64 a0_0, .int .i64 a0_1, .bool a0_2, .int .i64 a0_3, .int .i64 a0_4, .int .i64 a0_5, .int .i64 a0_6, .int .i64 a0_7, .int .i64 a0_8, .int .i64 a0_9, .int .i64 a0_10, .int .i64 a0_11]] w fun e w' => e = .returned (.bool r) ∧ Below w.heap.size w w' := by
 have hu34 := Try.underlying34
 have HB := YG (Below.refl w.heap.size w)
 have H : ((object_Check.f k a0_0 a0_1 a0_2 a0_3 a0_4 a0_5 a0_6 a0_7 a0_8 a0_9 a0_10 a0_11).bind fun t148 => (some (t148 != 0))) = some r := h
 clear h; replace H := Option.bind_eq_some_iff.mp H; obtain ⟨t148, A20, H⟩ := H
 replace H : (some (t148 != 0)) = some r := H
 have A2 := YG A20; clear A20
 obtain rfl := Option.some.inj H
 go_enter Try.func51, Try.ntmps51
 go_wp2_with (first | ((with_reducible refine gate_dst (N := 1) rfl ?_); refine box_event ?hg (N := 1) ?hd (cs := #[.int .i64 a0_0, .int .i64 a0_1, .bool a0_2, .int .i64 a0_3, .int .i64 a0_4, .int .i64 a0_5, .int .i64 a0_6, .int .i64 a0_7, .int .i64 a0_8, .int .i64 a0_9, .int .i64 a0_10, .int .i64 a0_11]) (t := 34) ?hr ?_; (case hd => rfl); (case hg => rfl); (case hr => first | (go_simp; done) | (go_simp; rfl)); intro gb147 hg w3 hbox hb; have n0_ := YG (YD (upB HB) hb); have n1_ := YG (hbox); have n2_ := YG ((by rw [hg]; exact (below_size (upB HB)) : w.heap.size ≤ gb147)); have n3_ := YG ((by rw [hg]; exact (below_size (upB HB)) : w.heap.size ≤ gb147)); clear HB; have HB := n0_; have BK147 := n1_; have GW147 := n2_; have GE147 := n3_; clear n0_ n1_ n2_ n3_; clear hb hbox hg; obtain ⟨q4_0, q4_1, q4_2, q4_3, q4_4, q4_5, q4_6, q4_7, q4_8, q4_9, q4_10, q4_11⟩ := cA12 BK147.out; obtain ⟨f4_0, f4_1, f4_2, f4_3, f4_4, f4_5, f4_6, f4_7, f4_8, f4_9, f4_10, f4_11⟩ := fA12 BK147.out) | ((with_reducible refine gate_callee (f := 26) rfl ?_); refine goesA (some 4) Try.func26 #[.agg #[.int .i64 a0_0, .int .i64 a0_1, .bool a0_2, .int .i64 a0_3, .int .i64 a0_4, .int .i64 a0_5, .int .i64 a0_6, .int .i64 a0_7, .int .i64 a0_8, .int .i64 a0_9, .int .i64 a0_10, .int .i64 a0_11]] ?_; (with_reducible refine (object_Check.calls k a0_0 a0_1 a0_2 a0_3 a0_4 a0_5 a0_6 a0_7 a0_8 a0_9 a0_10 a0_11 t148 _ A2.out).mono ?_); rintro e w5 ⟨rfl, hb⟩; refine ⟨_, rfl, ?_⟩; have n0_ := YG (blk_below (g := gb147) (o := .cells #[.int .i64 a0_0, .int .i64 a0_1, .bool a0_2, .int .i64 a0_3, .int .i64 a0_4, .int .i64 a0_5, .int .i64 a0_6, .int .i64 a0_7, .int .i64 a0_8, .int .i64 a0_9, .int .i64 a0_10, .int .i64 a0_11] 34 (0, 0)) (upK BK147) hb); have n1_ := YG (YD (upB HB) hb); clear BK147; clear HB; have BK147 := n0_; have HB := n1_; clear n0_ n1_; (try clear hb); (try clear hb2); (try clear hk); (try clear hi)))
 go_ret
 exact ⟨by first | rfl | (simp [errW_none, errW_some] <;> rfl) | (simp [*, errW_none, errW_some] <;> rfl), by repeat (first | (with_reducible first | exact HB.out | apply YA | apply YB | apply YC | refine below_set ?_ GE147.out) | exact HB.out)⟩
def api_Object_66.l0 : Nat → List (S34) → Int → Int → Option (Int)
 | 0, _, _, _ => none
 | k + 1, x0, x7, x8 => if x8 < x7 then (if 0 ≤ x8 then (if x8 < (x0.length : Int) then ((batch_wrong.f k ((rd_T34 x0 x8).f0) ((rd_T34 x0 x8).f1) ((rd_T34 x0 x8).f2.f0) ((rd_T34 x0 x8).f2.f1) ((rd_T34 x0 x8).f2.f2) ((rd_T34 x0 x8).f2.f3) ((rd_T34 x0 x8).f2.f4) ((rd_T34 x0 x8).f2.f5) ((rd_T34 x0 x8).f3.f0) ((rd_T34 x0 x8).f3.f1) ((rd_T34 x0 x8).f3.f2) ((rd_T34 x0 x8).f4)).bind fun t150 => (if t150 = true then (some x8) else (api_Object_66.l0 k x0 x7 (wrap64 (x8 + 1))))) else (none)) else (none)) else (some (-1))
def api_Object_66.f (k : Nat) (l0 : List (S34))  : Option (Int) := api_Object_66.l0 k l0 (l0.length : Int) 0
theorem api_Object_66.calls (k : Nat) (A0 : Option Addr) (c0 : Nat) (l0 : List (S34))  (r : Int) (w : World) (hr0 : Kd.C k34 w A0 l0.length l0) (hc0 : l0.length ≤ c0) (h : api_Object_66.f k l0 = some r) :
  Calls Try.prog 66 #[.slice A0 l0.length c0, .func (Fn.func 51) #[] #[]] w fun e w' => e = .returned (.int .i64 r) ∧ Below w.heap.size w w' := by
 have hu34 := Try.underlying34
 have HR0 := YG hr0; have HC0 := YG hc0; clear hr0 hc0
 have HB := YG (Below.refl w.heap.size w)
 have H : (api_Object_66.l0 k l0 (l0.length : Int) 0) = some r := h
 clear h
 have H' := YG H
 clear H
 go_enter Try.func66, Try.ntmps66
 go_wp2
 go_loopg [8] k (fun kq v8 w' => ∃ (x8_1 : Int), v8 = .int .i64 x8_1 ∧ Aside0 (api_Object_66.l0 kq l0 (l0.length : Int) x8_1 = some r) ∧ Aside0 (kq ≤ k) ∧ Aside0 (Below w.heap.size w w'))
 case atStart => exact ⟨(0), (by first | rfl | (simp; done) | (simp [*]; done)), H', ⟨Nat.le_refl _⟩, ⟨by repeat (first | (with_reducible first | exact HB.out | apply YA | apply YB | apply YC) | exact HB.out)⟩⟩
 case round =>
  clear H'
  try clear p2
  obtain ⟨x8_1, rfl, HA, HK1, HB⟩ := hrel
  cases gk with
  | zero => exact absurd HA.out (by simp [api_Object_66.l0])
  | succ k1 =>
   have H := HA.out
   clear HA
   simp only [api_Object_66.l0] at H
   by_cases c3 : x8_1 < (l0.length : Int)
   ·rw [if_pos c3] at H
    have c3b0 : decide (x8_1 < (l0.length : Int)) = true := decide_eq_true c3
    clear c3
    by_cases c4 : 0 ≤ x8_1
    rotate_left
    ·rw [if_neg c4] at H
     exact absurd H (by simp)
    rw [if_pos c4] at H; have c4b0 : decide (0 ≤ x8_1) = true := decide_eq_true c4; clear c4
    by_cases c5 : x8_1 < (l0.length : Int)
    rotate_left
    ·rw [if_neg c5] at H
     exact absurd H (by simp)
    rw [if_pos c5] at H
    have c5b0 : decide (x8_1 < (l0.length : Int)) = true := decide_eq_true c5
    clear c5; replace H := Option.bind_eq_some_iff.mp H; obtain ⟨t150, A60, H⟩ := H
    replace H : (if t150 = true then (some x8_1) else (api_Object_66.l0 k1 l0 (l0.length : Int) (wrap64 (x8_1 + 1)))) = some r := H
    have A6 := YG A60; clear A60
    by_cases c7 : t150 = true
    ·subst c7
     have H1 : (some x8_1) = some r := by rw [if_pos rfl] at H; exact H
     clear H
     have H := H1
     clear H1
     obtain rfl := Option.some.inj H
     have p149 : 0 ≤ (x8_1 : Int) := of_decide_eq_true (by first | (with_reducible assumption) | assumption)
     have q149 : x8_1 < (l0.length : Int) := of_decide_eq_true (by first | (with_reducible assumption) | assumption)
     obtain ⟨ad149, e149, hx149_0, hx149_1, hx149_2, hx149_3, hx149_4, hx149_5, hx149_6, hx149_7, hx149_8, hx149_9, hx149_10, hx149_11⟩ := at_T34 HR0.out x8_1 p149 q149
     cases e149
     replace hx149_0 := (HB.out.cell (World.block_lt_of_cell? w _ hx149_0)).trans hx149_0
     replace hx149_1 := (HB.out.cell (World.block_lt_of_cell? w _ hx149_1)).trans hx149_1
     replace hx149_2 := (HB.out.cell (World.block_lt_of_cell? w _ hx149_2)).trans hx149_2
     replace hx149_3 := (HB.out.cell (World.block_lt_of_cell? w _ hx149_3)).trans hx149_3
     replace hx149_4 := (HB.out.cell (World.block_lt_of_cell? w _ hx149_4)).trans hx149_4
     replace hx149_5 := (HB.out.cell (World.block_lt_of_cell? w _ hx149_5)).trans hx149_5
     replace hx149_6 := (HB.out.cell (World.block_lt_of_cell? w _ hx149_6)).trans hx149_6
     replace hx149_7 := (HB.out.cell (World.block_lt_of_cell? w _ hx149_7)).trans hx149_7
     replace hx149_8 := (HB.out.cell (World.block_lt_of_cell? w _ hx149_8)).trans hx149_8
     replace hx149_9 := (HB.out.cell (World.block_lt_of_cell? w _ hx149_9)).trans hx149_9
     replace hx149_10 := (HB.out.cell (World.block_lt_of_cell? w _ hx149_10)).trans hx149_10
     replace hx149_11 := (HB.out.cell (World.block_lt_of_cell? w _ hx149_11)).trans hx149_11
     replace p149 := eq_true p149
     replace q149 := eq_true q149
     go_wp2_with (first | (go_at_call 51; (with_reducible refine (batch_wrong.calls k1 ((rd_T34 l0 x8_1).f0) ((rd_T34 l0 x8_1).f1) ((rd_T34 l0 x8_1).f2.f0) ((rd_T34 l0 x8_1).f2.f1) ((rd_T34 l0 x8_1).f2.f2) ((rd_T34 l0 x8_1).f2.f3) ((rd_T34 l0 x8_1).f2.f4) ((rd_T34 l0 x8_1).f2.f5) ((rd_T34 l0 x8_1).f3.f0) ((rd_T34 l0 x8_1).f3.f1) ((rd_T34 l0 x8_1).f3.f2) ((rd_T34 l0 x8_1).f4) true _ A6.out).mono ?_); rintro e w8 ⟨rfl, hb⟩; have n0_ := YG (YD (upB HB) hb); clear HB; have HB := n0_; clear n0_; (try clear hb); (try clear hb2); (try clear hk); (try clear hi)))
     go_ret
     exact ⟨by first | rfl | (simp [errW_none, errW_some] <;> rfl) | (simp [*, errW_none, errW_some] <;> rfl), by repeat (first | (with_reducible first | exact HB.out | apply YA | apply YB | apply YC) | exact HB.out)⟩
    replace c7 := Bool.eq_false_iff.mpr c7
    subst c7
    have H1 : (api_Object_66.l0 k1 l0 (l0.length : Int) (wrap64 (x8_1 + 1))) = some r := by rw [if_neg (show ¬ (false = true) by decide)] at H; exact H
    clear H
    have H := H1
    clear H1
    have H' := YG H
    clear H
    have p149 : 0 ≤ (x8_1 : Int) := of_decide_eq_true (by first | (with_reducible assumption) | assumption)
    have q149 : x8_1 < (l0.length : Int) := of_decide_eq_true (by first | (with_reducible assumption) | assumption)
    obtain ⟨ad149, e149, hx149_0, hx149_1, hx149_2, hx149_3, hx149_4, hx149_5, hx149_6, hx149_7, hx149_8, hx149_9, hx149_10, hx149_11⟩ := at_T34 HR0.out x8_1 p149 q149
    cases e149
    replace hx149_0 := (HB.out.cell (World.block_lt_of_cell? w _ hx149_0)).trans hx149_0
    replace hx149_1 := (HB.out.cell (World.block_lt_of_cell? w _ hx149_1)).trans hx149_1
    replace hx149_2 := (HB.out.cell (World.block_lt_of_cell? w _ hx149_2)).trans hx149_2
    replace hx149_3 := (HB.out.cell (World.block_lt_of_cell? w _ hx149_3)).trans hx149_3
    replace hx149_4 := (HB.out.cell (World.block_lt_of_cell? w _ hx149_4)).trans hx149_4
    replace hx149_5 := (HB.out.cell (World.block_lt_of_cell? w _ hx149_5)).trans hx149_5
    replace hx149_6 := (HB.out.cell (World.block_lt_of_cell? w _ hx149_6)).trans hx149_6
    replace hx149_7 := (HB.out.cell (World.block_lt_of_cell? w _ hx149_7)).trans hx149_7
    replace hx149_8 := (HB.out.cell (World.block_lt_of_cell? w _ hx149_8)).trans hx149_8
    replace hx149_9 := (HB.out.cell (World.block_lt_of_cell? w _ hx149_9)).trans hx149_9
    replace hx149_10 := (HB.out.cell (World.block_lt_of_cell? w _ hx149_10)).trans hx149_10
    replace hx149_11 := (HB.out.cell (World.block_lt_of_cell? w _ hx149_11)).trans hx149_11
    replace p149 := eq_true p149
    replace q149 := eq_true q149
    go_wp2_with (first | (go_at_call 51; (with_reducible refine (batch_wrong.calls k1 ((rd_T34 l0 x8_1).f0) ((rd_T34 l0 x8_1).f1) ((rd_T34 l0 x8_1).f2.f0) ((rd_T34 l0 x8_1).f2.f1) ((rd_T34 l0 x8_1).f2.f2) ((rd_T34 l0 x8_1).f2.f3) ((rd_T34 l0 x8_1).f2.f4) ((rd_T34 l0 x8_1).f2.f5) ((rd_T34 l0 x8_1).f3.f0) ((rd_T34 l0 x8_1).f3.f1) ((rd_T34 l0 x8_1).f3.f2) ((rd_T34 l0 x8_1).f4) false _ A6.out).mono ?_); rintro e w9 ⟨rfl, hb⟩; have n0_ := YG (YD (upB HB) hb); clear HB; have HB := n0_; clear n0_; (try clear hb); (try clear hb2); (try clear hk); (try clear hi)))
    go_roundg k1
    case measure => have := HK1.out; omega
    case rel => exact ⟨(wrap64 (x8_1 + 1)), (by first | rfl | (simp; done) | (simp [*]; done)), H', ⟨by have := HK1.out; omega⟩, ⟨by repeat (first | (with_reducible first | exact HB.out | apply YA | apply YB | apply YC) | exact HB.out)⟩⟩
   rw [if_neg c3] at H
   have c3b0 : decide (x8_1 < (l0.length : Int)) = false := decide_eq_false c3
   clear c3
   obtain rfl := Option.some.inj H
   go_wp2
   go_ret
   exact ⟨by first | rfl | (simp [errW_none, errW_some] <;> rfl) | (simp [*, errW_none, errW_some] <;> rfl), by repeat (first | (with_reducible first | exact HB.out | apply YA | apply YB | apply YC) | exact HB.out)⟩
def api_Object_50.f (k : Nat) (l0 : List (S34))  : Option (Bool) := (api_Object_66.f k l0).bind fun t151 => (some (decide (t151 ≥ 0)))
theorem api_Object_50.calls (k : Nat) (A0 : Option Addr) (c0 : Nat) (l0 : List (S34))  (r : Bool) (w : World) (hr0 : Kd.C k34 w A0 l0.length l0) (hc0 : l0.length ≤ c0) (h : api_Object_50.f k l0 = some r) :
  Calls Try.prog 50 #[.slice A0 l0.length c0, .func (Fn.func 51) #[] #[]] w fun e w' => e = .returned (.bool r) ∧ Below w.heap.size w w' := by
 have HR0 := YG hr0; have HC0 := YG hc0; clear hr0 hc0
 have HB := YG (Below.refl w.heap.size w)
 have H : ((api_Object_66.f k l0).bind fun t151 => (some (decide (t151 ≥ 0)))) = some r := h
 clear h; replace H := Option.bind_eq_some_iff.mp H; obtain ⟨t151, A30, H⟩ := H
 replace H : (some (decide (t151 ≥ 0))) = some r := H
 have A3 := YG A30; clear A30
 obtain rfl := Option.some.inj H
 go_enter Try.func50, Try.ntmps50
 go_wp2_with (first | ((with_reducible refine gate_callee (f := 66) rfl ?_); refine goesA (some 7) Try.func66 #[.slice A0 l0.length c0, .func (Fn.func 51) #[] #[]] ?_; (with_reducible refine (api_Object_66.calls k _ _ l0  t151 _ ?side1 ?side2 A3.out).mono ?_); (case side1 => repeat (first | exact HR0.out | (with_reducible refine Kd.C_alloc ?_ _) | (with_reducible refine Kd.C_drewN ?_ _) | (with_reducible refine Kd.C_drew ?_))); (case side2 => exact HC0.out); rintro e w4 ⟨rfl, hb⟩; refine ⟨_, rfl, ?_⟩; have n0_ := YG (YD (upB HB) hb); clear HB; have HB := n0_; clear n0_; (try clear hb); (try clear hb2); (try clear hk); (try clear hi)))
 go_ret
 exact ⟨by first | rfl | (simp [errW_none, errW_some] <;> rfl) | (simp [*, errW_none, errW_some] <;> rfl), by repeat (first | (with_reducible first | exact HB.out | apply YA | apply YB | apply YC) | exact HB.out)⟩
def wire_Int.f (a0 : Int) : Option (List Int) := (wire_bytes.f (IntKind.u64.wrap (a0)) 8).bind fun t152 => (some t152)
theorem wire_Int.calls (a0 : Int) (r : List Int) (w : World) (h : wire_Int.f a0 = some r) :
  Calls Try.prog 70 #[.int .i64 a0] w fun e w' => ∃ v0_ : Value, e = .returned (v0_) ∧ Kd.R (Kd.int .u8) 5 w' w.heap.size (fun _ => True) v0_ r ∧ Below w.heap.size w w' := by
 have HB := YG (Below.refl w.heap.size w)
 have H : ((wire_bytes.f (IntKind.u64.wrap (a0)) 8).bind fun t152 => (some t152)) = some r := h
 clear h; replace H := Option.bind_eq_some_iff.mp H; obtain ⟨t152, A20, H⟩ := H
 replace H : (some t152) = some r := H
 have A2 := YG A20; clear A20
 obtain rfl := Option.some.inj H
 go_enter Try.func70, Try.ntmps70
 go_wp2_with (first | ((with_reducible refine gate_callee (f := 73) rfl ?_); refine goesA (some 5) Try.func73 #[.int .u64 (IntKind.u64.wrap (a0)), .int .i64 8] ?_; (with_reducible refine (wire_bytes.calls (IntKind.u64.wrap (a0)) 8 t152 _ A2.out).mono ?_); rintro e w3 ⟨v153, rfl, ho0, hb⟩; refine ⟨_, rfl, ?_⟩; have n0_ := YG (Kd.R_lower ho0 (below_size (upB HB))); have n1_ := YG (YD (upB HB) hb); clear HB; have HO154 := n0_; have HB := n1_; clear n0_ n1_; (try clear hb); (try clear hb2); (try clear hk); (try clear hi); (try clear ho0)))
 go_ret
 exact ⟨_, by first | rfl | (simp [errW_none, errW_some] <;> rfl) | (simp [*, errW_none, errW_some] <;> rfl), by (with_reducible repeat (first | apply Kd.R_alloc | apply Kd.R_drewN | apply Kd.R_drew)); exact HO154.out, by repeat (first | (with_reducible first | exact HB.out | apply YA | apply YB | apply YC) | exact HB.out)⟩
end Go.Proofs.Ytclbempnhelmoaa.P
namespace Go.Proofs.Ytclbempnhelmoaa.P
open Go.RowKit YtclbempnhelmoaaW.PrintWords YtclbempnhelmoaaW.PrintLast YtclbempnhelmoaaW.PrintMore
theorem wire_Int_eq (v : Int) : wire_Int.f v = some (intSpec v) := by
 unfold wire_Int.f wire_bytes.f intSpec
 rw [wrap_u64, if_pos (by omega)]
 rfl
end Go.Proofs.Ytclbempnhelmoaa.P
namespace Go.Proofs.Ytclbempnhelmoaa.P
open Go.RowKit YtclbempnhelmoaaW.PrintWords YtclbempnhelmoaaW.PrintLast YtclbempnhelmoaaW.PrintMore
open YtclbempnhelmoaaW.PrintWords renaming below_alloc → YA, pw_below_drewN → YB, below_drew1 → YC, below_step → YD, below_size → YE, blk_drewN → YF, blk_drew → YG, blk_alloc → YH, blk_cell → YI, blk_frozen → YJ, blk_below → YK
open YtclbempnhelmoaaW.PrintWords.Aside0 renaming mk → YL
open List renaming setIfInBounds_toArray → YM, set_cons_zero → YN, set_cons_succ → YO, map_toArray → YP, length_take → YQ, length_drop → YR
open YtclbempnhelmoaaW.PrintWords.Kd renaming R_alloc → YS, R_drewN → YT, R_drew → YU
attribute [local go_sem] max2_int min2_int max_two min_two max_three min_three max_four min_four
def height_Bytes.f (k : Nat) (a0_0 : Bool) (a0_1 : Int) (a0_2 : Int) (a0_3 : Int) (a0_4 : Int) (a0_5 : Int) : Option (List Int × Int) := (height_Check.f k a0_0 a0_1 a0_2 a0_3 a0_4 a0_5).bind fun t156 => (if t156 = 0 then (if a0_0 = true then (if ([] : List Int).length < 140737488355328 then ((some (([] : List Int) ++ [0] : List Int)).bind fun y157 => (if y157.length < 140737488355328 then (some ((y157 ++ [(a0_5) % 256]), 0)) else (none))) else (none)) else (if ([] : List Int).length < 140737488355328 then ((some (([] : List Int) ++ [1] : List Int)).bind fun y163 => ((wire_Int.f a0_1).bind fun t166 => (if y163.length + t166.length < 140737488355328 then ((some (y163 ++ t166 : List Int)).bind fun y169 => ((some (([(a0_2) % 256, (a0_3) % 256] : List Int) : List Int)).bind fun y172 => (if y169.length + y172.length < 140737488355328 then ((some (y169 ++ y172 : List Int)).bind fun y175 => ((wire_Int.f a0_4).bind fun t178 => (if y175.length + t178.length < 140737488355328 then ((some (y175 ++ t178 : List Int)).bind fun y181 => (if y181.length < 140737488355328 then (some ((y181 ++ [(a0_5) % 256]), 0)) else (none))) else (none)))) else (none)))) else (none)))) else (none))) else (some (([] : List Int), t156)))
def height_Bytes.T7 : Bool × List (List Nat × List Nat) := (true, [([], []), ([], []), ([0, 1], [0, 1]), ([], []), ([3], [3]), ([4, 2], [4]), ([2, 5, 5], [2, 5]), ([6, 6, 0, 1, 2, 3, 4, 5, 6], [0, 6])])
def height_Bytes.B7 : List Nat := [0, 0, 3, 0, 8, 31, 63, 127]
theorem height_Bytes.tab7 : rtab .any (opsOf Try.f69 7) = height_Bytes.T7 := by kernel_rfl
theorem height_Bytes.bits7 : waitsOk height_Bytes.T7.2 height_Bytes.B7 = true := by kernel_rfl
def height_Bytes.T8 : Bool × List (List Nat × List Nat) := (true, [([], []), ([], []), ([1], [1]), ([2], [2]), ([], []), ([4], [4]), ([5], [5]), ([3, 6], [3, 6]), ([0, 7], [0, 7]), ([], []), ([9], [9]), ([10, 8], [10]), ([8, 11, 11], [8, 11]), ([12, 12, 0, 1, 2, 3, 4, 5, 6, 7, 8, 9, 10, 11, 12], [0, 12])])
def height_Bytes.B8 : List Nat := [0, 0, 2, 6, 0, 16, 48, 126, 255, 0, 512, 2047, 4095, 8191]
theorem height_Bytes.tab8 : rtab .any (opsOf Try.f69 8) = height_Bytes.T8 := by kernel_rfl
theorem height_Bytes.bits8 : waitsOk height_Bytes.T8.2 height_Bytes.B8 = true := by kernel_rfl
theorem height_Bytes.calls (k : Nat) (a0_0 : Bool) (a0_1 : Int) (a0_2 : Int) (a0_3 : Int) (a0_4 : Int) (a0_5 : Int) (r1 : List Int) (r2 : Int) (w : World) (h : height_Bytes.f k a0_0 a0_1 a0_2 a0_3 a0_4 a0_5 = some (r1, r2)) :
  Calls Try.prog 69 #[.agg #[.bool a0_0, .int .i64 a0_1, .int .i64 a0_2, .int .i64 a0_3, .int .i64 a0_4, .int .i64 a0_5]] w fun e w' => ∃ v0_ : Value, e = .returned (.tuple #[v0_, .int .i64 r2]) ∧ Kd.R (Kd.int .u8) 5 w' w.heap.size (fun _ => True) v0_ r1 ∧ Below w.heap.size w w' := by
 have hu30 := Try.underlying30
 have HB := YL (Below.refl w.heap.size w)
 have H : ((height_Check.f k a0_0 a0_1 a0_2 a0_3 a0_4 a0_5).bind fun t156 => (if t156 = 0 then (if a0_0 = true then (if ([] : List Int).length < 140737488355328 then ((some (([] : List Int) ++ [0] : List Int)).bind fun y157 => (if y157.length < 140737488355328 then (some ((y157 ++ [(a0_5) % 256]), 0)) else (none))) else (none)) else (if ([] : List Int).length < 140737488355328 then ((some (([] : List Int) ++ [1] : List Int)).bind fun y163 => ((wire_Int.f a0_1).bind fun t166 => (if y163.length + t166.length < 140737488355328 then ((some (y163 ++ t166 : List Int)).bind fun y169 => ((some (([(a0_2) % 256, (a0_3) % 256] : List Int) : List Int)).bind fun y172 => (if y169.length + y172.length < 140737488355328 then ((some (y169 ++ y172 : List Int)).bind fun y175 => ((wire_Int.f a0_4).bind fun t178 => (if y175.length + t178.length < 140737488355328 then ((some (y175 ++ t178 : List Int)).bind fun y181 => (if y181.length < 140737488355328 then (some ((y181 ++ [(a0_5) % 256]), 0)) else (none))) else (none)))) else (none)))) else (none)))) else (none))) else (some (([] : List Int), t156)))) = some (r1, r2) := h
 clear h; replace H := Option.bind_eq_some_iff.mp H; obtain ⟨t156, A20, H⟩ := H
 replace H : (if t156 = 0 then (if a0_0 = true then (if ([] : List Int).length < 140737488355328 then ((some (([] : List Int) ++ [0] : List Int)).bind fun y157 => (if y157.length < 140737488355328 then (some ((y157 ++ [(a0_5) % 256]), 0)) else (none))) else (none)) else (if ([] : List Int).length < 140737488355328 then ((some (([] : List Int) ++ [1] : List Int)).bind fun y163 => ((wire_Int.f a0_1).bind fun t166 => (if y163.length + t166.length < 140737488355328 then ((some (y163 ++ t166 : List Int)).bind fun y169 => ((some (([(a0_2) % 256, (a0_3) % 256] : List Int) : List Int)).bind fun y172 => (if y169.length + y172.length < 140737488355328 then ((some (y169 ++ y172 : List Int)).bind fun y175 => ((wire_Int.f a0_4).bind fun t178 => (if y175.length + t178.length < 140737488355328 then ((some (y175 ++ t178 : List Int)).bind fun y181 => (if y181.length < 140737488355328 then (some ((y181 ++ [(a0_5) % 256]), 0)) else (none))) else (none)))) else (none)))) else (none)))) else (none))) else (some (([] : List Int), t156))) = some (r1, r2) := H
 have A2 := YL A20; clear A20
 by_cases c3 : t156 = 0
 ·rw [if_pos c3] at H
  have c3b0 : (t156 == 0) = true := beq_iff_eq.mpr c3
  have c3b1 : (t156 != 0) = false := bne_eq_false_iff_eq.mpr c3
  clear c3
  by_cases c4 : a0_0 = true
  ·subst c4
   have H1 : (if ([] : List Int).length < 140737488355328 then ((some (([] : List Int) ++ [0] : List Int)).bind fun y157 => (if y157.length < 140737488355328 then (some ((y157 ++ [(a0_5) % 256]), 0)) else (none))) else (none)) = some (r1, r2) := by rw [if_pos rfl] at H; exact H
   clear H
   have H := H1
   clear H1
   by_cases c5 : ([] : List Int).length < 140737488355328
   rotate_left
   ·rw [if_neg c5] at H
    exact absurd H (by simp)
   rw [if_pos c5] at H; have LMc5 := YL c5; clear c5
   obtain ⟨y157, hy157⟩ : ∃ y_ : List Int, y_ = (([] : List Int) ++ [0]) := ⟨_, rfl⟩
   replace H : (if y157.length < 140737488355328 then (some ((y157 ++ [(a0_5) % 256]), 0)) else (none)) = some (r1, r2) := by first | (rw [hy157]; with_reducible exact H) | (have H2_ := (Option.bind_some _ _).symm.trans H; rw [hy157]; with_reducible exact H2_) | (have H2_ := (Option.bind_some _ _).symm.trans H; with_reducible exact H2_) | with_reducible exact H | (rw [hy157]; exact H) | exact H
   have Ny157 := YL hy157; clear hy157
   by_cases c6 : y157.length < 140737488355328
   rotate_left
   ·rw [if_neg c6] at H
    exact absurd H (by simp)
   rw [if_pos c6] at H; have LMc6 := YL c6; clear c6
   obtain ⟨y160, hy160⟩ : ∃ y_ : List Int, y_ = (y157 ++ [(a0_5) % 256]) := ⟨_, rfl⟩
   replace H : (some (y160, 0)) = some (r1, r2) := by first | (rw [hy160]; with_reducible exact H) | (have H2_ := (Option.bind_some _ _).symm.trans H; rw [hy160]; with_reducible exact H2_) | (have H2_ := (Option.bind_some _ _).symm.trans H; with_reducible exact H2_) | with_reducible exact H | (rw [hy160]; exact H) | exact H
   have Ny160 := YL hy160; clear hy160
   simp only [Option.some.injEq, Prod.mk.injEq] at H
   obtain ⟨rfl, rfl⟩ := H
   go_enter Try.func69, Try.ntmps69
   go_wp2_with (first | ((with_reducible refine gate_dst (N := 1) rfl ?_); refine box_event ?hg (N := 1) ?hd (cs := #[.bool true, .int .i64 a0_1, .int .i64 a0_2, .int .i64 a0_3, .int .i64 a0_4, .int .i64 a0_5]) (t := 30) ?hr ?_; (case hd => rfl); (case hg => rfl); (case hr => first | (go_simp; done) | (go_simp; rfl)); intro gb155 hg w7 hbox hb; have n0_ := YL (YD (upB HB) hb); have n1_ := YL (hbox); have n2_ := YL ((by rw [hg]; exact (YE (upB HB)) : w.heap.size ≤ gb155)); have n3_ := YL ((by rw [hg]; exact (YE (upB HB)) : w.heap.size ≤ gb155)); clear HB; have HB := n0_; have BK155 := n1_; have GW155 := n2_; have GE155 := n3_; clear n0_ n1_ n2_ n3_; clear hb hbox hg; obtain ⟨q8_0, q8_1, q8_2, q8_3, q8_4, q8_5⟩ := cA6 BK155.out; obtain ⟨f8_0, f8_1, f8_2, f8_3, f8_4, f8_5⟩ := fA6 BK155.out) | ((with_reducible refine gate_callee (f := 48) rfl ?_); refine goesA (some 7) Try.func48 #[.agg #[.bool true, .int .i64 a0_1, .int .i64 a0_2, .int .i64 a0_3, .int .i64 a0_4, .int .i64 a0_5]] ?_; (with_reducible refine (height_Check.calls k true a0_1 a0_2 a0_3 a0_4 a0_5 t156 _ A2.out).mono ?_); rintro e w9 ⟨rfl, hb⟩; refine ⟨_, rfl, ?_⟩; have n0_ := YL (YK (g := gb155) (o := .cells #[.bool true, .int .i64 a0_1, .int .i64 a0_2, .int .i64 a0_3, .int .i64 a0_4, .int .i64 a0_5] 30 (0, 0)) (upK BK155) hb); have n1_ := YL (YD (upB HB) hb); clear BK155; clear HB; have BK155 := n0_; have HB := n1_; clear n0_ n1_; (try clear hb); (try clear hb2); (try clear hk); (try clear hi); obtain ⟨q10_0, q10_1, q10_2, q10_3, q10_4, q10_5⟩ := cA6 BK155.out; obtain ⟨f10_0, f10_1, f10_2, f10_3, f10_4, f10_5⟩ := fA6 BK155.out) | ((with_reducible refine gate_builtin (b := .append) (xs := #[.tmp 13, .tmp 14]) rfl ?_); at_builtin; refine Kd.R_append (Kd.int .u8) (w0 := w) w.heap.size rfl (.tmp 13) (.tmp 14) 107 5 (.int .u8 0) 1 rfl Try.underlying107 info5 rfl (by decide) (by omega) (.slice none 0 0) ([] : List Int) 0 [.int .u8 0] (fun _ => True) (fun _ => False) rfl rfl ?aP (fun _ hk => hk.elim) ?aF ?aO ?aB ?aS ?aL ?_; (case aP => exact rfl); (case aB => exact (upB HB)); (case aF => exact (fun _ _ => trivial)); (case aO => exact ((Kd.R_nil _ _ _ _ (fun _ => True)))); (case aS => exact (YE (upB HB))); (case aL => have := LMc5.out; omega); intro v158 w11 ho hb hg hat; rw [← Ny157.out] at ho; have n0_ := YL (blk_grown (g := gb155) (o := .cells #[.bool true, .int .i64 a0_1, .int .i64 a0_2, .int .i64 a0_3, .int .i64 a0_4, .int .i64 a0_5] 30 (0, 0)) (upK BK155) hg (by simp [Value.ownBlock])); have n1_ := YL (hb); have n2_ := YL (ho); clear BK155; clear HB; have BK155 := n0_; have HB := n1_; have HO159 := n2_; clear n0_ n1_ n2_; clear ho hb hg hat; obtain ⟨q12_0, q12_1, q12_2, q12_3, q12_4, q12_5⟩ := cA6 BK155.out; obtain ⟨f12_0, f12_1, f12_2, f12_3, f12_4, f12_5⟩ := fA6 BK155.out) | ((with_reducible refine gate_builtin (b := .append) (xs := #[.tmp 36, .tmp 40]) rfl ?_); at_builtin; refine Kd.R_append (Kd.int .u8) (w0 := w) w.heap.size rfl (.tmp 36) (.tmp 40) 107 5 (.int .u8 0) 1 rfl Try.underlying107 info5 rfl (by decide) (by omega) v158 y157 ((a0_5) % 256) [.int .u8 ((a0_5) % 256)] (fun _ => True) (fun _ => False) rfl rfl ?aP (fun _ hk => hk.elim) ?aF ?aO ?aB ?aS ?aL ?_; (case aP => exact rfl); (case aB => exact (upB HB)); (case aF => exact (fun _ _ => trivial)); (case aO => exact (upR HO159)); (case aS => exact (YE (upB HB))); (case aL => have := LMc6.out; omega); intro v161 w13 ho hb hg hat; rw [← Ny160.out] at ho; have n0_ := YL (blk_grown (g := gb155) (o := .cells #[.bool true, .int .i64 a0_1, .int .i64 a0_2, .int .i64 a0_3, .int .i64 a0_4, .int .i64 a0_5] 30 (0, 0)) (upK BK155) hg (Kd.R_ne HO159.out BK155.out (by decide))); have n1_ := YL (hb); have n2_ := YL (ho); clear BK155; clear HB; clear HO159; have BK155 := n0_; have HB := n1_; have HO162 := n2_; clear n0_ n1_ n2_; clear ho hb hg hat))
   go_ret2
   exact ⟨_, by first | rfl | (simp [errW_none, errW_some] <;> rfl) | (simp [*, errW_none, errW_some] <;> rfl), by (with_reducible repeat (first | apply YS | apply YT | apply YU)); exact HO162.out, by repeat (first | (with_reducible first | exact HB.out | apply YA | apply YB | apply YC | refine below_set ?_ GE155.out) | exact HB.out)⟩
  replace c4 := Bool.eq_false_iff.mpr c4
  subst c4
  have H1 : (if ([] : List Int).length < 140737488355328 then ((some (([] : List Int) ++ [1] : List Int)).bind fun y163 => ((wire_Int.f a0_1).bind fun t166 => (if y163.length + t166.length < 140737488355328 then ((some (y163 ++ t166 : List Int)).bind fun y169 => ((some (([(a0_2) % 256, (a0_3) % 256] : List Int) : List Int)).bind fun y172 => (if y169.length + y172.length < 140737488355328 then ((some (y169 ++ y172 : List Int)).bind fun y175 => ((wire_Int.f a0_4).bind fun t178 => (if y175.length + t178.length < 140737488355328 then ((some (y175 ++ t178 : List Int)).bind fun y181 => (if y181.length < 140737488355328 then (some ((y181 ++ [(a0_5) % 256]), 0)) else (none))) else (none)))) else (none)))) else (none)))) else (none)) = some (r1, r2) := by rw [if_neg (show ¬ (false = true) by decide)] at H; exact H
  clear H
  have H := H1
  clear H1
  by_cases c14 : ([] : List Int).length < 140737488355328
  rotate_left
  ·rw [if_neg c14] at H
   exact absurd H (by simp)
  rw [if_pos c14] at H; have LMc14 := YL c14; clear c14
  obtain ⟨y163, hy163⟩ : ∃ y_ : List Int, y_ = (([] : List Int) ++ [1]) := ⟨_, rfl⟩
  replace H : ((wire_Int.f a0_1).bind fun t166 => (if y163.length + t166.length < 140737488355328 then ((some (y163 ++ t166 : List Int)).bind fun y169 => ((some (([(a0_2) % 256, (a0_3) % 256] : List Int) : List Int)).bind fun y172 => (if y169.length + y172.length < 140737488355328 then ((some (y169 ++ y172 : List Int)).bind fun y175 => ((wire_Int.f a0_4).bind fun t178 => (if y175.length + t178.length < 140737488355328 then ((some (y175 ++ t178 : List Int)).bind fun y181 => (if y181.length < 140737488355328 then (some ((y181 ++ [(a0_5) % 256]), 0)) else (none))) else (none)))) else (none)))) else (none))) = some (r1, r2) := by first | (rw [hy163]; with_reducible exact H) | (have H2_ := (Option.bind_some _ _).symm.trans H; rw [hy163]; with_reducible exact H2_) | (have H2_ := (Option.bind_some _ _).symm.trans H; with_reducible exact H2_) | with_reducible exact H | (rw [hy163]; exact H) | exact H
  have Ny163 := YL hy163; clear hy163; replace H := Option.bind_eq_some_iff.mp H; obtain ⟨t166, A150, H⟩ := H
  replace H : (if y163.length + t166.length < 140737488355328 then ((some (y163 ++ t166 : List Int)).bind fun y169 => ((some (([(a0_2) % 256, (a0_3) % 256] : List Int) : List Int)).bind fun y172 => (if y169.length + y172.length < 140737488355328 then ((some (y169 ++ y172 : List Int)).bind fun y175 => ((wire_Int.f a0_4).bind fun t178 => (if y175.length + t178.length < 140737488355328 then ((some (y175 ++ t178 : List Int)).bind fun y181 => (if y181.length < 140737488355328 then (some ((y181 ++ [(a0_5) % 256]), 0)) else (none))) else (none)))) else (none)))) else (none)) = some (r1, r2) := H
  have A15 := YL A150; clear A150
  by_cases c16 : y163.length + t166.length < 140737488355328
  rotate_left
  ·rw [if_neg c16] at H
   exact absurd H (by simp)
  rw [if_pos c16] at H; have LMc16 := YL c16; clear c16
  obtain ⟨y169, hy169⟩ : ∃ y_ : List Int, y_ = (y163 ++ t166) := ⟨_, rfl⟩
  replace H : ((some (([(a0_2) % 256, (a0_3) % 256] : List Int) : List Int)).bind fun y172 => (if y169.length + y172.length < 140737488355328 then ((some (y169 ++ y172 : List Int)).bind fun y175 => ((wire_Int.f a0_4).bind fun t178 => (if y175.length + t178.length < 140737488355328 then ((some (y175 ++ t178 : List Int)).bind fun y181 => (if y181.length < 140737488355328 then (some ((y181 ++ [(a0_5) % 256]), 0)) else (none))) else (none)))) else (none))) = some (r1, r2) := by first | (rw [hy169]; with_reducible exact H) | (have H2_ := (Option.bind_some _ _).symm.trans H; rw [hy169]; with_reducible exact H2_) | (have H2_ := (Option.bind_some _ _).symm.trans H; with_reducible exact H2_) | with_reducible exact H | (rw [hy169]; exact H) | exact H
  have Ny169 := YL hy169; clear hy169
  obtain ⟨y172, hy172⟩ : ∃ y_ : List Int, y_ = (([(a0_2) % 256, (a0_3) % 256] : List Int)) := ⟨_, rfl⟩
  replace H : (if y169.length + y172.length < 140737488355328 then ((some (y169 ++ y172 : List Int)).bind fun y175 => ((wire_Int.f a0_4).bind fun t178 => (if y175.length + t178.length < 140737488355328 then ((some (y175 ++ t178 : List Int)).bind fun y181 => (if y181.length < 140737488355328 then (some ((y181 ++ [(a0_5) % 256]), 0)) else (none))) else (none)))) else (none)) = some (r1, r2) := by first | (rw [hy172]; with_reducible exact H) | (have H2_ := (Option.bind_some _ _).symm.trans H; rw [hy172]; with_reducible exact H2_) | (have H2_ := (Option.bind_some _ _).symm.trans H; with_reducible exact H2_) | with_reducible exact H | (rw [hy172]; exact H) | exact H
  have Ny172 := YL hy172; clear hy172
  by_cases c17 : y169.length + y172.length < 140737488355328
  rotate_left
  ·rw [if_neg c17] at H
   exact absurd H (by simp)
  rw [if_pos c17] at H; have LMc17 := YL c17; clear c17
  obtain ⟨y175, hy175⟩ : ∃ y_ : List Int, y_ = (y169 ++ y172) := ⟨_, rfl⟩
  replace H : ((wire_Int.f a0_4).bind fun t178 => (if y175.length + t178.length < 140737488355328 then ((some (y175 ++ t178 : List Int)).bind fun y181 => (if y181.length < 140737488355328 then (some ((y181 ++ [(a0_5) % 256]), 0)) else (none))) else (none))) = some (r1, r2) := by first | (rw [hy175]; with_reducible exact H) | (have H2_ := (Option.bind_some _ _).symm.trans H; rw [hy175]; with_reducible exact H2_) | (have H2_ := (Option.bind_some _ _).symm.trans H; with_reducible exact H2_) | with_reducible exact H | (rw [hy175]; exact H) | exact H
  have Ny175 := YL hy175; clear hy175; replace H := Option.bind_eq_some_iff.mp H; obtain ⟨t178, A180, H⟩ := H
  replace H : (if y175.length + t178.length < 140737488355328 then ((some (y175 ++ t178 : List Int)).bind fun y181 => (if y181.length < 140737488355328 then (some ((y181 ++ [(a0_5) % 256]), 0)) else (none))) else (none)) = some (r1, r2) := H
  have A18 := YL A180; clear A180
  by_cases c19 : y175.length + t178.length < 140737488355328
  rotate_left
  ·rw [if_neg c19] at H
   exact absurd H (by simp)
  rw [if_pos c19] at H; have LMc19 := YL c19; clear c19
  obtain ⟨y181, hy181⟩ : ∃ y_ : List Int, y_ = (y175 ++ t178) := ⟨_, rfl⟩
  replace H : (if y181.length < 140737488355328 then (some ((y181 ++ [(a0_5) % 256]), 0)) else (none)) = some (r1, r2) := by first | (rw [hy181]; with_reducible exact H) | (have H2_ := (Option.bind_some _ _).symm.trans H; rw [hy181]; with_reducible exact H2_) | (have H2_ := (Option.bind_some _ _).symm.trans H; with_reducible exact H2_) | with_reducible exact H | (rw [hy181]; exact H) | exact H
  have Ny181 := YL hy181; clear hy181
  by_cases c20 : y181.length < 140737488355328
  rotate_left
  ·rw [if_neg c20] at H
   exact absurd H (by simp)
  rw [if_pos c20] at H; have LMc20 := YL c20; clear c20
  obtain ⟨y184, hy184⟩ : ∃ y_ : List Int, y_ = (y181 ++ [(a0_5) % 256]) := ⟨_, rfl⟩
  replace H : (some (y184, 0)) = some (r1, r2) := by first | (rw [hy184]; with_reducible exact H) | (have H2_ := (Option.bind_some _ _).symm.trans H; rw [hy184]; with_reducible exact H2_) | (have H2_ := (Option.bind_some _ _).symm.trans H; with_reducible exact H2_) | with_reducible exact H | (rw [hy184]; exact H) | exact H
  have Ny184 := YL hy184; clear hy184
  simp only [Option.some.injEq, Prod.mk.injEq] at H
  obtain ⟨rfl, rfl⟩ := H
  go_enter Try.func69, Try.ntmps69
  try go_wp2_with (first | ((with_reducible refine gate_dst (N := 1) rfl ?_); refine box_event ?hg (N := 1) ?hd (cs := #[.bool false, .int .i64 a0_1, .int .i64 a0_2, .int .i64 a0_3, .int .i64 a0_4, .int .i64 a0_5]) (t := 30) ?hr ?_; (case hd => rfl); (case hg => rfl); (case hr => first | (go_simp; done) | (go_simp; rfl)); intro gb155 hg w21 hbox hb; have n0_ := YL (YD (upB HB) hb); have n1_ := YL (hbox); have n2_ := YL ((by rw [hg]; exact (YE (upB HB)) : w.heap.size ≤ gb155)); have n3_ := YL ((by rw [hg]; exact (YE (upB HB)) : w.heap.size ≤ gb155)); clear HB; have HB := n0_; have BK155 := n1_; have GW155 := n2_; have GE155 := n3_; clear n0_ n1_ n2_ n3_; clear hb hbox hg; obtain ⟨q22_0, q22_1, q22_2, q22_3, q22_4, q22_5⟩ := cA6 BK155.out; obtain ⟨f22_0, f22_1, f22_2, f22_3, f22_4, f22_5⟩ := fA6 BK155.out) | ((with_reducible refine gate_callee (f := 48) rfl ?_); refine goesA (some 7) Try.func48 #[.agg #[.bool false, .int .i64 a0_1, .int .i64 a0_2, .int .i64 a0_3, .int .i64 a0_4, .int .i64 a0_5]] ?_; (with_reducible refine (height_Check.calls k false a0_1 a0_2 a0_3 a0_4 a0_5 t156 _ A2.out).mono ?_); rintro e w23 ⟨rfl, hb⟩; refine ⟨_, rfl, ?_⟩; have n0_ := YL (YK (g := gb155) (o := .cells #[.bool false, .int .i64 a0_1, .int .i64 a0_2, .int .i64 a0_3, .int .i64 a0_4, .int .i64 a0_5] 30 (0, 0)) (upK BK155) hb); have n1_ := YL (YD (upB HB) hb); clear BK155; clear HB; have BK155 := n0_; have HB := n1_; clear n0_ n1_; (try clear hb); (try clear hb2); (try clear hk); (try clear hi); obtain ⟨q24_0, q24_1, q24_2, q24_3, q24_4, q24_5⟩ := cA6 BK155.out; obtain ⟨f24_0, f24_1, f24_2, f24_3, f24_4, f24_5⟩ := fA6 BK155.out))
  have n0_ := YL (YG BK155.out)
  have n1_ := YL (YC HB.out)
  clear BK155; clear HB; have BK155 := n0_; have HB := n1_; clear n0_ n1_
  refine start_ (n := 8) (S := fun w' => w'.cell? ⟨gb155, 0, none⟩ = some (.bool false) ∧ w'.cell? ⟨gb155, 1, none⟩ = some (.int .i64 a0_1) ∧ w'.cell? ⟨gb155, 2, none⟩ = some (.int .i64 a0_2) ∧ w'.cell? ⟨gb155, 3, none⟩ = some (.int .i64 a0_3) ∧ w'.cell? ⟨gb155, 4, none⟩ = some (.int .i64 a0_4) ∧ w'.cell? ⟨gb155, 5, none⟩ = some (.int .i64 a0_5)) (ds := []) #[false, false, false, false, false, false, false, false] (by kernel_rfl) rfl rfl ⟨(YI BK155.out 0).trans rfl, (YI BK155.out 1).trans rfl, (YI BK155.out 2).trans rfl, (YI BK155.out 3).trans rfl, (YI BK155.out 4).trans rfl, (YI BK155.out 5).trans rfl⟩ (fun hHeld => ?_); refine with_tabW height_Bytes.tab7 height_Bytes.bits7 (fun HT_ HW_ => ?_)
  generalize w23.drew = w25 at BK155 HB hHeld ⊢
  refine pure_ (i := 0) (N := some 16) (v := ?_) (a' := ?_) #[true, false, false, false, false, false, false, false] rfl rfl (any_of HT_.out (by kernel_rfl)) (fun _ _ _ h => h) (Or.inl ⟨by rfl, ?_⟩) ?_ ?_
  rotate_left
  ·intro w'
   go_simp; with_reducible rfl
  rotate_left
  ·simp only [Act.put, YM, YN, YO, i64_w, i32_w]
   rfl
  refine pure_ (i := 3) (N := some 19) (v := ?_) (a' := ?_) #[true, false, false, true, false, false, false, false] rfl rfl (any_of HT_.out (by kernel_rfl)) (fun _ _ _ h => h) (Or.inl ⟨by rfl, ?_⟩) ?_ ?_
  rotate_left
  ·intro w'
   go_simp; with_reducible rfl
  rotate_left
  ·simp only [Act.put, YM, YN, YO, i64_w, i32_w]
   rfl
  refine take_ (i := 4) (N := some 20) (v := ?_) (a' := ?_) #[true, false, false, true, true, false, false, false] rfl rfl (take_ofW HT_.out HW_.out (by kernel_rfl)) (fun _ _ _ h => h) (Or.inl ⟨by rfl, ?_⟩) hHeld ?_ ?_
  rotate_left
  ·rintro w' ⟨s0, s1, s2, s3, s4, s5⟩
   go_simp; with_reducible rfl
  rotate_left
  ·simp only [Act.put, YM, YN, YO, i64_w, i32_w]
   rfl
  refine oneA (i := 1) (N := some 17) HT_ (fun K hK => ?_)
  refine value_ (w1 := ?_) (v := ?_) (by rfl) rfl ?_ ?_
  rotate_left 2
  ·go_simp
   constructor
   ·rfl
   rfl
  refine hK.out _ _ ⟨(YI (YH BK155.out _) 0).trans rfl, (YI (YH BK155.out _) 1).trans rfl, (YI (YH BK155.out _) 2).trans rfl, (YI (YH BK155.out _) 3).trans rfl, (YI (YH BK155.out _) 4).trans rfl, (YI (YH BK155.out _) 5).trans rfl⟩ (fun hHeld => ?_)
  clear hK K
  refine normA (N := 17) ?_
  refine oneA (i := 2) (N := some 18) HT_ (fun K hK => ?_)
  refine Kd.R_append_step (Kd.int .u8) (w0 := w) w.heap.size (by rfl) (.tmp 16) (.tmp 17) 107 5 (.int .u8 0) 1 rfl Try.underlying107 info5 rfl (by decide) (by omega) (.slice none 0 0) ([] : List Int) 1 [.int .u8 1] (fun _ => True) (fun _ => False) rfl rfl ?aP (fun _ hk => hk.elim) ?aF ?aO ?aB ?aS ?aL ?_
  (case aP => exact rfl)
  (case aB => exact (upB HB))
  (case aF => exact (fun _ _ => trivial))
  (case aO => exact ((Kd.R_nil _ _ _ _ (fun _ => True))))
  (case aS => exact (YE (upB HB)))
  (case aL => have := LMc14.out; omega)
  intro v164 w26 ho hb hg hat
  rw [← Ny163.out] at ho
  have n0_ := YL (blk_grown (g := gb155) (o := .cells #[.bool false, .int .i64 a0_1, .int .i64 a0_2, .int .i64 a0_3, .int .i64 a0_4, .int .i64 a0_5] 30 (0, 0)) (upK BK155) hg (by simp [Value.ownBlock]))
  have n1_ := YL (hb)
  have n2_ := YL (ho)
  clear BK155; clear HB; have BK155 := n0_; have HB := n1_; have HO165 := n2_; clear n0_ n1_ n2_; clear ho hb hg hat
  refine hK.out _ _ ⟨(YI BK155.out 0).trans rfl, (YI BK155.out 1).trans rfl, (YI BK155.out 2).trans rfl, (YI BK155.out 3).trans rfl, (YI BK155.out 4).trans rfl, (YI BK155.out 5).trans rfl⟩ (fun hHeld => ?_)
  clear hK K
  refine normA (N := 18) ?_
  refine oneA (i := 5) (N := some 21) HT_ (fun K hK => ?_)
  refine goes_ Try.func70 (by kernel_rfl) rfl #[.int .i64 a0_1] (by rfl) rfl rfl (by (try simp only [YP, List.map_cons, List.map_nil]); first | done | rfl | (simp only [YR, YQ]; rfl)) ?_
  with_reducible refine (wire_Int.calls a0_1 t166 _ A15.out).mono ?_
  rintro e w27 ⟨v167, rfl, ho0, hb⟩
  refine ⟨_, rfl, ?_⟩
  have n0_ := YL (Kd.R_elder' (upR HO165) (Kd.R_base ho0) hb)
  have n1_ := YL (Kd.R_lower (Kd.R_new' ho0 (Kd.R_lt (upR HO165))) (YE (upB HB)))
  have n2_ := YL (YK (g := gb155) (o := .cells #[.bool false, .int .i64 a0_1, .int .i64 a0_2, .int .i64 a0_3, .int .i64 a0_4, .int .i64 a0_5] 30 (0, 0)) (upK BK155) hb)
  have n3_ := YL (YD (upB HB) hb)
  clear HO165; clear BK155; clear HB; have HO165 := n0_; have HO168 := n1_; have BK155 := n2_; have HB := n3_; clear n0_ n1_ n2_ n3_; (try clear hb); (try clear hb2); (try clear hk); (try clear hi); (try clear ho0)
  obtain ⟨Ao29, co29, eo29⟩ := Kd.R_slice HO168.out
  (first | subst eo29 | (injection eo29 with f1_ f2_ f3_; have f4_ := f1_.symm; have f5_ := f3_.symm; clear f1_ f2_ f3_; subst f4_; subst f5_))
  refine hK.out _ _ ⟨(YI BK155.out 0).trans rfl, (YI BK155.out 1).trans rfl, (YI BK155.out 2).trans rfl, (YI BK155.out 3).trans rfl, (YI BK155.out 4).trans rfl, (YI BK155.out 5).trans rfl⟩ (fun hHeld => ?_)
  clear hK K
  refine normA (N := 21) ?_
  refine oneA (i := 6) (N := some 22) HT_ (fun K hK => ?_)
  refine Kd.R_append_rows_step (Kd.int .u8) (w0 := w) w.heap.size (by rfl) (.tmp 18) (.tmp 21) 107 5 (.int .u8 0) 1 rfl Try.underlying107 info5 rfl (by decide) (by omega) v164 y163 t166 _ _ _ (fun k_ => some k_ ≠ (.slice Ao29 t166.length co29 : Value).ownBlock) (fun _ => False) rfl rfl ?aO ?aR (fun _ _ h => h) (fun _ h => h.elim) ?aF ?aB ?aS ?aL ?_
  (case aR => repeat (first | exact (Kd.R_reads' HO168.out).2.2 | (with_reducible refine Kd.C_alloc ?_ _) | (with_reducible refine Kd.C_drewN ?_ _) | (with_reducible refine Kd.C_drew ?_)))
  (case aB => exact (upB HB))
  (case aF => exact (fun k_ hk => Kd.fresh' (Kd.R_lt (upR HO168)) k_ hk))
  (case aO => exact (by (with_reducible repeat (first | apply YS | apply YT | apply YU)); exact Kd.R_mono HO165.out (fun _ hk => by first | exact hk.2 | exact trivial | (simp [hk]; done) | simp_all)))
  (case aS => exact (YE (upB HB)))
  (case aL => have := LMc16.out; omega)
  intro v170 w28 ho hb hg hat
  rw [← Ny169.out] at ho
  have n0_ := YL (blk_grown (g := gb155) (o := .cells #[.bool false, .int .i64 a0_1, .int .i64 a0_2, .int .i64 a0_3, .int .i64 a0_4, .int .i64 a0_5] 30 (0, 0)) (upK BK155) hg (Kd.R_ne HO165.out BK155.out (by decide)))
  have n1_ := YL (Kd.R_after (ok := (fun _ => True)) (upR HO168) hg hat)
  have n2_ := YL (hb)
  have n3_ := YL (ho)
  clear BK155; clear HO168; clear HB; clear HO165; have BK155 := n0_; have HO168 := n1_; have HB := n2_; have HO171 := n3_; clear n0_ n1_ n2_ n3_; clear ho hb hg hat
  refine hK.out _ _ ⟨(YI BK155.out 0).trans rfl, (YI BK155.out 1).trans rfl, (YI BK155.out 2).trans rfl, (YI BK155.out 3).trans rfl, (YI BK155.out 4).trans rfl, (YI BK155.out 5).trans rfl⟩ (fun hHeld => ?_)
  clear hK K
  refine normA (N := 22) ?_
  refine pure_ (i := 7) (N := some 5) (v := ?_) (a' := ?_) #[true, true, true, true, true, true, true, true] rfl rfl (any_of HT_.out (by kernel_rfl)) (fun _ _ _ h => h) (Or.inl ⟨by rfl, ?_⟩) ?_ ?_
  rotate_left
  ·intro w'
   go_simp; with_reducible rfl
  rotate_left
  ·simp only [Act.put, YM, YN, YO, i64_w, i32_w]
   rfl
  refine done_ (done_of HT_.out (by kernel_rfl)) ?_
  try go_wp2
  have n0_ := YL (YU HO168.out)
  have n1_ := YL (YU HO171.out)
  have n2_ := YL (YG BK155.out)
  have n3_ := YL (YC HB.out)
  clear HO168; clear HO171; clear BK155; clear HB; have HO168 := n0_; have HO171 := n1_; have BK155 := n2_; have HB := n3_; clear n0_ n1_ n2_ n3_
  refine start_ (n := 14) (S := fun w' => w'.cell? ⟨gb155, 0, none⟩ = some (.bool false) ∧ w'.cell? ⟨gb155, 1, none⟩ = some (.int .i64 a0_1) ∧ w'.cell? ⟨gb155, 2, none⟩ = some (.int .i64 a0_2) ∧ w'.cell? ⟨gb155, 3, none⟩ = some (.int .i64 a0_3) ∧ w'.cell? ⟨gb155, 4, none⟩ = some (.int .i64 a0_4) ∧ w'.cell? ⟨gb155, 5, none⟩ = some (.int .i64 a0_5)) (ds := []) #[false, false, false, false, false, false, false, false, false, false, false, false, false, false] (by kernel_rfl) rfl rfl ⟨(YI BK155.out 0).trans rfl, (YI BK155.out 1).trans rfl, (YI BK155.out 2).trans rfl, (YI BK155.out 3).trans rfl, (YI BK155.out 4).trans rfl, (YI BK155.out 5).trans rfl⟩ (fun hHeld => ?_); refine with_tabW height_Bytes.tab8 height_Bytes.bits8 (fun HT_ HW_ => ?_)
  generalize w28.drew = w30 at HO168 HO171 BK155 HB hHeld ⊢
  refine pure_ (i := 0) (N := some 23) (v := ?_) (a' := ?_) #[true, false, false, false, false, false, false, false, false, false, false, false, false, false] rfl rfl (any_of HT_.out (by kernel_rfl)) (fun _ _ _ h => h) (Or.inl ⟨by rfl, ?_⟩) ?_ ?_
  rotate_left
  ·intro w'
   go_simp; with_reducible rfl
  rotate_left
  ·simp only [Act.put, YM, YN, YO, i64_w, i32_w]
   rfl
  refine pure_ (i := 1) (N := some 24) (v := ?_) (a' := ?_) #[true, true, false, false, false, false, false, false, false, false, false, false, false, false] rfl rfl (any_of HT_.out (by kernel_rfl)) (fun _ _ _ h => h) (Or.inl ⟨by rfl, ?_⟩) ?_ ?_
  rotate_left
  ·intro w'
   go_simp; with_reducible rfl
  rotate_left
  ·simp only [Act.put, YM, YN, YO, i64_w, i32_w]
   rfl
  refine pure_ (i := 4) (N := some 27) (v := ?_) (a' := ?_) #[true, true, false, false, true, false, false, false, false, false, false, false, false, false] rfl rfl (any_of HT_.out (by kernel_rfl)) (fun _ _ _ h => h) (Or.inl ⟨by rfl, ?_⟩) ?_ ?_
  rotate_left
  ·intro w'
   go_simp; with_reducible rfl
  rotate_left
  ·simp only [Act.put, YM, YN, YO, i64_w, i32_w]
   rfl
  refine pure_ (i := 9) (N := some 32) (v := ?_) (a' := ?_) #[true, true, false, false, true, false, false, false, false, true, false, false, false, false] rfl rfl (any_of HT_.out (by kernel_rfl)) (fun _ _ _ h => h) (Or.inl ⟨by rfl, ?_⟩) ?_ ?_
  rotate_left
  ·intro w'
   go_simp; with_reducible rfl
  rotate_left
  ·simp only [Act.put, YM, YN, YO, i64_w, i32_w]
   rfl
  refine take_ (i := 2) (N := some 25) (v := ?_) (a' := ?_) #[true, true, true, false, true, false, false, false, false, true, false, false, false, false] rfl rfl (take_ofW HT_.out HW_.out (by kernel_rfl)) (fun _ _ _ h => h) (Or.inl ⟨by rfl, ?_⟩) hHeld ?_ ?_
  rotate_left
  ·rintro w' ⟨s0, s1, s2, s3, s4, s5⟩
   go_simp; with_reducible rfl
  rotate_left
  ·simp only [Act.put, YM, YN, YO, i64_w, i32_w]
   rfl
  refine pure_ (i := 3) (N := some 26) (v := ?_) (a' := ?_) #[true, true, true, true, true, false, false, false, false, true, false, false, false, false] rfl rfl (any_of HT_.out (by kernel_rfl)) (fun _ _ _ h => h) (Or.inl ⟨by rfl, ?_⟩) ?_ ?_
  rotate_left
  ·intro w'
   go_simp; with_reducible rfl
  rotate_left
  ·simp only [Act.put, YM, YN, YO, i64_w, i32_w]
   rfl
  refine take_ (i := 5) (N := some 28) (v := ?_) (a' := ?_) #[true, true, true, true, true, true, false, false, false, true, false, false, false, false] rfl rfl (take_ofW HT_.out HW_.out (by kernel_rfl)) (fun _ _ _ h => h) (Or.inl ⟨by rfl, ?_⟩) hHeld ?_ ?_
  rotate_left
  ·rintro w' ⟨s0, s1, s2, s3, s4, s5⟩
   go_simp; with_reducible rfl
  rotate_left
  ·simp only [Act.put, YM, YN, YO, i64_w, i32_w]
   rfl
  refine pure_ (i := 6) (N := some 29) (v := ?_) (a' := ?_) #[true, true, true, true, true, true, true, false, false, true, false, false, false, false] rfl rfl (any_of HT_.out (by kernel_rfl)) (fun _ _ _ h => h) (Or.inl ⟨by rfl, ?_⟩) ?_ ?_
  rotate_left
  ·intro w'
   go_simp; with_reducible rfl
  rotate_left
  ·simp only [Act.put, YM, YN, YO, i64_w, i32_w]
   rfl
  refine take_ (i := 10) (N := some 33) (v := ?_) (a' := ?_) #[true, true, true, true, true, true, true, false, false, true, true, false, false, false] rfl rfl (take_ofW HT_.out HW_.out (by kernel_rfl)) (fun _ _ _ h => h) (Or.inl ⟨by rfl, ?_⟩) hHeld ?_ ?_
  rotate_left
  ·rintro w' ⟨s0, s1, s2, s3, s4, s5⟩
   go_simp; with_reducible rfl
  rotate_left
  ·simp only [Act.put, YM, YN, YO, i64_w, i32_w]
   rfl
  refine oneA (i := 7) (N := some 30) HT_ (fun K hK => ?_)
  refine Kd.R_lit_step (Kd.int .u8) _ 5 ?hg (N := 30) ?hd (xs := ([(a0_2) % 256, (a0_3) % 256] : List Int)) (inner := [.int .u8 ((a0_2) % 256), .int .u8 ((a0_3) % 256)]) (ok := fun _ => True) (okp := fun _ => True) ?hr ?hp (fun _ hk => hk) trivial (Below.refl _ _) (Nat.le_refl _) (by simp) ?_; (case hd => rfl); (case hg => rfl); (case hr => first | (go_simp; done) | (go_simp; rfl)); (case hp => exact (Reps.one (show Kd.M (Kd.int .u8) _ _ _ ((a0_2) % 256) [.int .u8 ((a0_2) % 256)] from rfl) (Reps.one (show Kd.M (Kd.int .u8) _ _ _ ((a0_3) % 256) [.int .u8 ((a0_3) % 256)] from rfl) (Reps.none _ _))))
  intro v173 w31 ho32 hb hg_ hnew_
  clear hg_ hnew_
  (first | rw [← Ny172.out] at ho32 | (simp only [Int.reduceToNat] at ho32; rw [← Ny172.out] at ho32))
  have n0_ := YL (Kd.R_elder' (upR HO168) (Kd.R_base ho32) hb)
  have n1_ := YL (Kd.R_elder' (upR HO171) (Kd.R_base ho32) hb)
  have n2_ := YL (Kd.R_lower (Kd.R_new' (Kd.R_new' ho32 (Kd.R_lt (upR HO168))) (Kd.R_lt (upR HO171))) (YE (upB HB)))
  have n3_ := YL (YK (g := gb155) (o := .cells #[.bool false, .int .i64 a0_1, .int .i64 a0_2, .int .i64 a0_3, .int .i64 a0_4, .int .i64 a0_5] 30 (0, 0)) (upK BK155) hb)
  have n4_ := YL (YD (upB HB) hb)
  clear HO168; clear HO171; clear BK155; clear HB; have HO168 := n0_; have HO171 := n1_; have HO174 := n2_; have BK155 := n3_; have HB := n4_; clear n0_ n1_ n2_ n3_ n4_; clear hb ho32
  obtain ⟨Ao34, co34, eo34⟩ := Kd.R_slice HO174.out
  (first | subst eo34 | (injection eo34 with f1_ f2_ f3_; have f4_ := f1_.symm; have f5_ := f3_.symm; clear f1_ f2_ f3_; subst f4_; subst f5_))
  refine hK.out _ _ ⟨(YI BK155.out 0).trans rfl, (YI BK155.out 1).trans rfl, (YI BK155.out 2).trans rfl, (YI BK155.out 3).trans rfl, (YI BK155.out 4).trans rfl, (YI BK155.out 5).trans rfl⟩ (fun hHeld => ?_)
  clear hK K
  refine normA (N := 30) ?_
  refine oneA (i := 8) (N := some 31) HT_ (fun K hK => ?_)
  refine Kd.R_append_rows_step (Kd.int .u8) (w0 := w) w.heap.size (by rfl) (.tmp 23) (.tmp 30) 107 5 (.int .u8 0) 1 rfl Try.underlying107 info5 rfl (by decide) (by omega) v170 y169 y172 _ _ _ (fun k_ => some k_ ≠ (.slice Ao29 t166.length co29 : Value).ownBlock ∧ some k_ ≠ (.slice Ao34 y172.length co34 : Value).ownBlock) (fun _ => False) rfl rfl ?aO ?aR (fun _ _ h => h) (fun _ h => h.elim) ?aF ?aB ?aS ?aL ?_
  (case aR => repeat (first | exact (Kd.R_reads' HO174.out).2.2 | (with_reducible refine Kd.C_alloc ?_ _) | (with_reducible refine Kd.C_drewN ?_ _) | (with_reducible refine Kd.C_drew ?_)))
  (case aB => exact (upB HB))
  (case aF => exact (fun k_ hk => ⟨Kd.fresh' (Kd.R_lt (upR HO168)) k_ hk, Kd.fresh' (Kd.R_lt (upR HO174)) k_ hk⟩))
  (case aO => exact (upR HO171))
  (case aS => exact (YE (upB HB)))
  (case aL => have := LMc17.out; omega)
  intro v176 w33 ho hb hg hat
  rw [← Ny175.out] at ho
  have n0_ := YL (blk_grown (g := gb155) (o := .cells #[.bool false, .int .i64 a0_1, .int .i64 a0_2, .int .i64 a0_3, .int .i64 a0_4, .int .i64 a0_5] 30 (0, 0)) (upK BK155) hg (Kd.R_ne HO171.out BK155.out (by decide)))
  have n1_ := YL (Kd.R_after (ok := (fun k_ => some k_ ≠ (.slice Ao34 y172.length co34 : Value).ownBlock)) (by (with_reducible repeat (first | apply YS | apply YT | apply YU)); exact Kd.R_mono HO168.out (fun _ hk => by first | exact ⟨hk.2, hk.1.2⟩ | exact trivial | (simp [hk]; done) | simp_all)) hg hat)
  have n2_ := YL (Kd.R_after (ok := (fun k_ => some k_ ≠ (.slice Ao29 t166.length co29 : Value).ownBlock)) (by (with_reducible repeat (first | apply YS | apply YT | apply YU)); exact Kd.R_mono HO174.out (fun _ hk => by first | exact ⟨hk.1.2, hk.2⟩ | exact trivial | (simp [hk]; done) | simp_all)) hg hat)
  have n3_ := YL (hb)
  have n4_ := YL (ho)
  clear BK155; clear HO168; clear HO174; clear HB; clear HO171; have BK155 := n0_; have HO168 := n1_; have HO174 := n2_; have HB := n3_; have HO177 := n4_; clear n0_ n1_ n2_ n3_ n4_; clear ho hb hg hat
  refine hK.out _ _ ⟨(YI BK155.out 0).trans rfl, (YI BK155.out 1).trans rfl, (YI BK155.out 2).trans rfl, (YI BK155.out 3).trans rfl, (YI BK155.out 4).trans rfl, (YI BK155.out 5).trans rfl⟩ (fun hHeld => ?_)
  clear hK K
  refine normA (N := 31) ?_
  refine oneA (i := 11) (N := some 34) HT_ (fun K hK => ?_)
  refine goes_ Try.func70 (by kernel_rfl) rfl #[.int .i64 a0_4] (by rfl) rfl rfl (by (try simp only [YP, List.map_cons, List.map_nil]); first | done | rfl | (simp only [YR, YQ]; rfl)) ?_
  with_reducible refine (wire_Int.calls a0_4 t178 _ A18.out).mono ?_
  rintro e w35 ⟨v179, rfl, ho0, hb⟩
  refine ⟨_, rfl, ?_⟩
  have n0_ := YL (Kd.R_elder' (upR HO168) (Kd.R_base ho0) hb)
  have n1_ := YL (Kd.R_elder' (upR HO174) (Kd.R_base ho0) hb)
  have n2_ := YL (Kd.R_elder' (upR HO177) (Kd.R_base ho0) hb)
  have n3_ := YL (Kd.R_lower (Kd.R_new' (Kd.R_new' (Kd.R_new' ho0 (Kd.R_lt (upR HO168))) (Kd.R_lt (upR HO174))) (Kd.R_lt (upR HO177))) (YE (upB HB)))
  have n4_ := YL (YK (g := gb155) (o := .cells #[.bool false, .int .i64 a0_1, .int .i64 a0_2, .int .i64 a0_3, .int .i64 a0_4, .int .i64 a0_5] 30 (0, 0)) (upK BK155) hb)
  have n5_ := YL (YD (upB HB) hb)
  clear HO168; clear HO174; clear HO177; clear BK155; clear HB; have HO168 := n0_; have HO174 := n1_; have HO177 := n2_; have HO180 := n3_; have BK155 := n4_; have HB := n5_; clear n0_ n1_ n2_ n3_ n4_ n5_; (try clear hb); (try clear hb2); (try clear hk); (try clear hi); (try clear ho0)
  obtain ⟨Ao37, co37, eo37⟩ := Kd.R_slice HO180.out
  (first | subst eo37 | (injection eo37 with f1_ f2_ f3_; have f4_ := f1_.symm; have f5_ := f3_.symm; clear f1_ f2_ f3_; subst f4_; subst f5_))
  refine hK.out _ _ ⟨(YI BK155.out 0).trans rfl, (YI BK155.out 1).trans rfl, (YI BK155.out 2).trans rfl, (YI BK155.out 3).trans rfl, (YI BK155.out 4).trans rfl, (YI BK155.out 5).trans rfl⟩ (fun hHeld => ?_)
  clear hK K
  refine normA (N := 34) ?_
  refine oneA (i := 12) (N := some 35) HT_ (fun K hK => ?_)
  refine Kd.R_append_rows_step (Kd.int .u8) (w0 := w) w.heap.size (by rfl) (.tmp 31) (.tmp 34) 107 5 (.int .u8 0) 1 rfl Try.underlying107 info5 rfl (by decide) (by omega) v176 y175 t178 _ _ _ (fun k_ => some k_ ≠ (.slice Ao29 t166.length co29 : Value).ownBlock ∧ some k_ ≠ (.slice Ao34 y172.length co34 : Value).ownBlock ∧ some k_ ≠ (.slice Ao37 t178.length co37 : Value).ownBlock) (fun _ => False) rfl rfl ?aO ?aR (fun _ _ h => h) (fun _ h => h.elim) ?aF ?aB ?aS ?aL ?_
  (case aR => repeat (first | exact (Kd.R_reads' HO180.out).2.2 | (with_reducible refine Kd.C_alloc ?_ _) | (with_reducible refine Kd.C_drewN ?_ _) | (with_reducible refine Kd.C_drew ?_)))
  (case aB => exact (upB HB))
  (case aF => exact (fun k_ hk => ⟨Kd.fresh' (Kd.R_lt (upR HO168)) k_ hk, Kd.fresh' (Kd.R_lt (upR HO174)) k_ hk, Kd.fresh' (Kd.R_lt (upR HO180)) k_ hk⟩))
  (case aO => exact (by (with_reducible repeat (first | apply YS | apply YT | apply YU)); exact Kd.R_mono HO177.out (fun _ hk => by first | exact ⟨hk.1.1, ⟨hk.1.2, hk.2⟩⟩ | exact trivial | (simp [hk]; done) | simp_all)))
  (case aS => exact (YE (upB HB)))
  (case aL => have := LMc19.out; omega)
  intro v182 w36 ho hb hg hat
  rw [← Ny181.out] at ho
  have n0_ := YL (blk_grown (g := gb155) (o := .cells #[.bool false, .int .i64 a0_1, .int .i64 a0_2, .int .i64 a0_3, .int .i64 a0_4, .int .i64 a0_5] 30 (0, 0)) (upK BK155) hg (Kd.R_ne HO177.out BK155.out (by decide)))
  have n1_ := YL (Kd.R_after (ok := (fun k_ => some k_ ≠ (.slice Ao34 y172.length co34 : Value).ownBlock ∧ some k_ ≠ (.slice Ao37 t178.length co37 : Value).ownBlock)) (by (with_reducible repeat (first | apply YS | apply YT | apply YU)); exact Kd.R_mono HO168.out (fun _ hk => by first | exact ⟨⟨hk.1.1, hk.2⟩, hk.1.2⟩ | exact trivial | (simp [hk]; done) | simp_all)) hg hat)
  have n2_ := YL (Kd.R_after (ok := (fun k_ => some k_ ≠ (.slice Ao29 t166.length co29 : Value).ownBlock ∧ some k_ ≠ (.slice Ao37 t178.length co37 : Value).ownBlock)) (by (with_reducible repeat (first | apply YS | apply YT | apply YU)); exact Kd.R_mono HO174.out (fun _ hk => by first | exact ⟨⟨hk.1.1, hk.2⟩, hk.1.2⟩ | exact trivial | (simp [hk]; done) | simp_all)) hg hat)
  have n3_ := YL (Kd.R_after (ok := (fun k_ => some k_ ≠ (.slice Ao29 t166.length co29 : Value).ownBlock ∧ some k_ ≠ (.slice Ao34 y172.length co34 : Value).ownBlock)) (by (with_reducible repeat (first | apply YS | apply YT | apply YU)); exact Kd.R_mono HO180.out (fun _ hk => by first | exact ⟨⟨hk.1.1.2, hk.1.2⟩, hk.2⟩ | exact trivial | (simp [hk]; done) | simp_all)) hg hat)
  have n4_ := YL (hb)
  have n5_ := YL (ho)
  clear BK155; clear HO168; clear HO174; clear HO180; clear HB; clear HO177; have BK155 := n0_; have HO168 := n1_; have HO174 := n2_; have HO180 := n3_; have HB := n4_; have HO183 := n5_; clear n0_ n1_ n2_ n3_ n4_ n5_; clear ho hb hg hat
  refine hK.out _ _ ⟨(YI BK155.out 0).trans rfl, (YI BK155.out 1).trans rfl, (YI BK155.out 2).trans rfl, (YI BK155.out 3).trans rfl, (YI BK155.out 4).trans rfl, (YI BK155.out 5).trans rfl⟩ (fun hHeld => ?_)
  clear hK K
  refine normA (N := 35) ?_
  refine pure_ (i := 13) (N := some 5) (v := ?_) (a' := ?_) #[true, true, true, true, true, true, true, true, true, true, true, true, true, true] rfl rfl (any_of HT_.out (by kernel_rfl)) (fun _ _ _ h => h) (Or.inl ⟨by rfl, ?_⟩) ?_ ?_
  rotate_left
  ·intro w'
   go_simp; with_reducible rfl
  rotate_left
  ·simp only [Act.put, YM, YN, YO, i64_w, i32_w]
   rfl
  refine done_ (done_of HT_.out (by kernel_rfl)) ?_
  obtain ⟨q38_0, q38_1, q38_2, q38_3, q38_4, q38_5⟩ := cA6 BK155.out
  obtain ⟨f38_0, f38_1, f38_2, f38_3, f38_4, f38_5⟩ := fA6 BK155.out
  try go_wp2_with (first | ((with_reducible refine gate_builtin (b := .append) (xs := #[.tmp 36, .tmp 40]) rfl ?_); at_builtin; refine Kd.R_append (Kd.int .u8) (w0 := w) w.heap.size rfl (.tmp 36) (.tmp 40) 107 5 (.int .u8 0) 1 rfl Try.underlying107 info5 rfl (by decide) (by omega) v182 y181 ((a0_5) % 256) [.int .u8 ((a0_5) % 256)] (fun k_ => some k_ ≠ (.slice Ao29 t166.length co29 : Value).ownBlock ∧ some k_ ≠ (.slice Ao34 y172.length co34 : Value).ownBlock ∧ some k_ ≠ (.slice Ao37 t178.length co37 : Value).ownBlock) (fun _ => False) rfl rfl ?aP (fun _ hk => hk.elim) ?aF ?aO ?aB ?aS ?aL ?_; (case aP => exact rfl); (case aB => exact (upB HB)); (case aF => exact (fun k_ hk => ⟨Kd.fresh' (Kd.R_lt (upR HO168)) k_ hk, Kd.fresh' (Kd.R_lt (upR HO174)) k_ hk, Kd.fresh' (Kd.R_lt (upR HO180)) k_ hk⟩)); (case aO => exact (upR HO183)); (case aS => exact (YE (upB HB))); (case aL => have := LMc20.out; omega); intro v185 w39 ho hb hg hat; rw [← Ny184.out] at ho; have n0_ := YL (blk_grown (g := gb155) (o := .cells #[.bool false, .int .i64 a0_1, .int .i64 a0_2, .int .i64 a0_3, .int .i64 a0_4, .int .i64 a0_5] 30 (0, 0)) (upK BK155) hg (Kd.R_ne HO183.out BK155.out (by decide))); have n1_ := YL (Kd.R_after (ok := (fun k_ => some k_ ≠ (.slice Ao34 y172.length co34 : Value).ownBlock ∧ some k_ ≠ (.slice Ao37 t178.length co37 : Value).ownBlock)) (upR HO168) hg hat); have n2_ := YL (Kd.R_after (ok := (fun k_ => some k_ ≠ (.slice Ao29 t166.length co29 : Value).ownBlock ∧ some k_ ≠ (.slice Ao37 t178.length co37 : Value).ownBlock)) (upR HO174) hg hat); have n3_ := YL (Kd.R_after (ok := (fun k_ => some k_ ≠ (.slice Ao29 t166.length co29 : Value).ownBlock ∧ some k_ ≠ (.slice Ao34 y172.length co34 : Value).ownBlock)) (upR HO180) hg hat); have n4_ := YL (hb); have n5_ := YL (ho); clear BK155; clear HO168; clear HO174; clear HO180; clear HB; clear HO183; have BK155 := n0_; have HO168 := n1_; have HO174 := n2_; have HO180 := n3_; have HB := n4_; have HO186 := n5_; clear n0_ n1_ n2_ n3_ n4_ n5_; clear ho hb hg hat))
  go_ret2
  exact ⟨_, by first | rfl | (simp [errW_none, errW_some] <;> rfl) | (simp [*, errW_none, errW_some] <;> rfl), by (with_reducible repeat (first | apply YS | apply YT | apply YU)); exact Kd.R_mono HO186.out (fun _ hk => trivial), by repeat (first | (with_reducible first | exact HB.out | apply YA | apply YB | apply YC | refine below_set ?_ GE155.out) | exact HB.out)⟩
 rw [if_neg c3] at H
 have c3b0 : (t156 == 0) = false := beq_eq_false_iff_ne.mpr c3
 have c3b1 : (t156 != 0) = true := bne_iff_ne.mpr c3
 simp only [Option.some.injEq, Prod.mk.injEq] at H
 obtain ⟨rfl, rfl⟩ := H
 go_enter Try.func69, Try.ntmps69
 go_wp2_with (first | ((with_reducible refine gate_dst (N := 1) rfl ?_); refine box_event ?hg (N := 1) ?hd (cs := #[.bool a0_0, .int .i64 a0_1, .int .i64 a0_2, .int .i64 a0_3, .int .i64 a0_4, .int .i64 a0_5]) (t := 30) ?hr ?_; (case hd => rfl); (case hg => rfl); (case hr => first | (go_simp; done) | (go_simp; rfl)); intro gb155 hg w40 hbox hb; have n0_ := YL (YD (upB HB) hb); have n1_ := YL (hbox); have n2_ := YL ((by rw [hg]; exact (YE (upB HB)) : w.heap.size ≤ gb155)); have n3_ := YL ((by rw [hg]; exact (YE (upB HB)) : w.heap.size ≤ gb155)); clear HB; have HB := n0_; have BK155 := n1_; have GW155 := n2_; have GE155 := n3_; clear n0_ n1_ n2_ n3_; clear hb hbox hg; obtain ⟨q41_0, q41_1, q41_2, q41_3, q41_4, q41_5⟩ := cA6 BK155.out; obtain ⟨f41_0, f41_1, f41_2, f41_3, f41_4, f41_5⟩ := fA6 BK155.out) | ((with_reducible refine gate_callee (f := 48) rfl ?_); refine goesA (some 7) Try.func48 #[.agg #[.bool a0_0, .int .i64 a0_1, .int .i64 a0_2, .int .i64 a0_3, .int .i64 a0_4, .int .i64 a0_5]] ?_; (with_reducible refine (height_Check.calls k a0_0 a0_1 a0_2 a0_3 a0_4 a0_5 t156 _ A2.out).mono ?_); rintro e w42 ⟨rfl, hb⟩; refine ⟨_, rfl, ?_⟩; have n0_ := YL (YK (g := gb155) (o := .cells #[.bool a0_0, .int .i64 a0_1, .int .i64 a0_2, .int .i64 a0_3, .int .i64 a0_4, .int .i64 a0_5] 30 (0, 0)) (upK BK155) hb); have n1_ := YL (YD (upB HB) hb); clear BK155; clear HB; have BK155 := n0_; have HB := n1_; clear n0_ n1_; (try clear hb); (try clear hb2); (try clear hk); (try clear hi)))
 go_ret2
 exact ⟨_, by first | rfl | (simp [errW_none, errW_some] <;> rfl) | (simp [*, errW_none, errW_some] <;> rfl), by first | exact Kd.R_nil _ _ _ _ _ | exact Kd.N_nil _ _ _ _ _ | exact Kd.V_nil _ _ _ _ _ | exact Kd.Q_nil _ _ _ _ _ | exact Kd.S_nil _ _ _ _ _, by repeat (first | (with_reducible first | exact HB.out | apply YA | apply YB | apply YC | refine below_set ?_ GE155.out) | exact HB.out)⟩
def object_Bytes.j0 : Nat → List Int → Int → Bool → Int → Int → Bool → Int → Int → Int → Int → Int → Int → Int → Int → Int → Option (List Int × Int)
 | 0, _, _, _, _, _, _, _, _, _, _, _, _, _, _, _ => none
 | k + 1, x5, x21, x22, x188000, x188001, x188002, x188003, x188004, x188005, x188006, x188007, x188008, x188009, x188010, x188011 => if x22 = true then ((height_Bytes.f k x188002 x188003 x188004 x188005 x188006 x188007).bind fun bt192 => (if bt192.2 = 0 then (if x5.length + bt192.1.length < 140737488355328 then ((some (x5 ++ bt192.1 : List Int)).bind fun y196 => (if x188000 = 4 then ((some (([(x188011 / 256) % 256, (x188011) % 256] : List Int) : List Int)).bind fun y199 => (if y196.length + y199.length < 140737488355328 then (some ((y196 ++ y199), 0)) else (none))) else (some (y196, 0)))) else (none)) else (some (([] : List Int), bt192.2)))) else (if x21 = 3 then ((wire_Int.f x188008).bind fun t205 => (if x5.length + t205.length < 140737488355328 then ((some (x5 ++ t205 : List Int)).bind fun y208 => ((some (([(x188009) % 256, (x188010) % 256] : List Int) : List Int)).bind fun y211 => (if y208.length + y211.length < 140737488355328 then ((some (y208 ++ y211 : List Int)).bind fun y214 => (if x188000 = 4 then ((some (([(x188011 / 256) % 256, (x188011) % 256] : List Int) : List Int)).bind fun y217 => (if y214.length + y217.length < 140737488355328 then (some ((y214 ++ y217), 0)) else (none))) else (some (y214, 0)))) else (none)))) else (none))) else (if x188000 = 4 then ((some (([(x188011 / 256) % 256, (x188011) % 256] : List Int) : List Int)).bind fun y223 => (if x5.length + y223.length < 140737488355328 then (some ((x5 ++ y223), 0)) else (none))) else (some (x5, 0))))
def object_Bytes.f (k : Nat) (a0_0 : Int) (a0_1 : Int) (a0_2 : Bool) (a0_3 : Int) (a0_4 : Int) (a0_5 : Int) (a0_6 : Int) (a0_7 : Int) (a0_8 : Int) (a0_9 : Int) (a0_10 : Int) (a0_11 : Int) : Option (List Int × Int) := (object_Check.f k a0_0 a0_1 a0_2 a0_3 a0_4 a0_5 a0_6 a0_7 a0_8 a0_9 a0_10 a0_11).bind fun t188 => (if t188 = 0 then ((some (([(a0_0) % 256, (a0_1) % 256] : List Int) : List Int)).bind fun y189 => (if a0_0 = 2 then (object_Bytes.j0 k y189 a0_0 (a0_0 == 2) a0_0 a0_1 a0_2 a0_3 a0_4 a0_5 a0_6 a0_7 a0_8 a0_9 a0_10 a0_11) else (object_Bytes.j0 k y189 a0_0 (a0_0 == 4) a0_0 a0_1 a0_2 a0_3 a0_4 a0_5 a0_6 a0_7 a0_8 a0_9 a0_10 a0_11))) else (some (([] : List Int), t188)))
def object_Bytes.T13 : Bool × List (List Nat × List Nat) := (true, [([], []), ([], []), ([1], [1]), ([2], [2]), ([3], [3]), ([0, 4, 4], [0, 4]), ([], []), ([6], [6]), ([7], [7]), ([8], [8]), ([], []), ([10], [10]), ([11], [11]), ([12], [12]), ([9, 13], [9, 13]), ([5, 14, 5], [5, 14]), ([15, 15, 0, 1, 2, 3, 4, 5, 6, 7, 8, 9, 10, 11, 12, 13, 14, 15], [0, 15])])
def object_Bytes.B13 : List Nat := [0, 0, 2, 6, 14, 31, 0, 64, 192, 448, 0, 1024, 3072, 7168, 16320, 32767, 65535]
theorem object_Bytes.tab13 : rtab .any (opsOf Try.f67 13) = object_Bytes.T13 := by kernel_rfl
theorem object_Bytes.bits13 : waitsOk object_Bytes.T13.2 object_Bytes.B13 = true := by kernel_rfl
theorem object_Bytes.calls (k : Nat) (a0_0 : Int) (a0_1 : Int) (a0_2 : Bool) (a0_3 : Int) (a0_4 : Int) (a0_5 : Int) (a0_6 : Int) (a0_7 : Int) (a0_8 : Int) (a0_9 : Int) (a0_10 : Int) (a0_11 : Int) (r1 : List Int) (r2 : Int) (w : World) (h : object_Bytes.f k a0_0 a0_1 a0_2 a0_3 a0_4 a0_5 a0_6 a0_7 a0_8 a0_9 a0_10 a0_11 = some (r1, r2)) :
  Calls Try.prog 67 #[.agg #[.int .i64 a0_0, .int .i64 a0_1, .bool a0_2, .int .i64 a0_3, .int .i64 a0_4, .int .i64 a0_5, .int .i64 a0_6, .int .i64 a0_7, .int .i64 a0_8, .int .i64 a0_9, .int .i64 a0_10, .int .i64 a0_11]] w fun e w' => ∃ v0_ : Value, e = .returned (.tuple #[v0_, .int .i64 r2]) ∧ Kd.R (Kd.int .u8) 5 w' w.heap.size (fun _ => True) v0_ r1 ∧ Below w.heap.size w w' := by
 have hu34 := Try.underlying34
 have hu30 := Try.underlying30
 have HB := YL (Below.refl w.heap.size w)
 have H : ((object_Check.f k a0_0 a0_1 a0_2 a0_3 a0_4 a0_5 a0_6 a0_7 a0_8 a0_9 a0_10 a0_11).bind fun t188 => (if t188 = 0 then ((some (([(a0_0) % 256, (a0_1) % 256] : List Int) : List Int)).bind fun y189 => (if a0_0 = 2 then (object_Bytes.j0 k y189 a0_0 (a0_0 == 2) a0_0 a0_1 a0_2 a0_3 a0_4 a0_5 a0_6 a0_7 a0_8 a0_9 a0_10 a0_11) else (object_Bytes.j0 k y189 a0_0 (a0_0 == 4) a0_0 a0_1 a0_2 a0_3 a0_4 a0_5 a0_6 a0_7 a0_8 a0_9 a0_10 a0_11))) else (some (([] : List Int), t188)))) = some (r1, r2) := h
 clear h; replace H := Option.bind_eq_some_iff.mp H; obtain ⟨t188, A20, H⟩ := H
 replace H : (if t188 = 0 then ((some (([(a0_0) % 256, (a0_1) % 256] : List Int) : List Int)).bind fun y189 => (if a0_0 = 2 then (object_Bytes.j0 k y189 a0_0 (a0_0 == 2) a0_0 a0_1 a0_2 a0_3 a0_4 a0_5 a0_6 a0_7 a0_8 a0_9 a0_10 a0_11) else (object_Bytes.j0 k y189 a0_0 (a0_0 == 4) a0_0 a0_1 a0_2 a0_3 a0_4 a0_5 a0_6 a0_7 a0_8 a0_9 a0_10 a0_11))) else (some (([] : List Int), t188))) = some (r1, r2) := H
 have A2 := YL A20; clear A20
 by_cases c3 : t188 = 0
 ·rw [if_pos c3] at H
  have c3b0 : (t188 == 0) = true := beq_iff_eq.mpr c3
  have c3b1 : (t188 != 0) = false := bne_eq_false_iff_eq.mpr c3
  clear c3
  obtain ⟨y189, hy189⟩ : ∃ y_ : List Int, y_ = (([(a0_0) % 256, (a0_1) % 256] : List Int)) := ⟨_, rfl⟩
  replace H : (if a0_0 = 2 then (object_Bytes.j0 k y189 a0_0 (a0_0 == 2) a0_0 a0_1 a0_2 a0_3 a0_4 a0_5 a0_6 a0_7 a0_8 a0_9 a0_10 a0_11) else (object_Bytes.j0 k y189 a0_0 (a0_0 == 4) a0_0 a0_1 a0_2 a0_3 a0_4 a0_5 a0_6 a0_7 a0_8 a0_9 a0_10 a0_11)) = some (r1, r2) := by first | (rw [hy189]; with_reducible exact H) | (have H2_ := (Option.bind_some _ _).symm.trans H; rw [hy189]; with_reducible exact H2_) | (have H2_ := (Option.bind_some _ _).symm.trans H; with_reducible exact H2_) | with_reducible exact H | (rw [hy189]; exact H) | exact H
  have Ny189 := YL hy189; clear hy189; have HC4 := YL H; clear H
  go_enter Try.func67, Try.ntmps67
  go_upto_if 22 with (first | ((with_reducible refine gate_dst (N := 1) rfl ?_); refine box_event ?hg (N := 1) ?hd (cs := #[.int .i64 a0_0, .int .i64 a0_1, .bool a0_2, .int .i64 a0_3, .int .i64 a0_4, .int .i64 a0_5, .int .i64 a0_6, .int .i64 a0_7, .int .i64 a0_8, .int .i64 a0_9, .int .i64 a0_10, .int .i64 a0_11]) (t := 34) ?hr ?_; (case hd => rfl); (case hg => rfl); (case hr => first | (go_simp; done) | (go_simp; rfl)); intro gb187 hg w5 hbox hb; have n0_ := YL (YD (upB HB) hb); have n1_ := YL (hbox); have n2_ := YL ((by rw [hg]; exact (YE (upB HB)) : w.heap.size ≤ gb187)); have n3_ := YL ((by rw [hg]; exact (YE (upB HB)) : w.heap.size ≤ gb187)); clear HB; have HB := n0_; have BK187 := n1_; have GW187 := n2_; have GE187 := n3_; clear n0_ n1_ n2_ n3_; clear hb hbox hg; obtain ⟨q6_0, q6_1, q6_2, q6_3, q6_4, q6_5, q6_6, q6_7, q6_8, q6_9, q6_10, q6_11⟩ := cA12 BK187.out; obtain ⟨f6_0, f6_1, f6_2, f6_3, f6_4, f6_5, f6_6, f6_7, f6_8, f6_9, f6_10, f6_11⟩ := fA12 BK187.out) | ((with_reducible refine gate_callee (f := 26) rfl ?_); refine goesA (some 9) Try.func26 #[.agg #[.int .i64 a0_0, .int .i64 a0_1, .bool a0_2, .int .i64 a0_3, .int .i64 a0_4, .int .i64 a0_5, .int .i64 a0_6, .int .i64 a0_7, .int .i64 a0_8, .int .i64 a0_9, .int .i64 a0_10, .int .i64 a0_11]] ?_; (with_reducible refine (object_Check.calls k a0_0 a0_1 a0_2 a0_3 a0_4 a0_5 a0_6 a0_7 a0_8 a0_9 a0_10 a0_11 t188 _ A2.out).mono ?_); rintro e w7 ⟨rfl, hb⟩; refine ⟨_, rfl, ?_⟩; have n0_ := YL (YK (g := gb187) (o := .cells #[.int .i64 a0_0, .int .i64 a0_1, .bool a0_2, .int .i64 a0_3, .int .i64 a0_4, .int .i64 a0_5, .int .i64 a0_6, .int .i64 a0_7, .int .i64 a0_8, .int .i64 a0_9, .int .i64 a0_10, .int .i64 a0_11] 34 (0, 0)) (upK BK187) hb); have n1_ := YL (YD (upB HB) hb); clear BK187; clear HB; have BK187 := n0_; have HB := n1_; clear n0_ n1_; (try clear hb); (try clear hb2); (try clear hk); (try clear hi); obtain ⟨q8_0, q8_1, q8_2, q8_3, q8_4, q8_5, q8_6, q8_7, q8_8, q8_9, q8_10, q8_11⟩ := cA12 BK187.out; obtain ⟨f8_0, f8_1, f8_2, f8_3, f8_4, f8_5, f8_6, f8_7, f8_8, f8_9, f8_10, f8_11⟩ := fA12 BK187.out) | ((with_reducible refine gate_dst (N := 19) rfl ?_); refine Kd.R_lit (Kd.int .u8) _ 5 ?hg (N := 19) ?hd (xs := ([(a0_0) % 256, (a0_1) % 256] : List Int)) (inner := [.int .u8 ((a0_0) % 256), .int .u8 ((a0_1) % 256)]) (ok := fun _ => True) (okp := fun _ => True) ?hr ?hp (fun _ hk => hk) trivial (Below.refl _ _) (Nat.le_refl _) (by simp) ?_; (case hd => rfl); (case hg => rfl); (case hr => first | (go_simp; done) | (go_simp; rfl)); (case hp => exact (Reps.one (show Kd.M (Kd.int .u8) _ _ _ ((a0_0) % 256) [.int .u8 ((a0_0) % 256)] from rfl) (Reps.one (show Kd.M (Kd.int .u8) _ _ _ ((a0_1) % 256) [.int .u8 ((a0_1) % 256)] from rfl) (Reps.none _ _)))); intro v190 w9 ho10 hb hg_ hnew_; clear hg_ hnew_; (first | rw [← Ny189.out] at ho10 | (simp only [Int.reduceToNat] at ho10; rw [← Ny189.out] at ho10)); have n0_ := YL (Kd.R_lower ho10 (YE (upB HB))); have n1_ := YL (YK (g := gb187) (o := .cells #[.int .i64 a0_0, .int .i64 a0_1, .bool a0_2, .int .i64 a0_3, .int .i64 a0_4, .int .i64 a0_5, .int .i64 a0_6, .int .i64 a0_7, .int .i64 a0_8, .int .i64 a0_9, .int .i64 a0_10, .int .i64 a0_11] 34 (0, 0)) (upK BK187) hb); have n2_ := YL (YD (upB HB) hb); clear BK187; clear HB; have HO191 := n0_; have BK187 := n1_; have HB := n2_; clear n0_ n1_ n2_; clear hb ho10; obtain ⟨q11_0, q11_1, q11_2, q11_3, q11_4, q11_5, q11_6, q11_7, q11_8, q11_9, q11_10, q11_11⟩ := cA12 BK187.out; obtain ⟨f11_0, f11_1, f11_2, f11_3, f11_4, f11_5, f11_6, f11_7, f11_8, f11_9, f11_10, f11_11⟩ := fA12 BK187.out))
  (try simp only [Act.put, YM, YN, YO])
  go_cut [22] (fun v22 wc => ∃ (kq : Nat) (x22_3 : Bool), v22 = .bool x22_3 ∧ Aside0 (object_Bytes.j0 kq y189 a0_0 x22_3 a0_0 a0_1 a0_2 a0_3 a0_4 a0_5 a0_6 a0_7 a0_8 a0_9 a0_10 a0_11 = some (r1, r2)) ∧ Aside0 (kq ≤ k) ∧ Aside0 (Kd.R (Kd.int .u8) 5 wc w.heap.size (fun _ => True) v190 y189) ∧ Aside0 (wc.heap[gb187]? = some (.cells #[.int .i64 a0_0, .int .i64 a0_1, .bool a0_2, .int .i64 a0_3, .int .i64 a0_4, .int .i64 a0_5, .int .i64 a0_6, .int .i64 a0_7, .int .i64 a0_8, .int .i64 a0_9, .int .i64 a0_10, .int .i64 a0_11] 34 (0, 0))) ∧ Aside0 (Below w.heap.size w wc))
  case first =>
   have H := HC4.out
   clear HC4
   by_cases c12 : a0_0 = 2
   ·rw [if_pos c12] at H
    have c12b0 : (a0_0 == 2) = true := beq_iff_eq.mpr c12
    have c12b1 : (a0_0 != 2) = false := bne_eq_false_iff_eq.mpr c12
    clear c12
    (first | rw [c12b0] | (simp only [i64_w, i32_w]; rw [c12b0]) | rw [c12b1] | skip)
    have H' := YL H
    clear H
    go_wp2
    go_meet
    case rel => exact ⟨_, ((a0_0 == 2)), (by first | rfl | (simp; done) | (simp [*]; done)), H', ⟨by first | omega | exact Nat.le_refl _⟩, ⟨by (with_reducible repeat (first | apply YS | apply YT | apply YU)); exact HO191.out⟩, ⟨by (with_reducible repeat (first | refine YF ?_ _ | refine YG ?_ | refine YH ?_ _)); exact BK187.out⟩, ⟨by repeat (first | (with_reducible first | exact HB.out | apply YA | apply YB | apply YC | refine below_set ?_ GE187.out) | exact HB.out)⟩⟩
   rw [if_neg c12] at H
   have c12b0 : (a0_0 == 2) = false := beq_eq_false_iff_ne.mpr c12
   have c12b1 : (a0_0 != 2) = true := bne_iff_ne.mpr c12
   (first | rw [c12b0] | (simp only [i64_w, i32_w]; rw [c12b0]) | rw [c12b1] | skip)
   have H' := YL H
   clear H
   go_wp2
   go_meet
   case rel => exact ⟨_, ((a0_0 == 4)), (by first | rfl | (simp; done) | (simp [*]; done)), H', ⟨by first | omega | exact Nat.le_refl _⟩, ⟨by (with_reducible repeat (first | apply YS | apply YT | apply YU)); exact HO191.out⟩, ⟨by (with_reducible repeat (first | refine YF ?_ _ | refine YG ?_ | refine YH ?_ _)); exact BK187.out⟩, ⟨by repeat (first | (with_reducible first | exact HB.out | apply YA | apply YB | apply YC | refine below_set ?_ GE187.out) | exact HB.out)⟩⟩
  case rest =>
   clear HC4
   try clear c1; try clear c2
   try clear p2; try clear c3
   try clear c3b0; try clear c3b1
   try clear c6; try clear c12
   try clear c12b0; try clear c12b1
   try clear q11_0; try clear q11_1
   try clear q11_10; try clear q11_11
   try clear q11_2; try clear q11_3
   try clear q11_4; try clear q11_5
   try clear q11_6; try clear q11_7
   try clear q11_8; try clear q11_9
   try clear q6_0; try clear q6_1
   try clear q6_10; try clear q6_11
   try clear q6_2; try clear q6_3
   try clear q6_4; try clear q6_5
   try clear q6_6; try clear q6_7
   try clear q6_8; try clear q6_9
   try clear q8_0; try clear q8_1
   try clear q8_10; try clear q8_11
   try clear q8_2; try clear q8_3
   try clear q8_4; try clear q8_5
   try clear q8_6; try clear q8_7
   try clear q8_8; try clear q8_9
   try clear f11_0; try clear f11_1
   try clear f11_10; try clear f11_11
   try clear f11_2; try clear f11_3
   try clear f11_4; try clear f11_5
   try clear f11_6; try clear f11_7
   try clear f11_8; try clear f11_9
   try clear f6_0; try clear f6_1
   try clear f6_10; try clear f6_11
   try clear f6_2; try clear f6_3
   try clear f6_4; try clear f6_5
   try clear f6_6; try clear f6_7
   try clear f6_8; try clear f6_9
   try clear f8_0; try clear f8_1
   try clear f8_10; try clear f8_11
   try clear f8_2; try clear f8_3
   try clear f8_4; try clear f8_5
   try clear f8_6; try clear f8_7
   try clear f8_8; try clear f8_9
   obtain ⟨kq, x22_3, rfl, HA, HJ3, HO_5, BK187, HB⟩ := hcut
   cases kq with
   | zero => exact absurd HA.out (by simp [object_Bytes.j0])
   | succ kj3 =>
    have H := HA.out
    clear HA
    simp only [object_Bytes.j0] at H
    by_cases c13 : x22_3 = true
    ·subst c13
     have H1 : ((height_Bytes.f kj3 a0_2 a0_3 a0_4 a0_5 a0_6 a0_7).bind fun bt192 => (if bt192.2 = 0 then (if y189.length + bt192.1.length < 140737488355328 then ((some (y189 ++ bt192.1 : List Int)).bind fun y196 => (if a0_0 = 4 then ((some (([(a0_11 / 256) % 256, (a0_11) % 256] : List Int) : List Int)).bind fun y199 => (if y196.length + y199.length < 140737488355328 then (some ((y196 ++ y199), 0)) else (none))) else (some (y196, 0)))) else (none)) else (some (([] : List Int), bt192.2)))) = some (r1, r2) := by rw [if_pos rfl] at H; exact H
     clear H
     have H := H1
     clear H1; replace H := Option.bind_eq_some_iff.mp H
     obtain ⟨⟨t192, t195⟩, A140, H⟩ := H
     replace H : (if t195 = 0 then (if y189.length + t192.length < 140737488355328 then ((some (y189 ++ t192 : List Int)).bind fun y196 => (if a0_0 = 4 then ((some (([(a0_11 / 256) % 256, (a0_11) % 256] : List Int) : List Int)).bind fun y199 => (if y196.length + y199.length < 140737488355328 then (some ((y196 ++ y199), 0)) else (none))) else (some (y196, 0)))) else (none)) else (some (([] : List Int), t195))) = some (r1, r2) := H
     have A14 := YL A140; clear A140
     by_cases c15 : t195 = 0
     ·rw [if_pos c15] at H
      have c15b0 : (t195 == 0) = true := beq_iff_eq.mpr c15
      have c15b1 : (t195 != 0) = false := bne_eq_false_iff_eq.mpr c15
      clear c15
      by_cases c16 : y189.length + t192.length < 140737488355328
      rotate_left
      ·rw [if_neg c16] at H
       exact absurd H (by simp)
      rw [if_pos c16] at H; have LMc16 := YL c16; clear c16
      obtain ⟨y196, hy196⟩ : ∃ y_ : List Int, y_ = (y189 ++ t192) := ⟨_, rfl⟩
      replace H : (if a0_0 = 4 then ((some (([(a0_11 / 256) % 256, (a0_11) % 256] : List Int) : List Int)).bind fun y199 => (if y196.length + y199.length < 140737488355328 then (some ((y196 ++ y199), 0)) else (none))) else (some (y196, 0))) = some (r1, r2) := by first | (rw [hy196]; with_reducible exact H) | (have H2_ := (Option.bind_some _ _).symm.trans H; rw [hy196]; with_reducible exact H2_) | (have H2_ := (Option.bind_some _ _).symm.trans H; with_reducible exact H2_) | with_reducible exact H | (rw [hy196]; exact H) | exact H
      have Ny196 := YL hy196; clear hy196
      by_cases c17 : a0_0 = 4
      ·rw [if_pos c17] at H
       have c17b0 : (a0_0 == 4) = true := beq_iff_eq.mpr c17
       have c17b1 : (a0_0 != 4) = false := bne_eq_false_iff_eq.mpr c17
       clear c17
       obtain ⟨y199, hy199⟩ : ∃ y_ : List Int, y_ = (([(a0_11 / 256) % 256, (a0_11) % 256] : List Int)) := ⟨_, rfl⟩
       replace H : (if y196.length + y199.length < 140737488355328 then (some ((y196 ++ y199), 0)) else (none)) = some (r1, r2) := by first | (rw [hy199]; with_reducible exact H) | (have H2_ := (Option.bind_some _ _).symm.trans H; rw [hy199]; with_reducible exact H2_) | (have H2_ := (Option.bind_some _ _).symm.trans H; with_reducible exact H2_) | with_reducible exact H | (rw [hy199]; exact H) | exact H
       have Ny199 := YL hy199; clear hy199
       by_cases c18 : y196.length + y199.length < 140737488355328
       rotate_left
       ·rw [if_neg c18] at H
        exact absurd H (by simp)
       rw [if_pos c18] at H; have LMc18 := YL c18; clear c18
       obtain ⟨y202, hy202⟩ : ∃ y_ : List Int, y_ = (y196 ++ y199) := ⟨_, rfl⟩
       replace H : (some (y202, 0)) = some (r1, r2) := by first | (rw [hy202]; with_reducible exact H) | (have H2_ := (Option.bind_some _ _).symm.trans H; rw [hy202]; with_reducible exact H2_) | (have H2_ := (Option.bind_some _ _).symm.trans H; with_reducible exact H2_) | with_reducible exact H | (rw [hy202]; exact H) | exact H
       have Ny202 := YL hy202; clear hy202
       simp only [Option.some.injEq, Prod.mk.injEq] at H
       obtain ⟨rfl, rfl⟩ := H
       obtain ⟨q19_0, q19_1, q19_2, q19_3, q19_4, q19_5, q19_6, q19_7, q19_8, q19_9, q19_10, q19_11⟩ := cA12 BK187.out
       obtain ⟨f19_0, f19_1, f19_2, f19_3, f19_4, f19_5, f19_6, f19_7, f19_8, f19_9, f19_10, f19_11⟩ := fA12 BK187.out
       go_wp2_with (first | ((with_reducible refine gate_callee (f := 69) rfl ?_); refine goesA (some 28) Try.func69 #[.agg #[.bool a0_2, .int .i64 a0_3, .int .i64 a0_4, .int .i64 a0_5, .int .i64 a0_6, .int .i64 a0_7]] ?_; (with_reducible refine (height_Bytes.calls kj3 a0_2 a0_3 a0_4 a0_5 a0_6 a0_7 t192 t195 _ A14.out).mono ?_); rintro e w20 ⟨v193, rfl, ho0, hb⟩; refine ⟨_, rfl, ?_⟩; have n0_ := YL (Kd.R_elder' (upR HO_5) (Kd.R_base ho0) hb); have n1_ := YL (Kd.R_lower (Kd.R_new' ho0 (Kd.R_lt (upR HO_5))) (YE (upB HB))); have n2_ := YL (YK (g := gb187) (o := .cells #[.int .i64 a0_0, .int .i64 a0_1, .bool a0_2, .int .i64 a0_3, .int .i64 a0_4, .int .i64 a0_5, .int .i64 a0_6, .int .i64 a0_7, .int .i64 a0_8, .int .i64 a0_9, .int .i64 a0_10, .int .i64 a0_11] 34 (0, 0)) (upK BK187) hb); have n3_ := YL (YD (upB HB) hb); clear HO_5; clear BK187; clear HB; have HO_5 := n0_; have HO194 := n1_; have BK187 := n2_; have HB := n3_; clear n0_ n1_ n2_ n3_; (try clear hb); (try clear hb2); (try clear hk); (try clear hi); (try clear ho0); obtain ⟨Ao22, co22, eo22⟩ := Kd.R_slice HO194.out; subst eo22) | ((with_reducible refine gate_builtin (b := .append) (xs := #[.tmp 34, .tmp 35]) rfl ?_); at_builtin; refine Kd.R_append_rows (Kd.int .u8) (w0 := w) w.heap.size rfl (.tmp 34) (.tmp 35) 107 5 (.int .u8 0) 1 rfl Try.underlying107 info5 rfl (by decide) (by omega) v190 y189 t192 _ _ _ (fun k_ => some k_ ≠ (.slice Ao22 t192.length co22 : Value).ownBlock) (fun _ => False) rfl rfl ?aO ?aR (fun _ _ h => h) (fun _ h => h.elim) ?aF ?aB ?aS ?aL ?_; (case aR => repeat (first | exact (Kd.R_reads' HO194.out).2.2 | (with_reducible refine Kd.C_alloc ?_ _) | (with_reducible refine Kd.C_drewN ?_ _) | (with_reducible refine Kd.C_drew ?_))); (case aB => exact (upB HB)); (case aF => exact (fun k_ hk => Kd.fresh' (Kd.R_lt (upR HO194)) k_ hk)); (case aO => exact (by (with_reducible repeat (first | apply YS | apply YT | apply YU)); exact Kd.R_mono HO_5.out (fun _ hk => by first | exact hk.2 | exact trivial | (simp [hk]; done) | simp_all))); (case aS => exact (YE (upB HB))); (case aL => have := LMc16.out; omega); intro v197 w21 ho hb hg hat; rw [← Ny196.out] at ho; have n0_ := YL (blk_grown (g := gb187) (o := .cells #[.int .i64 a0_0, .int .i64 a0_1, .bool a0_2, .int .i64 a0_3, .int .i64 a0_4, .int .i64 a0_5, .int .i64 a0_6, .int .i64 a0_7, .int .i64 a0_8, .int .i64 a0_9, .int .i64 a0_10, .int .i64 a0_11] 34 (0, 0)) (upK BK187) hg (Kd.R_ne HO_5.out BK187.out (by decide))); have n1_ := YL (Kd.R_after (ok := (fun _ => True)) (upR HO194) hg hat); have n2_ := YL (hb); have n3_ := YL (ho); clear BK187; clear HO194; clear HB; clear HO_5; have BK187 := n0_; have HO194 := n1_; have HB := n2_; have HO198 := n3_; clear n0_ n1_ n2_ n3_; clear ho hb hg hat; obtain ⟨q23_0, q23_1, q23_2, q23_3, q23_4, q23_5, q23_6, q23_7, q23_8, q23_9, q23_10, q23_11⟩ := cA12 BK187.out; obtain ⟨f23_0, f23_1, f23_2, f23_3, f23_4, f23_5, f23_6, f23_7, f23_8, f23_9, f23_10, f23_11⟩ := fA12 BK187.out) | ((with_reducible refine gate_dst (N := 66) rfl ?_); refine Kd.R_lit (Kd.int .u8) _ 5 ?hg (N := 66) ?hd (xs := ([(a0_11 / 256) % 256, (a0_11) % 256] : List Int)) (inner := [.int .u8 ((a0_11 / 256) % 256), .int .u8 ((a0_11) % 256)]) (ok := fun _ => True) (okp := fun _ => True) ?hr ?hp (fun _ hk => hk) trivial (Below.refl _ _) (Nat.le_refl _) (by simp) ?_; (case hd => rfl); (case hg => rfl); (case hr => first | (go_simp; done) | (go_simp; rfl)); (case hp => exact (Reps.one (show Kd.M (Kd.int .u8) _ _ _ ((a0_11 / 256) % 256) [.int .u8 ((a0_11 / 256) % 256)] from rfl) (Reps.one (show Kd.M (Kd.int .u8) _ _ _ ((a0_11) % 256) [.int .u8 ((a0_11) % 256)] from rfl) (Reps.none _ _)))); intro v200 w24 ho25 hb hg_ hnew_; clear hg_ hnew_; (first | rw [← Ny199.out] at ho25 | (simp only [Int.reduceToNat] at ho25; rw [← Ny199.out] at ho25)); have n0_ := YL (Kd.R_elder' (upR HO194) (Kd.R_base ho25) hb); have n1_ := YL (Kd.R_elder' (upR HO198) (Kd.R_base ho25) hb); have n2_ := YL (Kd.R_lower (Kd.R_new' (Kd.R_new' ho25 (Kd.R_lt (upR HO194))) (Kd.R_lt (upR HO198))) (YE (upB HB))); have n3_ := YL (YK (g := gb187) (o := .cells #[.int .i64 a0_0, .int .i64 a0_1, .bool a0_2, .int .i64 a0_3, .int .i64 a0_4, .int .i64 a0_5, .int .i64 a0_6, .int .i64 a0_7, .int .i64 a0_8, .int .i64 a0_9, .int .i64 a0_10, .int .i64 a0_11] 34 (0, 0)) (upK BK187) hb); have n4_ := YL (YD (upB HB) hb); clear HO194; clear HO198; clear BK187; clear HB; have HO194 := n0_; have HO198 := n1_; have HO201 := n2_; have BK187 := n3_; have HB := n4_; clear n0_ n1_ n2_ n3_ n4_; clear hb ho25; obtain ⟨Ao27, co27, eo27⟩ := Kd.R_slice HO201.out; subst eo27) | ((with_reducible refine gate_builtin (b := .append) (xs := #[.tmp 58, .tmp 66]) rfl ?_); at_builtin; refine Kd.R_append_rows (Kd.int .u8) (w0 := w) w.heap.size rfl (.tmp 58) (.tmp 66) 107 5 (.int .u8 0) 1 rfl Try.underlying107 info5 rfl (by decide) (by omega) v197 y196 y199 _ _ _ (fun k_ => some k_ ≠ (.slice Ao22 t192.length co22 : Value).ownBlock ∧ some k_ ≠ (.slice Ao27 y199.length co27 : Value).ownBlock) (fun _ => False) rfl rfl ?aO ?aR (fun _ _ h => h) (fun _ h => h.elim) ?aF ?aB ?aS ?aL ?_; (case aR => repeat (first | exact (Kd.R_reads' HO201.out).2.2 | (with_reducible refine Kd.C_alloc ?_ _) | (with_reducible refine Kd.C_drewN ?_ _) | (with_reducible refine Kd.C_drew ?_))); (case aB => exact (upB HB)); (case aF => exact (fun k_ hk => ⟨Kd.fresh' (Kd.R_lt (upR HO194)) k_ hk, Kd.fresh' (Kd.R_lt (upR HO201)) k_ hk⟩)); (case aO => exact (upR HO198)); (case aS => exact (YE (upB HB))); (case aL => have := LMc18.out; omega); intro v203 w26 ho hb hg hat; rw [← Ny202.out] at ho; have n0_ := YL (blk_grown (g := gb187) (o := .cells #[.int .i64 a0_0, .int .i64 a0_1, .bool a0_2, .int .i64 a0_3, .int .i64 a0_4, .int .i64 a0_5, .int .i64 a0_6, .int .i64 a0_7, .int .i64 a0_8, .int .i64 a0_9, .int .i64 a0_10, .int .i64 a0_11] 34 (0, 0)) (upK BK187) hg (Kd.R_ne HO198.out BK187.out (by decide))); have n1_ := YL (Kd.R_after (ok := (fun k_ => some k_ ≠ (.slice Ao27 y199.length co27 : Value).ownBlock)) (by (with_reducible repeat (first | apply YS | apply YT | apply YU)); exact Kd.R_mono HO194.out (fun _ hk => by first | exact ⟨hk.2, hk.1.2⟩ | exact trivial | (simp [hk]; done) | simp_all)) hg hat); have n2_ := YL (Kd.R_after (ok := (fun k_ => some k_ ≠ (.slice Ao22 t192.length co22 : Value).ownBlock)) (by (with_reducible repeat (first | apply YS | apply YT | apply YU)); exact Kd.R_mono HO201.out (fun _ hk => by first | exact ⟨hk.1.2, hk.2⟩ | exact trivial | (simp [hk]; done) | simp_all)) hg hat); have n3_ := YL (hb); have n4_ := YL (ho); clear BK187; clear HO194; clear HO201; clear HB; clear HO198; have BK187 := n0_; have HO194 := n1_; have HO201 := n2_; have HB := n3_; have HO204 := n4_; clear n0_ n1_ n2_ n3_ n4_; clear ho hb hg hat))
       go_ret2
       exact ⟨_, by first | rfl | (simp [errW_none, errW_some] <;> rfl) | (simp [*, errW_none, errW_some] <;> rfl), by (with_reducible repeat (first | apply YS | apply YT | apply YU)); exact Kd.R_mono HO204.out (fun _ hk => trivial), by repeat (first | (with_reducible first | exact HB.out | apply YA | apply YB | apply YC | refine below_set ?_ GE187.out) | exact HB.out)⟩
      rw [if_neg c17] at H
      have c17b0 : (a0_0 == 4) = false := beq_eq_false_iff_ne.mpr c17
      have c17b1 : (a0_0 != 4) = true := bne_iff_ne.mpr c17
      simp only [Option.some.injEq, Prod.mk.injEq] at H
      obtain ⟨rfl, rfl⟩ := H
      obtain ⟨q28_0, q28_1, q28_2, q28_3, q28_4, q28_5, q28_6, q28_7, q28_8, q28_9, q28_10, q28_11⟩ := cA12 BK187.out
      obtain ⟨f28_0, f28_1, f28_2, f28_3, f28_4, f28_5, f28_6, f28_7, f28_8, f28_9, f28_10, f28_11⟩ := fA12 BK187.out
      go_wp2_with (first | ((with_reducible refine gate_callee (f := 69) rfl ?_); refine goesA (some 28) Try.func69 #[.agg #[.bool a0_2, .int .i64 a0_3, .int .i64 a0_4, .int .i64 a0_5, .int .i64 a0_6, .int .i64 a0_7]] ?_; (with_reducible refine (height_Bytes.calls kj3 a0_2 a0_3 a0_4 a0_5 a0_6 a0_7 t192 t195 _ A14.out).mono ?_); rintro e w29 ⟨v193, rfl, ho0, hb⟩; refine ⟨_, rfl, ?_⟩; have n0_ := YL (Kd.R_elder' (upR HO_5) (Kd.R_base ho0) hb); have n1_ := YL (Kd.R_lower (Kd.R_new' ho0 (Kd.R_lt (upR HO_5))) (YE (upB HB))); have n2_ := YL (YK (g := gb187) (o := .cells #[.int .i64 a0_0, .int .i64 a0_1, .bool a0_2, .int .i64 a0_3, .int .i64 a0_4, .int .i64 a0_5, .int .i64 a0_6, .int .i64 a0_7, .int .i64 a0_8, .int .i64 a0_9, .int .i64 a0_10, .int .i64 a0_11] 34 (0, 0)) (upK BK187) hb); have n3_ := YL (YD (upB HB) hb); clear HO_5; clear BK187; clear HB; have HO_5 := n0_; have HO194 := n1_; have BK187 := n2_; have HB := n3_; clear n0_ n1_ n2_ n3_; (try clear hb); (try clear hb2); (try clear hk); (try clear hi); (try clear ho0); obtain ⟨Ao31, co31, eo31⟩ := Kd.R_slice HO194.out; subst eo31) | ((with_reducible refine gate_builtin (b := .append) (xs := #[.tmp 34, .tmp 35]) rfl ?_); at_builtin; refine Kd.R_append_rows (Kd.int .u8) (w0 := w) w.heap.size rfl (.tmp 34) (.tmp 35) 107 5 (.int .u8 0) 1 rfl Try.underlying107 info5 rfl (by decide) (by omega) v190 y189 t192 _ _ _ (fun k_ => some k_ ≠ (.slice Ao31 t192.length co31 : Value).ownBlock) (fun _ => False) rfl rfl ?aO ?aR (fun _ _ h => h) (fun _ h => h.elim) ?aF ?aB ?aS ?aL ?_; (case aR => repeat (first | exact (Kd.R_reads' HO194.out).2.2 | (with_reducible refine Kd.C_alloc ?_ _) | (with_reducible refine Kd.C_drewN ?_ _) | (with_reducible refine Kd.C_drew ?_))); (case aB => exact (upB HB)); (case aF => exact (fun k_ hk => Kd.fresh' (Kd.R_lt (upR HO194)) k_ hk)); (case aO => exact (by (with_reducible repeat (first | apply YS | apply YT | apply YU)); exact Kd.R_mono HO_5.out (fun _ hk => by first | exact hk.2 | exact trivial | (simp [hk]; done) | simp_all))); (case aS => exact (YE (upB HB))); (case aL => have := LMc16.out; omega); intro v197 w30 ho hb hg hat; rw [← Ny196.out] at ho; have n0_ := YL (blk_grown (g := gb187) (o := .cells #[.int .i64 a0_0, .int .i64 a0_1, .bool a0_2, .int .i64 a0_3, .int .i64 a0_4, .int .i64 a0_5, .int .i64 a0_6, .int .i64 a0_7, .int .i64 a0_8, .int .i64 a0_9, .int .i64 a0_10, .int .i64 a0_11] 34 (0, 0)) (upK BK187) hg (Kd.R_ne HO_5.out BK187.out (by decide))); have n1_ := YL (Kd.R_after (ok := (fun _ => True)) (upR HO194) hg hat); have n2_ := YL (hb); have n3_ := YL (ho); clear BK187; clear HO194; clear HB; clear HO_5; have BK187 := n0_; have HO194 := n1_; have HB := n2_; have HO198 := n3_; clear n0_ n1_ n2_ n3_; clear ho hb hg hat; obtain ⟨q32_0, q32_1, q32_2, q32_3, q32_4, q32_5, q32_6, q32_7, q32_8, q32_9, q32_10, q32_11⟩ := cA12 BK187.out; obtain ⟨f32_0, f32_1, f32_2, f32_3, f32_4, f32_5, f32_6, f32_7, f32_8, f32_9, f32_10, f32_11⟩ := fA12 BK187.out))
      go_ret2
      exact ⟨_, by first | rfl | (simp [errW_none, errW_some] <;> rfl) | (simp [*, errW_none, errW_some] <;> rfl), by (with_reducible repeat (first | apply YS | apply YT | apply YU)); exact Kd.R_mono HO198.out (fun _ hk => trivial), by repeat (first | (with_reducible first | exact HB.out | apply YA | apply YB | apply YC | refine below_set ?_ GE187.out) | exact HB.out)⟩
     rw [if_neg c15] at H
     have c15b0 : (t195 == 0) = false := beq_eq_false_iff_ne.mpr c15
     have c15b1 : (t195 != 0) = true := bne_iff_ne.mpr c15
     simp only [Option.some.injEq, Prod.mk.injEq] at H
     obtain ⟨rfl, rfl⟩ := H
     obtain ⟨q33_0, q33_1, q33_2, q33_3, q33_4, q33_5, q33_6, q33_7, q33_8, q33_9, q33_10, q33_11⟩ := cA12 BK187.out
     obtain ⟨f33_0, f33_1, f33_2, f33_3, f33_4, f33_5, f33_6, f33_7, f33_8, f33_9, f33_10, f33_11⟩ := fA12 BK187.out
     go_wp2_with (first | ((with_reducible refine gate_callee (f := 69) rfl ?_); refine goesA (some 28) Try.func69 #[.agg #[.bool a0_2, .int .i64 a0_3, .int .i64 a0_4, .int .i64 a0_5, .int .i64 a0_6, .int .i64 a0_7]] ?_; (with_reducible refine (height_Bytes.calls kj3 a0_2 a0_3 a0_4 a0_5 a0_6 a0_7 t192 t195 _ A14.out).mono ?_); rintro e w34 ⟨v193, rfl, ho0, hb⟩; refine ⟨_, rfl, ?_⟩; have n0_ := YL (Kd.R_elder' (upR HO_5) (Kd.R_base ho0) hb); have n1_ := YL (Kd.R_lower (Kd.R_new' ho0 (Kd.R_lt (upR HO_5))) (YE (upB HB))); have n2_ := YL (YK (g := gb187) (o := .cells #[.int .i64 a0_0, .int .i64 a0_1, .bool a0_2, .int .i64 a0_3, .int .i64 a0_4, .int .i64 a0_5, .int .i64 a0_6, .int .i64 a0_7, .int .i64 a0_8, .int .i64 a0_9, .int .i64 a0_10, .int .i64 a0_11] 34 (0, 0)) (upK BK187) hb); have n3_ := YL (YD (upB HB) hb); clear HO_5; clear BK187; clear HB; have HO_5 := n0_; have HO194 := n1_; have BK187 := n2_; have HB := n3_; clear n0_ n1_ n2_ n3_; (try clear hb); (try clear hb2); (try clear hk); (try clear hi); (try clear ho0)))
     go_ret2
     exact ⟨_, by first | rfl | (simp [errW_none, errW_some] <;> rfl) | (simp [*, errW_none, errW_some] <;> rfl), by first | exact Kd.R_nil _ _ _ _ _ | exact Kd.N_nil _ _ _ _ _ | exact Kd.V_nil _ _ _ _ _ | exact Kd.Q_nil _ _ _ _ _ | exact Kd.S_nil _ _ _ _ _, by repeat (first | (with_reducible first | exact HB.out | apply YA | apply YB | apply YC | refine below_set ?_ GE187.out) | exact HB.out)⟩
    replace c13 := Bool.eq_false_iff.mpr c13
    subst c13
    have H1 : (if a0_0 = 3 then ((wire_Int.f a0_8).bind fun t205 => (if y189.length + t205.length < 140737488355328 then ((some (y189 ++ t205 : List Int)).bind fun y208 => ((some (([(a0_9) % 256, (a0_10) % 256] : List Int) : List Int)).bind fun y211 => (if y208.length + y211.length < 140737488355328 then ((some (y208 ++ y211 : List Int)).bind fun y214 => (if a0_0 = 4 then ((some (([(a0_11 / 256) % 256, (a0_11) % 256] : List Int) : List Int)).bind fun y217 => (if y214.length + y217.length < 140737488355328 then (some ((y214 ++ y217), 0)) else (none))) else (some (y214, 0)))) else (none)))) else (none))) else (if a0_0 = 4 then ((some (([(a0_11 / 256) % 256, (a0_11) % 256] : List Int) : List Int)).bind fun y223 => (if y189.length + y223.length < 140737488355328 then (some ((y189 ++ y223), 0)) else (none))) else (some (y189, 0)))) = some (r1, r2) := by rw [if_neg (show ¬ (false = true) by decide)] at H; exact H
    clear H
    have H := H1
    clear H1
    by_cases c35 : a0_0 = 3
    ·rw [if_pos c35] at H
     have c35b0 : (a0_0 == 3) = true := beq_iff_eq.mpr c35
     have c35b1 : (a0_0 != 3) = false := bne_eq_false_iff_eq.mpr c35
     clear c35; replace H := Option.bind_eq_some_iff.mp H; obtain ⟨t205, A360, H⟩ := H
     replace H : (if y189.length + t205.length < 140737488355328 then ((some (y189 ++ t205 : List Int)).bind fun y208 => ((some (([(a0_9) % 256, (a0_10) % 256] : List Int) : List Int)).bind fun y211 => (if y208.length + y211.length < 140737488355328 then ((some (y208 ++ y211 : List Int)).bind fun y214 => (if a0_0 = 4 then ((some (([(a0_11 / 256) % 256, (a0_11) % 256] : List Int) : List Int)).bind fun y217 => (if y214.length + y217.length < 140737488355328 then (some ((y214 ++ y217), 0)) else (none))) else (some (y214, 0)))) else (none)))) else (none)) = some (r1, r2) := H
     have A36 := YL A360; clear A360
     by_cases c37 : y189.length + t205.length < 140737488355328
     rotate_left
     ·rw [if_neg c37] at H
      exact absurd H (by simp)
     rw [if_pos c37] at H; have LMc37 := YL c37; clear c37
     obtain ⟨y208, hy208⟩ : ∃ y_ : List Int, y_ = (y189 ++ t205) := ⟨_, rfl⟩
     replace H : ((some (([(a0_9) % 256, (a0_10) % 256] : List Int) : List Int)).bind fun y211 => (if y208.length + y211.length < 140737488355328 then ((some (y208 ++ y211 : List Int)).bind fun y214 => (if a0_0 = 4 then ((some (([(a0_11 / 256) % 256, (a0_11) % 256] : List Int) : List Int)).bind fun y217 => (if y214.length + y217.length < 140737488355328 then (some ((y214 ++ y217), 0)) else (none))) else (some (y214, 0)))) else (none))) = some (r1, r2) := by first | (rw [hy208]; with_reducible exact H) | (have H2_ := (Option.bind_some _ _).symm.trans H; rw [hy208]; with_reducible exact H2_) | (have H2_ := (Option.bind_some _ _).symm.trans H; with_reducible exact H2_) | with_reducible exact H | (rw [hy208]; exact H) | exact H
     have Ny208 := YL hy208; clear hy208
     obtain ⟨y211, hy211⟩ : ∃ y_ : List Int, y_ = (([(a0_9) % 256, (a0_10) % 256] : List Int)) := ⟨_, rfl⟩
     replace H : (if y208.length + y211.length < 140737488355328 then ((some (y208 ++ y211 : List Int)).bind fun y214 => (if a0_0 = 4 then ((some (([(a0_11 / 256) % 256, (a0_11) % 256] : List Int) : List Int)).bind fun y217 => (if y214.length + y217.length < 140737488355328 then (some ((y214 ++ y217), 0)) else (none))) else (some (y214, 0)))) else (none)) = some (r1, r2) := by first | (rw [hy211]; with_reducible exact H) | (have H2_ := (Option.bind_some _ _).symm.trans H; rw [hy211]; with_reducible exact H2_) | (have H2_ := (Option.bind_some _ _).symm.trans H; with_reducible exact H2_) | with_reducible exact H | (rw [hy211]; exact H) | exact H
     have Ny211 := YL hy211; clear hy211
     by_cases c38 : y208.length + y211.length < 140737488355328
     rotate_left
     ·rw [if_neg c38] at H
      exact absurd H (by simp)
     rw [if_pos c38] at H; have LMc38 := YL c38; clear c38
     obtain ⟨y214, hy214⟩ : ∃ y_ : List Int, y_ = (y208 ++ y211) := ⟨_, rfl⟩
     replace H : (if a0_0 = 4 then ((some (([(a0_11 / 256) % 256, (a0_11) % 256] : List Int) : List Int)).bind fun y217 => (if y214.length + y217.length < 140737488355328 then (some ((y214 ++ y217), 0)) else (none))) else (some (y214, 0))) = some (r1, r2) := by first | (rw [hy214]; with_reducible exact H) | (have H2_ := (Option.bind_some _ _).symm.trans H; rw [hy214]; with_reducible exact H2_) | (have H2_ := (Option.bind_some _ _).symm.trans H; with_reducible exact H2_) | with_reducible exact H | (rw [hy214]; exact H) | exact H
     have Ny214 := YL hy214; clear hy214
     by_cases c39 : a0_0 = 4
     ·rw [if_pos c39] at H
      have c39b0 : (a0_0 == 4) = true := beq_iff_eq.mpr c39
      have c39b1 : (a0_0 != 4) = false := bne_eq_false_iff_eq.mpr c39
      clear c39
      obtain ⟨y217, hy217⟩ : ∃ y_ : List Int, y_ = (([(a0_11 / 256) % 256, (a0_11) % 256] : List Int)) := ⟨_, rfl⟩
      replace H : (if y214.length + y217.length < 140737488355328 then (some ((y214 ++ y217), 0)) else (none)) = some (r1, r2) := by first | (rw [hy217]; with_reducible exact H) | (have H2_ := (Option.bind_some _ _).symm.trans H; rw [hy217]; with_reducible exact H2_) | (have H2_ := (Option.bind_some _ _).symm.trans H; with_reducible exact H2_) | with_reducible exact H | (rw [hy217]; exact H) | exact H
      have Ny217 := YL hy217; clear hy217
      by_cases c40 : y214.length + y217.length < 140737488355328
      rotate_left
      ·rw [if_neg c40] at H
       exact absurd H (by simp)
      rw [if_pos c40] at H; have LMc40 := YL c40; clear c40
      obtain ⟨y220, hy220⟩ : ∃ y_ : List Int, y_ = (y214 ++ y217) := ⟨_, rfl⟩
      replace H : (some (y220, 0)) = some (r1, r2) := by first | (rw [hy220]; with_reducible exact H) | (have H2_ := (Option.bind_some _ _).symm.trans H; rw [hy220]; with_reducible exact H2_) | (have H2_ := (Option.bind_some _ _).symm.trans H; with_reducible exact H2_) | with_reducible exact H | (rw [hy220]; exact H) | exact H
      have Ny220 := YL hy220; clear hy220
      simp only [Option.some.injEq, Prod.mk.injEq] at H
      obtain ⟨rfl, rfl⟩ := H
      obtain ⟨Ao41, co41, eo41⟩ := Kd.R_slice HO_5.out
      subst eo41
      try go_wp2
      have n0_ := YL (YU HO_5.out)
      have n1_ := YL (YG BK187.out)
      have n2_ := YL (YC HB.out)
      clear HO_5; clear BK187; clear HB; have HO_5 := n0_; have BK187 := n1_; have HB := n2_; clear n0_ n1_ n2_
      refine start_ (n := 17) (S := fun w' => w'.cell? ⟨gb187, 0, none⟩ = some (.int .i64 a0_0) ∧ w'.cell? ⟨gb187, 1, none⟩ = some (.int .i64 a0_1) ∧ w'.cell? ⟨gb187, 2, none⟩ = some (.bool a0_2) ∧ w'.cell? ⟨gb187, 3, none⟩ = some (.int .i64 a0_3) ∧ w'.cell? ⟨gb187, 4, none⟩ = some (.int .i64 a0_4) ∧ w'.cell? ⟨gb187, 5, none⟩ = some (.int .i64 a0_5) ∧ w'.cell? ⟨gb187, 6, none⟩ = some (.int .i64 a0_6) ∧ w'.cell? ⟨gb187, 7, none⟩ = some (.int .i64 a0_7) ∧ w'.cell? ⟨gb187, 8, none⟩ = some (.int .i64 a0_8) ∧ w'.cell? ⟨gb187, 9, none⟩ = some (.int .i64 a0_9) ∧ w'.cell? ⟨gb187, 10, none⟩ = some (.int .i64 a0_10) ∧ w'.cell? ⟨gb187, 11, none⟩ = some (.int .i64 a0_11)) (ds := []) #[false, false, false, false, false, false, false, false, false, false, false, false, false, false, false, false, false] (by kernel_rfl) rfl rfl ⟨(YI BK187.out 0).trans rfl, (YI BK187.out 1).trans rfl, (YI BK187.out 2).trans rfl, (YI BK187.out 3).trans rfl, (YI BK187.out 4).trans rfl, (YI BK187.out 5).trans rfl, (YI BK187.out 6).trans rfl, (YI BK187.out 7).trans rfl, (YI BK187.out 8).trans rfl, (YI BK187.out 9).trans rfl, (YI BK187.out 10).trans rfl, (YI BK187.out 11).trans rfl⟩ (fun hHeld => ?_); refine with_tabW object_Bytes.tab13 object_Bytes.bits13 (fun HT_ HW_ => ?_)
      generalize wc.drew = w42 at HO_5 BK187 HB hHeld ⊢
      refine pure_ (i := 0) (N := some 39) (v := ?_) (a' := ?_) #[true, false, false, false, false, false, false, false, false, false, false, false, false, false, false, false, false] rfl rfl (any_of HT_.out (by kernel_rfl)) (fun _ _ _ h => h) (Or.inl ⟨by rfl, ?_⟩) ?_ ?_
      rotate_left
      ·intro w'
       go_simp; with_reducible rfl
      rotate_left
      ·simp only [Act.put, YM, YN, YO, i64_w, i32_w]
       rfl
      refine pure_ (i := 1) (N := some 40) (v := ?_) (a' := ?_) #[true, true, false, false, false, false, false, false, false, false, false, false, false, false, false, false, false] rfl rfl (any_of HT_.out (by kernel_rfl)) (fun _ _ _ h => h) (Or.inl ⟨by rfl, ?_⟩) ?_ ?_
      rotate_left
      ·intro w'
       go_simp; with_reducible rfl
      rotate_left
      ·simp only [Act.put, YM, YN, YO, i64_w, i32_w]
       rfl
      refine pure_ (i := 2) (N := some 41) (v := ?_) (a' := ?_) #[true, true, true, false, false, false, false, false, false, false, false, false, false, false, false, false, false] rfl rfl (any_of HT_.out (by kernel_rfl)) (fun _ _ _ h => h) (Or.inl ⟨by rfl, ?_⟩) ?_ ?_
      rotate_left
      ·intro w'
       go_simp; with_reducible rfl
      rotate_left
      ·simp only [Act.put, YM, YN, YO, i64_w, i32_w]
       rfl
      refine pure_ (i := 6) (N := some 45) (v := ?_) (a' := ?_) #[true, true, true, false, false, false, true, false, false, false, false, false, false, false, false, false, false] rfl rfl (any_of HT_.out (by kernel_rfl)) (fun _ _ _ h => h) (Or.inl ⟨by rfl, ?_⟩) ?_ ?_
      rotate_left
      ·intro w'
       go_simp; with_reducible rfl
      rotate_left
      ·simp only [Act.put, YM, YN, YO, i64_w, i32_w]
       rfl
      refine pure_ (i := 7) (N := some 46) (v := ?_) (a' := ?_) #[true, true, true, false, false, false, true, true, false, false, false, false, false, false, false, false, false] rfl rfl (any_of HT_.out (by kernel_rfl)) (fun _ _ _ h => h) (Or.inl ⟨by rfl, ?_⟩) ?_ ?_
      rotate_left
      ·intro w'
       go_simp; with_reducible rfl
      rotate_left
      ·simp only [Act.put, YM, YN, YO, i64_w, i32_w]
       rfl
      refine pure_ (i := 10) (N := some 49) (v := ?_) (a' := ?_) #[true, true, true, false, false, false, true, true, false, false, true, false, false, false, false, false, false] rfl rfl (any_of HT_.out (by kernel_rfl)) (fun _ _ _ h => h) (Or.inl ⟨by rfl, ?_⟩) ?_ ?_
      rotate_left
      ·intro w'
       go_simp; with_reducible rfl
      rotate_left
      ·simp only [Act.put, YM, YN, YO, i64_w, i32_w]
       rfl
      refine pure_ (i := 11) (N := some 50) (v := ?_) (a' := ?_) #[true, true, true, false, false, false, true, true, false, false, true, true, false, false, false, false, false] rfl rfl (any_of HT_.out (by kernel_rfl)) (fun _ _ _ h => h) (Or.inl ⟨by rfl, ?_⟩) ?_ ?_
      rotate_left
      ·intro w'
       go_simp; with_reducible rfl
      rotate_left
      ·simp only [Act.put, YM, YN, YO, i64_w, i32_w]
       rfl
      refine take_ (i := 3) (N := some 42) (v := ?_) (a' := ?_) #[true, true, true, true, false, false, true, true, false, false, true, true, false, false, false, false, false] rfl rfl (take_ofW HT_.out HW_.out (by kernel_rfl)) (fun _ _ _ h => h) (Or.inl ⟨by rfl, ?_⟩) hHeld ?_ ?_
      rotate_left
      ·rintro w' ⟨s0, s1, s2, s3, s4, s5, s6, s7, s8, s9, s10, s11⟩
       go_simp; with_reducible rfl
      rotate_left
      ·simp only [Act.put, YM, YN, YO, i64_w, i32_w]
       rfl
      refine take_ (i := 8) (N := some 47) (v := ?_) (a' := ?_) #[true, true, true, true, false, false, true, true, true, false, true, true, false, false, false, false, false] rfl rfl (take_ofW HT_.out HW_.out (by kernel_rfl)) (fun _ _ _ h => h) (Or.inl ⟨by rfl, ?_⟩) hHeld ?_ ?_
      rotate_left
      ·rintro w' ⟨s0, s1, s2, s3, s4, s5, s6, s7, s8, s9, s10, s11⟩
       go_simp; with_reducible rfl
      rotate_left
      ·simp only [Act.put, YM, YN, YO, i64_w, i32_w]
       rfl
      refine pure_ (i := 9) (N := some 48) (v := ?_) (a' := ?_) #[true, true, true, true, false, false, true, true, true, true, true, true, false, false, false, false, false] rfl rfl (any_of HT_.out (by kernel_rfl)) (fun _ _ _ h => h) (Or.inl ⟨by rfl, ?_⟩) ?_ ?_
      rotate_left
      ·intro w'
       go_simp; with_reducible rfl
      rotate_left
      ·simp only [Act.put, YM, YN, YO, i64_w, i32_w]
       rfl
      refine take_ (i := 12) (N := some 51) (v := ?_) (a' := ?_) #[true, true, true, true, false, false, true, true, true, true, true, true, true, false, false, false, false] rfl rfl (take_ofW HT_.out HW_.out (by kernel_rfl)) (fun _ _ _ h => h) (Or.inl ⟨by rfl, ?_⟩) hHeld ?_ ?_
      rotate_left
      ·rintro w' ⟨s0, s1, s2, s3, s4, s5, s6, s7, s8, s9, s10, s11⟩
       go_simp; with_reducible rfl
      rotate_left
      ·simp only [Act.put, YM, YN, YO, i64_w, i32_w]
       rfl
      refine pure_ (i := 13) (N := some 52) (v := ?_) (a' := ?_) #[true, true, true, true, false, false, true, true, true, true, true, true, true, true, false, false, false] rfl rfl (any_of HT_.out (by kernel_rfl)) (fun _ _ _ h => h) (Or.inl ⟨by rfl, ?_⟩) ?_ ?_
      rotate_left
      ·intro w'
       go_simp; with_reducible rfl
      rotate_left
      ·simp only [Act.put, YM, YN, YO, i64_w, i32_w]
       rfl
      refine join_ (σ := Value × Value × Value) 2 #[true, true, true, true, true, true, true, true, true, true, true, true, true, true, true, false, false] (fun s_ => [(43, s_.1), (44, s_.2.1), (53, s_.2.2)]) (fun s_ w' => (w'.cell? ⟨gb187, 0, none⟩ = some (.int .i64 a0_0) ∧ w'.cell? ⟨gb187, 1, none⟩ = some (.int .i64 a0_1) ∧ w'.cell? ⟨gb187, 2, none⟩ = some (.bool a0_2) ∧ w'.cell? ⟨gb187, 3, none⟩ = some (.int .i64 a0_3) ∧ w'.cell? ⟨gb187, 4, none⟩ = some (.int .i64 a0_4) ∧ w'.cell? ⟨gb187, 5, none⟩ = some (.int .i64 a0_5) ∧ w'.cell? ⟨gb187, 6, none⟩ = some (.int .i64 a0_6) ∧ w'.cell? ⟨gb187, 7, none⟩ = some (.int .i64 a0_7) ∧ w'.cell? ⟨gb187, 8, none⟩ = some (.int .i64 a0_8) ∧ w'.cell? ⟨gb187, 9, none⟩ = some (.int .i64 a0_9) ∧ w'.cell? ⟨gb187, 10, none⟩ = some (.int .i64 a0_10) ∧ w'.cell? ⟨gb187, 11, none⟩ = some (.int .i64 a0_11)) ∧ (Kd.R (Kd.int .u8) 5 w' w.heap.size (fun k_ => some k_ ≠ (s_.2.1 : Value).ownBlock ∧ some k_ ≠ (s_.2.2 : Value).ownBlock) s_.1 t205) ∧ (Kd.R (Kd.int .u8) 5 w' w.heap.size (fun k_ => some k_ ≠ (s_.1 : Value).ownBlock ∧ some k_ ≠ (s_.2.2 : Value).ownBlock) s_.2.1 y208) ∧ (Kd.R (Kd.int .u8) 5 w' w.heap.size (fun k_ => some k_ ≠ (s_.1 : Value).ownBlock ∧ some k_ ≠ (s_.2.1 : Value).ownBlock) s_.2.2 y211) ∧ (w'.heap[gb187]? = some (.cells #[.int .i64 a0_0, .int .i64 a0_1, .bool a0_2, .int .i64 a0_3, .int .i64 a0_4, .int .i64 a0_5, .int .i64 a0_6, .int .i64 a0_7, .int .i64 a0_8, .int .i64 a0_9, .int .i64 a0_10, .int .i64 a0_11] 34 (0, 0))) ∧ (Below w.heap.size w w')) ?_ ?_
      rotate_left
      ·intro hCont
       refine two_ (i := 4) (j := 14) (Ni := some 43) (Nj := some 53) #[true, true, true, true, true, false, true, true, true, true, true, true, true, true, false, false, false] #[true, true, true, true, false, false, true, true, true, true, true, true, true, true, true, false, false] rfl rfl rfl rfl (two_of HT_.out (by kernel_rfl)) (by decide) (by decide) (fun K hK => ?_) (fun K hK => ?_)
       ·skip
        refine goes_ Try.func70 (by kernel_rfl) rfl #[.int .i64 a0_8] (by rfl) rfl rfl (by (try simp only [YP, List.map_cons, List.map_nil]); first | done | rfl | (simp only [YR, YQ]; rfl)) ?_
        with_reducible refine (wire_Int.calls a0_8 t205 _ A36.out).mono ?_
        rintro e w43 ⟨v206, rfl, ho0, hb⟩
        refine ⟨_, rfl, ?_⟩
        have n0_ := YL (Kd.R_elder' (upR HO_5) (Kd.R_base ho0) hb)
        have n1_ := YL (Kd.R_lower (Kd.R_new' ho0 (Kd.R_lt (upR HO_5))) (YE (upB HB)))
        have n2_ := YL (YK (g := gb187) (o := .cells #[.int .i64 a0_0, .int .i64 a0_1, .bool a0_2, .int .i64 a0_3, .int .i64 a0_4, .int .i64 a0_5, .int .i64 a0_6, .int .i64 a0_7, .int .i64 a0_8, .int .i64 a0_9, .int .i64 a0_10, .int .i64 a0_11] 34 (0, 0)) (upK BK187) hb)
        have n3_ := YL (YD (upB HB) hb)
        clear HO_5; clear BK187; clear HB; have HO_5 := n0_; have HO207 := n1_; have BK187 := n2_; have HB := n3_; clear n0_ n1_ n2_ n3_; (try clear hb); (try clear hb2); (try clear hk); (try clear hi); (try clear ho0)
        obtain ⟨Ao45, co45, eo45⟩ := Kd.R_slice HO207.out
        (first | subst eo45 | (injection eo45 with f1_ f2_ f3_; have f4_ := f1_.symm; have f5_ := f3_.symm; clear f1_ f2_ f3_; subst f4_; subst f5_))
        refine hK.out _ _ ⟨(YI BK187.out 0).trans rfl, (YI BK187.out 1).trans rfl, (YI BK187.out 2).trans rfl, (YI BK187.out 3).trans rfl, (YI BK187.out 4).trans rfl, (YI BK187.out 5).trans rfl, (YI BK187.out 6).trans rfl, (YI BK187.out 7).trans rfl, (YI BK187.out 8).trans rfl, (YI BK187.out 9).trans rfl, (YI BK187.out 10).trans rfl, (YI BK187.out 11).trans rfl⟩ (fun hHeld => ?_)
        clear hK K
        refine normA (N := 43) ?_
        refine two_ (i := 5) (j := 14) (Ni := some 44) (Nj := some 53) #[true, true, true, true, true, true, true, true, true, true, true, true, true, true, false, false, false] #[true, true, true, true, true, false, true, true, true, true, true, true, true, true, true, false, false] rfl rfl rfl rfl (two_of HT_.out (by kernel_rfl)) (by decide) (by decide) (fun K hK => ?_) (fun K hK => ?_)
        ·skip
         refine Kd.R_append_rows_step (Kd.int .u8) (w0 := w) w.heap.size (by rfl) (.tmp 39) (.tmp 43) 107 5 (.int .u8 0) 1 rfl Try.underlying107 info5 rfl (by decide) (by omega) (.slice Ao41 y189.length co41) y189 t205 _ _ _ (fun k_ => some k_ ≠ (.slice Ao45 t205.length co45 : Value).ownBlock) (fun _ => False) rfl rfl ?aO ?aR (fun _ _ h => h) (fun _ h => h.elim) ?aF ?aB ?aS ?aL ?_
         (case aR => repeat (first | exact (Kd.R_reads' HO207.out).2.2 | (with_reducible refine Kd.C_alloc ?_ _) | (with_reducible refine Kd.C_drewN ?_ _) | (with_reducible refine Kd.C_drew ?_)))
         (case aB => exact (upB HB))
         (case aF => exact (fun k_ hk => Kd.fresh' (Kd.R_lt (upR HO207)) k_ hk))
         (case aO => exact (by (with_reducible repeat (first | apply YS | apply YT | apply YU)); exact Kd.R_mono HO_5.out (fun _ hk => by first | exact hk.2 | exact trivial | (simp [hk]; done) | simp_all)))
         (case aS => exact (YE (upB HB)))
         (case aL => have := LMc37.out; omega)
         intro v209 w44 ho hb hg hat
         rw [← Ny208.out] at ho
         have n0_ := YL (blk_grown (g := gb187) (o := .cells #[.int .i64 a0_0, .int .i64 a0_1, .bool a0_2, .int .i64 a0_3, .int .i64 a0_4, .int .i64 a0_5, .int .i64 a0_6, .int .i64 a0_7, .int .i64 a0_8, .int .i64 a0_9, .int .i64 a0_10, .int .i64 a0_11] 34 (0, 0)) (upK BK187) hg (Kd.R_ne HO_5.out BK187.out (by decide)))
         have n1_ := YL (Kd.R_after (ok := (fun _ => True)) (upR HO207) hg hat)
         have n2_ := YL (hb)
         have n3_ := YL (ho)
         clear BK187; clear HO207; clear HB; clear HO_5; have BK187 := n0_; have HO207 := n1_; have HB := n2_; have HO210 := n3_; clear n0_ n1_ n2_ n3_; clear ho hb hg hat
         refine hK.out _ _ ⟨(YI BK187.out 0).trans rfl, (YI BK187.out 1).trans rfl, (YI BK187.out 2).trans rfl, (YI BK187.out 3).trans rfl, (YI BK187.out 4).trans rfl, (YI BK187.out 5).trans rfl, (YI BK187.out 6).trans rfl, (YI BK187.out 7).trans rfl, (YI BK187.out 8).trans rfl, (YI BK187.out 9).trans rfl, (YI BK187.out 10).trans rfl, (YI BK187.out 11).trans rfl⟩ (fun hHeld => ?_)
         clear hK K
         refine normA (N := 44) ?_
         refine oneA (i := 14) (N := some 53) HT_ (fun K hK => ?_)
         refine Kd.R_lit_step (Kd.int .u8) _ 5 ?hg (N := 53) ?hd (xs := ([(a0_9) % 256, (a0_10) % 256] : List Int)) (inner := [.int .u8 ((a0_9) % 256), .int .u8 ((a0_10) % 256)]) (ok := fun _ => True) (okp := fun _ => True) ?hr ?hp (fun _ hk => hk) trivial (Below.refl _ _) (Nat.le_refl _) (by simp) ?_; (case hd => rfl); (case hg => rfl); (case hr => first | (go_simp; done) | (go_simp; rfl)); (case hp => exact (Reps.one (show Kd.M (Kd.int .u8) _ _ _ ((a0_9) % 256) [.int .u8 ((a0_9) % 256)] from rfl) (Reps.one (show Kd.M (Kd.int .u8) _ _ _ ((a0_10) % 256) [.int .u8 ((a0_10) % 256)] from rfl) (Reps.none _ _))))
         intro v212 w46 ho47 hb hg_ hnew_
         clear hg_ hnew_
         (first | rw [← Ny211.out] at ho47 | (simp only [Int.reduceToNat] at ho47; rw [← Ny211.out] at ho47))
         have n0_ := YL (Kd.R_elder' (upR HO207) (Kd.R_base ho47) hb)
         have n1_ := YL (Kd.R_elder' (upR HO210) (Kd.R_base ho47) hb)
         have n2_ := YL (Kd.R_lower (Kd.R_new' (Kd.R_new' ho47 (Kd.R_lt (upR HO207))) (Kd.R_lt (upR HO210))) (YE (upB HB)))
         have n3_ := YL (YK (g := gb187) (o := .cells #[.int .i64 a0_0, .int .i64 a0_1, .bool a0_2, .int .i64 a0_3, .int .i64 a0_4, .int .i64 a0_5, .int .i64 a0_6, .int .i64 a0_7, .int .i64 a0_8, .int .i64 a0_9, .int .i64 a0_10, .int .i64 a0_11] 34 (0, 0)) (upK BK187) hb)
         have n4_ := YL (YD (upB HB) hb)
         clear HO207; clear HO210; clear BK187; clear HB; have HO207 := n0_; have HO210 := n1_; have HO213 := n2_; have BK187 := n3_; have HB := n4_; clear n0_ n1_ n2_ n3_ n4_; clear hb ho47
         refine hK.out _ _ ⟨(YI BK187.out 0).trans rfl, (YI BK187.out 1).trans rfl, (YI BK187.out 2).trans rfl, (YI BK187.out 3).trans rfl, (YI BK187.out 4).trans rfl, (YI BK187.out 5).trans rfl, (YI BK187.out 6).trans rfl, (YI BK187.out 7).trans rfl, (YI BK187.out 8).trans rfl, (YI BK187.out 9).trans rfl, (YI BK187.out 10).trans rfl, (YI BK187.out 11).trans rfl⟩ (fun hHeld => ?_)
         clear hK K
         refine normA (N := 53) ?_
         exact norm_ (by simp only [putAll, Act.put, YM, YN, YO]) (hCont (.slice Ao45 t205.length co45, v209, v212) _ ⟨hHeld, (by (with_reducible repeat (first | apply YS | apply YT | apply YU)); exact Kd.R_mono HO207.out (fun _ hk => by first | exact ⟨hk.1.2, hk.2⟩ | exact trivial | (simp [hk]; done) | simp_all)), (upR HO210), (by (with_reducible repeat (first | apply YS | apply YT | apply YU)); exact Kd.R_mono HO213.out (fun _ hk => by first | exact ⟨hk.1.2, hk.2⟩ | exact trivial | (simp [hk]; done) | simp_all)), (upK BK187), (upB HB)⟩)
        skip
        refine Kd.R_lit_step (Kd.int .u8) _ 5 ?hg (N := 53) ?hd (xs := ([(a0_9) % 256, (a0_10) % 256] : List Int)) (inner := [.int .u8 ((a0_9) % 256), .int .u8 ((a0_10) % 256)]) (ok := fun _ => True) (okp := fun _ => True) ?hr ?hp (fun _ hk => hk) trivial (Below.refl _ _) (Nat.le_refl _) (by simp) ?_; (case hd => rfl); (case hg => rfl); (case hr => first | (go_simp; done) | (go_simp; rfl)); (case hp => exact (Reps.one (show Kd.M (Kd.int .u8) _ _ _ ((a0_9) % 256) [.int .u8 ((a0_9) % 256)] from rfl) (Reps.one (show Kd.M (Kd.int .u8) _ _ _ ((a0_10) % 256) [.int .u8 ((a0_10) % 256)] from rfl) (Reps.none _ _))))
        intro v212 w44 ho45 hb hg_ hnew_
        clear hg_ hnew_
        (first | rw [← Ny211.out] at ho45 | (simp only [Int.reduceToNat] at ho45; rw [← Ny211.out] at ho45))
        have n0_ := YL (Kd.R_elder' (upR HO_5) (Kd.R_base ho45) hb)
        have n1_ := YL (Kd.R_elder' (upR HO207) (Kd.R_base ho45) hb)
        have n2_ := YL (Kd.R_lower (Kd.R_new' (Kd.R_new' ho45 (Kd.R_lt (upR HO_5))) (Kd.R_lt (upR HO207))) (YE (upB HB)))
        have n3_ := YL (YK (g := gb187) (o := .cells #[.int .i64 a0_0, .int .i64 a0_1, .bool a0_2, .int .i64 a0_3, .int .i64 a0_4, .int .i64 a0_5, .int .i64 a0_6, .int .i64 a0_7, .int .i64 a0_8, .int .i64 a0_9, .int .i64 a0_10, .int .i64 a0_11] 34 (0, 0)) (upK BK187) hb)
        have n4_ := YL (YD (upB HB) hb)
        clear HO_5; clear HO207; clear BK187; clear HB; have HO_5 := n0_; have HO207 := n1_; have HO213 := n2_; have BK187 := n3_; have HB := n4_; clear n0_ n1_ n2_ n3_ n4_; clear hb ho45
        obtain ⟨Ao47, co47, eo47⟩ := Kd.R_slice HO207.out
        (first | subst eo47 | (injection eo47 with f1_ f2_ f3_; have f4_ := f1_.symm; have f5_ := f3_.symm; clear f1_ f2_ f3_; subst f4_; subst f5_))
        refine hK.out _ _ ⟨(YI BK187.out 0).trans rfl, (YI BK187.out 1).trans rfl, (YI BK187.out 2).trans rfl, (YI BK187.out 3).trans rfl, (YI BK187.out 4).trans rfl, (YI BK187.out 5).trans rfl, (YI BK187.out 6).trans rfl, (YI BK187.out 7).trans rfl, (YI BK187.out 8).trans rfl, (YI BK187.out 9).trans rfl, (YI BK187.out 10).trans rfl, (YI BK187.out 11).trans rfl⟩ (fun hHeld => ?_)
        clear hK K
        refine normA (N := 53) ?_
        refine oneA (i := 5) (N := some 44) HT_ (fun K hK => ?_)
        refine Kd.R_append_rows_step (Kd.int .u8) (w0 := w) w.heap.size (by rfl) (.tmp 39) (.tmp 43) 107 5 (.int .u8 0) 1 rfl Try.underlying107 info5 rfl (by decide) (by omega) (.slice Ao41 y189.length co41) y189 t205 _ _ _ (fun k_ => some k_ ≠ (.slice Ao47 t205.length co47 : Value).ownBlock ∧ some k_ ≠ (v212 : Value).ownBlock) (fun _ => False) rfl rfl ?aO ?aR (fun _ _ h => h) (fun _ h => h.elim) ?aF ?aB ?aS ?aL ?_
        (case aR => repeat (first | exact (Kd.R_reads' HO207.out).2.2 | (with_reducible refine Kd.C_alloc ?_ _) | (with_reducible refine Kd.C_drewN ?_ _) | (with_reducible refine Kd.C_drew ?_)))
        (case aB => exact (upB HB))
        (case aF => exact (fun k_ hk => ⟨Kd.fresh' (Kd.R_lt (upR HO207)) k_ hk, Kd.fresh' (Kd.R_lt (upR HO213)) k_ hk⟩))
        (case aO => exact (by (with_reducible repeat (first | apply YS | apply YT | apply YU)); exact Kd.R_mono HO_5.out (fun _ hk => by first | exact ⟨hk.1.2, hk.2⟩ | exact trivial | (simp [hk]; done) | simp_all)))
        (case aS => exact (YE (upB HB)))
        (case aL => have := LMc37.out; omega)
        intro v209 w46 ho hb hg hat
        rw [← Ny208.out] at ho
        have n0_ := YL (blk_grown (g := gb187) (o := .cells #[.int .i64 a0_0, .int .i64 a0_1, .bool a0_2, .int .i64 a0_3, .int .i64 a0_4, .int .i64 a0_5, .int .i64 a0_6, .int .i64 a0_7, .int .i64 a0_8, .int .i64 a0_9, .int .i64 a0_10, .int .i64 a0_11] 34 (0, 0)) (upK BK187) hg (Kd.R_ne HO_5.out BK187.out (by decide)))
        have n1_ := YL (Kd.R_after (ok := (fun k_ => some k_ ≠ (v212 : Value).ownBlock)) (by (with_reducible repeat (first | apply YS | apply YT | apply YU)); exact Kd.R_mono HO207.out (fun _ hk => by first | exact ⟨hk.2, hk.1.2⟩ | exact trivial | (simp [hk]; done) | simp_all)) hg hat)
        have n2_ := YL (Kd.R_after (ok := (fun k_ => some k_ ≠ (.slice Ao47 t205.length co47 : Value).ownBlock)) (by (with_reducible repeat (first | apply YS | apply YT | apply YU)); exact Kd.R_mono HO213.out (fun _ hk => by first | exact ⟨hk.2, hk.1.2⟩ | exact trivial | (simp [hk]; done) | simp_all)) hg hat)
        have n3_ := YL (hb)
        have n4_ := YL (ho)
        clear BK187; clear HO207; clear HO213; clear HB; clear HO_5; have BK187 := n0_; have HO207 := n1_; have HO213 := n2_; have HB := n3_; have HO210 := n4_; clear n0_ n1_ n2_ n3_ n4_; clear ho hb hg hat
        refine hK.out _ _ ⟨(YI BK187.out 0).trans rfl, (YI BK187.out 1).trans rfl, (YI BK187.out 2).trans rfl, (YI BK187.out 3).trans rfl, (YI BK187.out 4).trans rfl, (YI BK187.out 5).trans rfl, (YI BK187.out 6).trans rfl, (YI BK187.out 7).trans rfl, (YI BK187.out 8).trans rfl, (YI BK187.out 9).trans rfl, (YI BK187.out 10).trans rfl, (YI BK187.out 11).trans rfl⟩ (fun hHeld => ?_)
        clear hK K
        refine normA (N := 44) ?_
        exact norm_ (by simp only [putAll, Act.put, YM, YN, YO]) (hCont (.slice Ao47 t205.length co47, v209, v212) _ ⟨hHeld, (by (with_reducible repeat (first | apply YS | apply YT | apply YU)); exact Kd.R_mono HO207.out (fun _ hk => by first | exact ⟨hk.2, hk.1⟩ | exact trivial | (simp [hk]; done) | simp_all)), (upR HO210), (upR HO213), (upK BK187), (upB HB)⟩)
       skip
       refine Kd.R_lit_step (Kd.int .u8) _ 5 ?hg (N := 53) ?hd (xs := ([(a0_9) % 256, (a0_10) % 256] : List Int)) (inner := [.int .u8 ((a0_9) % 256), .int .u8 ((a0_10) % 256)]) (ok := fun _ => True) (okp := fun _ => True) ?hr ?hp (fun _ hk => hk) trivial (Below.refl _ _) (Nat.le_refl _) (by simp) ?_; (case hd => rfl); (case hg => rfl); (case hr => first | (go_simp; done) | (go_simp; rfl)); (case hp => exact (Reps.one (show Kd.M (Kd.int .u8) _ _ _ ((a0_9) % 256) [.int .u8 ((a0_9) % 256)] from rfl) (Reps.one (show Kd.M (Kd.int .u8) _ _ _ ((a0_10) % 256) [.int .u8 ((a0_10) % 256)] from rfl) (Reps.none _ _))))
       intro v212 w43 ho44 hb hg_ hnew_
       clear hg_ hnew_
       (first | rw [← Ny211.out] at ho44 | (simp only [Int.reduceToNat] at ho44; rw [← Ny211.out] at ho44))
       have n0_ := YL (Kd.R_elder' (upR HO_5) (Kd.R_base ho44) hb)
       have n1_ := YL (Kd.R_lower (Kd.R_new' ho44 (Kd.R_lt (upR HO_5))) (YE (upB HB)))
       have n2_ := YL (YK (g := gb187) (o := .cells #[.int .i64 a0_0, .int .i64 a0_1, .bool a0_2, .int .i64 a0_3, .int .i64 a0_4, .int .i64 a0_5, .int .i64 a0_6, .int .i64 a0_7, .int .i64 a0_8, .int .i64 a0_9, .int .i64 a0_10, .int .i64 a0_11] 34 (0, 0)) (upK BK187) hb)
       have n3_ := YL (YD (upB HB) hb)
       clear HO_5; clear BK187; clear HB; have HO_5 := n0_; have HO213 := n1_; have BK187 := n2_; have HB := n3_; clear n0_ n1_ n2_ n3_; clear hb ho44
       refine hK.out _ _ ⟨(YI BK187.out 0).trans rfl, (YI BK187.out 1).trans rfl, (YI BK187.out 2).trans rfl, (YI BK187.out 3).trans rfl, (YI BK187.out 4).trans rfl, (YI BK187.out 5).trans rfl, (YI BK187.out 6).trans rfl, (YI BK187.out 7).trans rfl, (YI BK187.out 8).trans rfl, (YI BK187.out 9).trans rfl, (YI BK187.out 10).trans rfl, (YI BK187.out 11).trans rfl⟩ (fun hHeld => ?_)
       clear hK K
       refine normA (N := 53) ?_
       refine oneA (i := 4) (N := some 43) HT_ (fun K hK => ?_)
       refine goes_ Try.func70 (by kernel_rfl) rfl #[.int .i64 a0_8] (by rfl) rfl rfl (by (try simp only [YP, List.map_cons, List.map_nil]); first | done | rfl | (simp only [YR, YQ]; rfl)) ?_
       with_reducible refine (wire_Int.calls a0_8 t205 _ A36.out).mono ?_
       rintro e w45 ⟨v206, rfl, ho0, hb⟩
       refine ⟨_, rfl, ?_⟩
       have n0_ := YL (Kd.R_elder' (upR HO_5) (Kd.R_base ho0) hb)
       have n1_ := YL (Kd.R_elder' (upR HO213) (Kd.R_base ho0) hb)
       have n2_ := YL (Kd.R_lower (Kd.R_new' (Kd.R_new' ho0 (Kd.R_lt (upR HO_5))) (Kd.R_lt (upR HO213))) (YE (upB HB)))
       have n3_ := YL (YK (g := gb187) (o := .cells #[.int .i64 a0_0, .int .i64 a0_1, .bool a0_2, .int .i64 a0_3, .int .i64 a0_4, .int .i64 a0_5, .int .i64 a0_6, .int .i64 a0_7, .int .i64 a0_8, .int .i64 a0_9, .int .i64 a0_10, .int .i64 a0_11] 34 (0, 0)) (upK BK187) hb)
       have n4_ := YL (YD (upB HB) hb)
       clear HO_5; clear HO213; clear BK187; clear HB; have HO_5 := n0_; have HO213 := n1_; have HO207 := n2_; have BK187 := n3_; have HB := n4_; clear n0_ n1_ n2_ n3_ n4_; (try clear hb); (try clear hb2); (try clear hk); (try clear hi); (try clear ho0)
       obtain ⟨Ao47, co47, eo47⟩ := Kd.R_slice HO207.out
       (first | subst eo47 | (injection eo47 with f1_ f2_ f3_; have f4_ := f1_.symm; have f5_ := f3_.symm; clear f1_ f2_ f3_; subst f4_; subst f5_))
       refine hK.out _ _ ⟨(YI BK187.out 0).trans rfl, (YI BK187.out 1).trans rfl, (YI BK187.out 2).trans rfl, (YI BK187.out 3).trans rfl, (YI BK187.out 4).trans rfl, (YI BK187.out 5).trans rfl, (YI BK187.out 6).trans rfl, (YI BK187.out 7).trans rfl, (YI BK187.out 8).trans rfl, (YI BK187.out 9).trans rfl, (YI BK187.out 10).trans rfl, (YI BK187.out 11).trans rfl⟩ (fun hHeld => ?_)
       clear hK K
       refine normA (N := 43) ?_
       refine oneA (i := 5) (N := some 44) HT_ (fun K hK => ?_)
       refine Kd.R_append_rows_step (Kd.int .u8) (w0 := w) w.heap.size (by rfl) (.tmp 39) (.tmp 43) 107 5 (.int .u8 0) 1 rfl Try.underlying107 info5 rfl (by decide) (by omega) (.slice Ao41 y189.length co41) y189 t205 _ _ _ (fun k_ => some k_ ≠ (v212 : Value).ownBlock ∧ some k_ ≠ (.slice Ao47 t205.length co47 : Value).ownBlock) (fun _ => False) rfl rfl ?aO ?aR (fun _ _ h => h) (fun _ h => h.elim) ?aF ?aB ?aS ?aL ?_
       (case aR => repeat (first | exact (Kd.R_reads' HO207.out).2.2 | (with_reducible refine Kd.C_alloc ?_ _) | (with_reducible refine Kd.C_drewN ?_ _) | (with_reducible refine Kd.C_drew ?_)))
       (case aB => exact (upB HB))
       (case aF => exact (fun k_ hk => ⟨Kd.fresh' (Kd.R_lt (upR HO213)) k_ hk, Kd.fresh' (Kd.R_lt (upR HO207)) k_ hk⟩))
       (case aO => exact (by (with_reducible repeat (first | apply YS | apply YT | apply YU)); exact Kd.R_mono HO_5.out (fun _ hk => by first | exact ⟨hk.1.2, hk.2⟩ | exact trivial | (simp [hk]; done) | simp_all)))
       (case aS => exact (YE (upB HB)))
       (case aL => have := LMc37.out; omega)
       intro v209 w46 ho hb hg hat
       rw [← Ny208.out] at ho
       have n0_ := YL (blk_grown (g := gb187) (o := .cells #[.int .i64 a0_0, .int .i64 a0_1, .bool a0_2, .int .i64 a0_3, .int .i64 a0_4, .int .i64 a0_5, .int .i64 a0_6, .int .i64 a0_7, .int .i64 a0_8, .int .i64 a0_9, .int .i64 a0_10, .int .i64 a0_11] 34 (0, 0)) (upK BK187) hg (Kd.R_ne HO_5.out BK187.out (by decide)))
       have n1_ := YL (Kd.R_after (ok := (fun k_ => some k_ ≠ (.slice Ao47 t205.length co47 : Value).ownBlock)) (by (with_reducible repeat (first | apply YS | apply YT | apply YU)); exact Kd.R_mono HO213.out (fun _ hk => by first | exact ⟨hk.2, hk.1.2⟩ | exact trivial | (simp [hk]; done) | simp_all)) hg hat)
       have n2_ := YL (Kd.R_after (ok := (fun k_ => some k_ ≠ (v212 : Value).ownBlock)) (by (with_reducible repeat (first | apply YS | apply YT | apply YU)); exact Kd.R_mono HO207.out (fun _ hk => by first | exact ⟨hk.2, hk.1.2⟩ | exact trivial | (simp [hk]; done) | simp_all)) hg hat)
       have n3_ := YL (hb)
       have n4_ := YL (ho)
       clear BK187; clear HO213; clear HO207; clear HB; clear HO_5; have BK187 := n0_; have HO213 := n1_; have HO207 := n2_; have HB := n3_; have HO210 := n4_; clear n0_ n1_ n2_ n3_ n4_; clear ho hb hg hat
       refine hK.out _ _ ⟨(YI BK187.out 0).trans rfl, (YI BK187.out 1).trans rfl, (YI BK187.out 2).trans rfl, (YI BK187.out 3).trans rfl, (YI BK187.out 4).trans rfl, (YI BK187.out 5).trans rfl, (YI BK187.out 6).trans rfl, (YI BK187.out 7).trans rfl, (YI BK187.out 8).trans rfl, (YI BK187.out 9).trans rfl, (YI BK187.out 10).trans rfl, (YI BK187.out 11).trans rfl⟩ (fun hHeld => ?_)
       clear hK K
       refine normA (N := 44) ?_
       exact norm_ (by simp only [putAll, Act.put, YM, YN, YO]) (hCont (.slice Ao47 t205.length co47, v209, v212) _ ⟨hHeld, (by (with_reducible repeat (first | apply YS | apply YT | apply YU)); exact Kd.R_mono HO207.out (fun _ hk => by first | exact ⟨hk.2, hk.1⟩ | exact trivial | (simp [hk]; done) | simp_all)), (by (with_reducible repeat (first | apply YS | apply YT | apply YU)); exact Kd.R_mono HO210.out (fun _ hk => by first | exact ⟨hk.2, hk.1⟩ | exact trivial | (simp [hk]; done) | simp_all)), (upR HO213), (upK BK187), (upB HB)⟩)
      rintro ⟨v206, v209, v212⟩ w48 ⟨hS_, h0_, h1_, h2_, h3_, h4_⟩
      have n0_ : Aside0 (Kd.R (Kd.int .u8) 5 w48 w.heap.size (fun k_ => some k_ ≠ (v209 : Value).ownBlock ∧ some k_ ≠ (v212 : Value).ownBlock) v206 t205) := ⟨h0_⟩
      have n1_ : Aside0 (Kd.R (Kd.int .u8) 5 w48 w.heap.size (fun k_ => some k_ ≠ (v206 : Value).ownBlock ∧ some k_ ≠ (v212 : Value).ownBlock) v209 y208) := ⟨h1_⟩
      have n2_ : Aside0 (Kd.R (Kd.int .u8) 5 w48 w.heap.size (fun k_ => some k_ ≠ (v206 : Value).ownBlock ∧ some k_ ≠ (v209 : Value).ownBlock) v212 y211) := ⟨h2_⟩
      have n3_ : Aside0 (w48.heap[gb187]? = some (.cells #[.int .i64 a0_0, .int .i64 a0_1, .bool a0_2, .int .i64 a0_3, .int .i64 a0_4, .int .i64 a0_5, .int .i64 a0_6, .int .i64 a0_7, .int .i64 a0_8, .int .i64 a0_9, .int .i64 a0_10, .int .i64 a0_11] 34 (0, 0))) := ⟨h3_⟩
      have n4_ : Aside0 (Below w.heap.size w w48) := ⟨h4_⟩
      clear HO_5; clear BK187; clear HB; clear h0_ h1_ h2_ h3_ h4_; have HO207 := n0_; have HO210 := n1_; have HO213 := n2_; have BK187 := n3_; have HB := n4_; clear n0_ n1_ n2_ n3_ n4_
      have hHeld : w48.cell? ⟨gb187, 0, none⟩ = some (.int .i64 a0_0) ∧ w48.cell? ⟨gb187, 1, none⟩ = some (.int .i64 a0_1) ∧ w48.cell? ⟨gb187, 2, none⟩ = some (.bool a0_2) ∧ w48.cell? ⟨gb187, 3, none⟩ = some (.int .i64 a0_3) ∧ w48.cell? ⟨gb187, 4, none⟩ = some (.int .i64 a0_4) ∧ w48.cell? ⟨gb187, 5, none⟩ = some (.int .i64 a0_5) ∧ w48.cell? ⟨gb187, 6, none⟩ = some (.int .i64 a0_6) ∧ w48.cell? ⟨gb187, 7, none⟩ = some (.int .i64 a0_7) ∧ w48.cell? ⟨gb187, 8, none⟩ = some (.int .i64 a0_8) ∧ w48.cell? ⟨gb187, 9, none⟩ = some (.int .i64 a0_9) ∧ w48.cell? ⟨gb187, 10, none⟩ = some (.int .i64 a0_10) ∧ w48.cell? ⟨gb187, 11, none⟩ = some (.int .i64 a0_11) := hS_
      obtain ⟨Ao50, co50, eo50⟩ := Kd.R_slice HO213.out
      (first | subst eo50 | (injection eo50 with f1_ f2_ f3_; have f4_ := f1_.symm; have f5_ := f3_.symm; clear f1_ f2_ f3_; subst f4_; subst f5_))
      refine norm_ (a' := ?_) ?_ ?_
      rotate_left
      ·simp only [putAll, Act.put, YM, YN, YO]
       rfl
      refine oneA (i := 15) (N := some 54) HT_ (fun K hK => ?_)
      refine Kd.R_append_rows_step (Kd.int .u8) (w0 := w) w.heap.size (by rfl) (.tmp 44) (.tmp 53) 107 5 (.int .u8 0) 1 rfl Try.underlying107 info5 rfl (by decide) (by omega) v209 y208 y211 _ _ _ (fun k_ => some k_ ≠ (v206 : Value).ownBlock ∧ some k_ ≠ (.slice Ao50 y211.length co50 : Value).ownBlock) (fun _ => False) rfl rfl ?aO ?aR (fun _ _ h => h) (fun _ h => h.elim) ?aF ?aB ?aS ?aL ?_
      (case aR => repeat (first | exact (Kd.R_reads' HO213.out).2.2 | (with_reducible refine Kd.C_alloc ?_ _) | (with_reducible refine Kd.C_drewN ?_ _) | (with_reducible refine Kd.C_drew ?_)))
      (case aB => exact (upB HB))
      (case aF => exact (fun k_ hk => ⟨Kd.fresh' (Kd.R_lt (upR HO207)) k_ hk, Kd.fresh' (Kd.R_lt (upR HO213)) k_ hk⟩))
      (case aO => exact (upR HO210))
      (case aS => exact (YE (upB HB)))
      (case aL => have := LMc38.out; omega)
      intro v215 w49 ho hb hg hat
      rw [← Ny214.out] at ho
      have n0_ := YL (blk_grown (g := gb187) (o := .cells #[.int .i64 a0_0, .int .i64 a0_1, .bool a0_2, .int .i64 a0_3, .int .i64 a0_4, .int .i64 a0_5, .int .i64 a0_6, .int .i64 a0_7, .int .i64 a0_8, .int .i64 a0_9, .int .i64 a0_10, .int .i64 a0_11] 34 (0, 0)) (upK BK187) hg (Kd.R_ne HO210.out BK187.out (by decide)))
      have n1_ := YL (Kd.R_after (ok := (fun k_ => some k_ ≠ (.slice Ao50 y211.length co50 : Value).ownBlock)) (by (with_reducible repeat (first | apply YS | apply YT | apply YU)); exact Kd.R_mono HO207.out (fun _ hk => by first | exact ⟨hk.2, hk.1⟩ | exact trivial | (simp [hk]; done) | simp_all)) hg hat)
      have n2_ := YL (Kd.R_after (ok := (fun k_ => some k_ ≠ (v206 : Value).ownBlock)) (upR HO213) hg hat)
      have n3_ := YL (hb)
      have n4_ := YL (ho)
      clear BK187; clear HO207; clear HO213; clear HB; clear HO210; have BK187 := n0_; have HO207 := n1_; have HO213 := n2_; have HB := n3_; have HO216 := n4_; clear n0_ n1_ n2_ n3_ n4_; clear ho hb hg hat
      refine hK.out _ _ ⟨(YI BK187.out 0).trans rfl, (YI BK187.out 1).trans rfl, (YI BK187.out 2).trans rfl, (YI BK187.out 3).trans rfl, (YI BK187.out 4).trans rfl, (YI BK187.out 5).trans rfl, (YI BK187.out 6).trans rfl, (YI BK187.out 7).trans rfl, (YI BK187.out 8).trans rfl, (YI BK187.out 9).trans rfl, (YI BK187.out 10).trans rfl, (YI BK187.out 11).trans rfl⟩ (fun hHeld => ?_)
      clear hK K
      refine normA (N := 54) ?_
      refine pure_ (i := 16) (N := some 5) (v := ?_) (a' := ?_) #[true, true, true, true, true, true, true, true, true, true, true, true, true, true, true, true, true] rfl rfl (any_of HT_.out (by kernel_rfl)) (fun _ _ _ h => h) (Or.inl ⟨by rfl, ?_⟩) ?_ ?_
      rotate_left
      ·intro w'
       go_simp; with_reducible rfl
      rotate_left
      ·simp only [Act.put, YM, YN, YO, i64_w, i32_w]
       rfl
      refine done_ (done_of HT_.out (by kernel_rfl)) ?_
      obtain ⟨q51_0, q51_1, q51_2, q51_3, q51_4, q51_5, q51_6, q51_7, q51_8, q51_9, q51_10, q51_11⟩ := cA12 BK187.out
      obtain ⟨f51_0, f51_1, f51_2, f51_3, f51_4, f51_5, f51_6, f51_7, f51_8, f51_9, f51_10, f51_11⟩ := fA12 BK187.out
      try go_wp2_with (first | ((with_reducible refine gate_dst (N := 66) rfl ?_); refine Kd.R_lit (Kd.int .u8) _ 5 ?hg (N := 66) ?hd (xs := ([(a0_11 / 256) % 256, (a0_11) % 256] : List Int)) (inner := [.int .u8 ((a0_11 / 256) % 256), .int .u8 ((a0_11) % 256)]) (ok := fun _ => True) (okp := fun _ => True) ?hr ?hp (fun _ hk => hk) trivial (Below.refl _ _) (Nat.le_refl _) (by simp) ?_; (case hd => rfl); (case hg => rfl); (case hr => first | (go_simp; done) | (go_simp; rfl)); (case hp => exact (Reps.one (show Kd.M (Kd.int .u8) _ _ _ ((a0_11 / 256) % 256) [.int .u8 ((a0_11 / 256) % 256)] from rfl) (Reps.one (show Kd.M (Kd.int .u8) _ _ _ ((a0_11) % 256) [.int .u8 ((a0_11) % 256)] from rfl) (Reps.none _ _)))); intro v218 w52 ho53 hb hg_ hnew_; clear hg_ hnew_; (first | rw [← Ny217.out] at ho53 | (simp only [Int.reduceToNat] at ho53; rw [← Ny217.out] at ho53)); have n0_ := YL (Kd.R_elder' (upR HO207) (Kd.R_base ho53) hb); have n1_ := YL (Kd.R_elder' (upR HO213) (Kd.R_base ho53) hb); have n2_ := YL (Kd.R_elder' (upR HO216) (Kd.R_base ho53) hb); have n3_ := YL (Kd.R_lower (Kd.R_new' (Kd.R_new' (Kd.R_new' ho53 (Kd.R_lt (upR HO207))) (Kd.R_lt (upR HO213))) (Kd.R_lt (upR HO216))) (YE (upB HB))); have n4_ := YL (YK (g := gb187) (o := .cells #[.int .i64 a0_0, .int .i64 a0_1, .bool a0_2, .int .i64 a0_3, .int .i64 a0_4, .int .i64 a0_5, .int .i64 a0_6, .int .i64 a0_7, .int .i64 a0_8, .int .i64 a0_9, .int .i64 a0_10, .int .i64 a0_11] 34 (0, 0)) (upK BK187) hb); have n5_ := YL (YD (upB HB) hb); clear HO207; clear HO213; clear HO216; clear BK187; clear HB; have HO207 := n0_; have HO213 := n1_; have HO216 := n2_; have HO219 := n3_; have BK187 := n4_; have HB := n5_; clear n0_ n1_ n2_ n3_ n4_ n5_; clear hb ho53; obtain ⟨Ao55, co55, eo55⟩ := Kd.R_slice HO219.out; subst eo55) | ((with_reducible refine gate_builtin (b := .append) (xs := #[.tmp 58, .tmp 66]) rfl ?_); at_builtin; refine Kd.R_append_rows (Kd.int .u8) (w0 := w) w.heap.size rfl (.tmp 58) (.tmp 66) 107 5 (.int .u8 0) 1 rfl Try.underlying107 info5 rfl (by decide) (by omega) v215 y214 y217 _ _ _ (fun k_ => some k_ ≠ (v206 : Value).ownBlock ∧ some k_ ≠ (.slice Ao50 y211.length co50 : Value).ownBlock ∧ some k_ ≠ (.slice Ao55 y217.length co55 : Value).ownBlock) (fun _ => False) rfl rfl ?aO ?aR (fun _ _ h => h) (fun _ h => h.elim) ?aF ?aB ?aS ?aL ?_; (case aR => repeat (first | exact (Kd.R_reads' HO219.out).2.2 | (with_reducible refine Kd.C_alloc ?_ _) | (with_reducible refine Kd.C_drewN ?_ _) | (with_reducible refine Kd.C_drew ?_))); (case aB => exact (upB HB)); (case aF => exact (fun k_ hk => ⟨Kd.fresh' (Kd.R_lt (upR HO207)) k_ hk, Kd.fresh' (Kd.R_lt (upR HO213)) k_ hk, Kd.fresh' (Kd.R_lt (upR HO219)) k_ hk⟩)); (case aO => exact (by (with_reducible repeat (first | apply YS | apply YT | apply YU)); exact Kd.R_mono HO216.out (fun _ hk => by first | exact ⟨hk.1.1, ⟨hk.1.2, hk.2⟩⟩ | exact trivial | (simp [hk]; done) | simp_all))); (case aS => exact (YE (upB HB))); (case aL => have := LMc40.out; omega); intro v221 w54 ho hb hg hat; rw [← Ny220.out] at ho; have n0_ := YL (blk_grown (g := gb187) (o := .cells #[.int .i64 a0_0, .int .i64 a0_1, .bool a0_2, .int .i64 a0_3, .int .i64 a0_4, .int .i64 a0_5, .int .i64 a0_6, .int .i64 a0_7, .int .i64 a0_8, .int .i64 a0_9, .int .i64 a0_10, .int .i64 a0_11] 34 (0, 0)) (upK BK187) hg (Kd.R_ne HO216.out BK187.out (by decide))); have n1_ := YL (Kd.R_after (ok := (fun k_ => some k_ ≠ (.slice Ao50 y211.length co50 : Value).ownBlock ∧ some k_ ≠ (.slice Ao55 y217.length co55 : Value).ownBlock)) (by (with_reducible repeat (first | apply YS | apply YT | apply YU)); exact Kd.R_mono HO207.out (fun _ hk => by first | exact ⟨⟨hk.1.1, hk.2⟩, hk.1.2⟩ | exact trivial | (simp [hk]; done) | simp_all)) hg hat); have n2_ := YL (Kd.R_after (ok := (fun k_ => some k_ ≠ (v206 : Value).ownBlock ∧ some k_ ≠ (.slice Ao55 y217.length co55 : Value).ownBlock)) (by (with_reducible repeat (first | apply YS | apply YT | apply YU)); exact Kd.R_mono HO213.out (fun _ hk => by first | exact ⟨⟨hk.1.1, hk.2⟩, hk.1.2⟩ | exact trivial | (simp [hk]; done) | simp_all)) hg hat); have n3_ := YL (Kd.R_after (ok := (fun k_ => some k_ ≠ (v206 : Value).ownBlock ∧ some k_ ≠ (.slice Ao50 y211.length co50 : Value).ownBlock)) (by (with_reducible repeat (first | apply YS | apply YT | apply YU)); exact Kd.R_mono HO219.out (fun _ hk => by first | exact ⟨⟨hk.1.1.2, hk.1.2⟩, hk.2⟩ | exact trivial | (simp [hk]; done) | simp_all)) hg hat); have n4_ := YL (hb); have n5_ := YL (ho); clear BK187; clear HO207; clear HO213; clear HO219; clear HB; clear HO216; have BK187 := n0_; have HO207 := n1_; have HO213 := n2_; have HO219 := n3_; have HB := n4_; have HO222 := n5_; clear n0_ n1_ n2_ n3_ n4_ n5_; clear ho hb hg hat))
      go_ret2
      exact ⟨_, by first | rfl | (simp [errW_none, errW_some] <;> rfl) | (simp [*, errW_none, errW_some] <;> rfl), by (with_reducible repeat (first | apply YS | apply YT | apply YU)); exact Kd.R_mono HO222.out (fun _ hk => trivial), by repeat (first | (with_reducible first | exact HB.out | apply YA | apply YB | apply YC | refine below_set ?_ GE187.out) | exact HB.out)⟩
     rw [if_neg c39] at H
     have c39b0 : (a0_0 == 4) = false := beq_eq_false_iff_ne.mpr c39
     have c39b1 : (a0_0 != 4) = true := bne_iff_ne.mpr c39
     simp only [Option.some.injEq, Prod.mk.injEq] at H
     obtain ⟨rfl, rfl⟩ := H
     obtain ⟨Ao56, co56, eo56⟩ := Kd.R_slice HO_5.out
     subst eo56
     try go_wp2
     have n0_ := YL (YU HO_5.out)
     have n1_ := YL (YG BK187.out)
     have n2_ := YL (YC HB.out)
     clear HO_5; clear BK187; clear HB; have HO_5 := n0_; have BK187 := n1_; have HB := n2_; clear n0_ n1_ n2_
     refine start_ (n := 17) (S := fun w' => w'.cell? ⟨gb187, 0, none⟩ = some (.int .i64 a0_0) ∧ w'.cell? ⟨gb187, 1, none⟩ = some (.int .i64 a0_1) ∧ w'.cell? ⟨gb187, 2, none⟩ = some (.bool a0_2) ∧ w'.cell? ⟨gb187, 3, none⟩ = some (.int .i64 a0_3) ∧ w'.cell? ⟨gb187, 4, none⟩ = some (.int .i64 a0_4) ∧ w'.cell? ⟨gb187, 5, none⟩ = some (.int .i64 a0_5) ∧ w'.cell? ⟨gb187, 6, none⟩ = some (.int .i64 a0_6) ∧ w'.cell? ⟨gb187, 7, none⟩ = some (.int .i64 a0_7) ∧ w'.cell? ⟨gb187, 8, none⟩ = some (.int .i64 a0_8) ∧ w'.cell? ⟨gb187, 9, none⟩ = some (.int .i64 a0_9) ∧ w'.cell? ⟨gb187, 10, none⟩ = some (.int .i64 a0_10) ∧ w'.cell? ⟨gb187, 11, none⟩ = some (.int .i64 a0_11)) (ds := []) #[false, false, false, false, false, false, false, false, false, false, false, false, false, false, false, false, false] (by kernel_rfl) rfl rfl ⟨(YI BK187.out 0).trans rfl, (YI BK187.out 1).trans rfl, (YI BK187.out 2).trans rfl, (YI BK187.out 3).trans rfl, (YI BK187.out 4).trans rfl, (YI BK187.out 5).trans rfl, (YI BK187.out 6).trans rfl, (YI BK187.out 7).trans rfl, (YI BK187.out 8).trans rfl, (YI BK187.out 9).trans rfl, (YI BK187.out 10).trans rfl, (YI BK187.out 11).trans rfl⟩ (fun hHeld => ?_); refine with_tabW object_Bytes.tab13 object_Bytes.bits13 (fun HT_ HW_ => ?_)
     generalize wc.drew = w57 at HO_5 BK187 HB hHeld ⊢
     refine pure_ (i := 0) (N := some 39) (v := ?_) (a' := ?_) #[true, false, false, false, false, false, false, false, false, false, false, false, false, false, false, false, false] rfl rfl (any_of HT_.out (by kernel_rfl)) (fun _ _ _ h => h) (Or.inl ⟨by rfl, ?_⟩) ?_ ?_
     rotate_left
     ·intro w'
      go_simp; with_reducible rfl
     rotate_left
     ·simp only [Act.put, YM, YN, YO, i64_w, i32_w]
      rfl
     refine pure_ (i := 1) (N := some 40) (v := ?_) (a' := ?_) #[true, true, false, false, false, false, false, false, false, false, false, false, false, false, false, false, false] rfl rfl (any_of HT_.out (by kernel_rfl)) (fun _ _ _ h => h) (Or.inl ⟨by rfl, ?_⟩) ?_ ?_
     rotate_left
     ·intro w'
      go_simp; with_reducible rfl
     rotate_left
     ·simp only [Act.put, YM, YN, YO, i64_w, i32_w]
      rfl
     refine pure_ (i := 2) (N := some 41) (v := ?_) (a' := ?_) #[true, true, true, false, false, false, false, false, false, false, false, false, false, false, false, false, false] rfl rfl (any_of HT_.out (by kernel_rfl)) (fun _ _ _ h => h) (Or.inl ⟨by rfl, ?_⟩) ?_ ?_
     rotate_left
     ·intro w'
      go_simp; with_reducible rfl
     rotate_left
     ·simp only [Act.put, YM, YN, YO, i64_w, i32_w]
      rfl
     refine pure_ (i := 6) (N := some 45) (v := ?_) (a' := ?_) #[true, true, true, false, false, false, true, false, false, false, false, false, false, false, false, false, false] rfl rfl (any_of HT_.out (by kernel_rfl)) (fun _ _ _ h => h) (Or.inl ⟨by rfl, ?_⟩) ?_ ?_
     rotate_left
     ·intro w'
      go_simp; with_reducible rfl
     rotate_left
     ·simp only [Act.put, YM, YN, YO, i64_w, i32_w]
      rfl
     refine pure_ (i := 7) (N := some 46) (v := ?_) (a' := ?_) #[true, true, true, false, false, false, true, true, false, false, false, false, false, false, false, false, false] rfl rfl (any_of HT_.out (by kernel_rfl)) (fun _ _ _ h => h) (Or.inl ⟨by rfl, ?_⟩) ?_ ?_
     rotate_left
     ·intro w'
      go_simp; with_reducible rfl
     rotate_left
     ·simp only [Act.put, YM, YN, YO, i64_w, i32_w]
      rfl
     refine pure_ (i := 10) (N := some 49) (v := ?_) (a' := ?_) #[true, true, true, false, false, false, true, true, false, false, true, false, false, false, false, false, false] rfl rfl (any_of HT_.out (by kernel_rfl)) (fun _ _ _ h => h) (Or.inl ⟨by rfl, ?_⟩) ?_ ?_
     rotate_left
     ·intro w'
      go_simp; with_reducible rfl
     rotate_left
     ·simp only [Act.put, YM, YN, YO, i64_w, i32_w]
      rfl
     refine pure_ (i := 11) (N := some 50) (v := ?_) (a' := ?_) #[true, true, true, false, false, false, true, true, false, false, true, true, false, false, false, false, false] rfl rfl (any_of HT_.out (by kernel_rfl)) (fun _ _ _ h => h) (Or.inl ⟨by rfl, ?_⟩) ?_ ?_
     rotate_left
     ·intro w'
      go_simp; with_reducible rfl
     rotate_left
     ·simp only [Act.put, YM, YN, YO, i64_w, i32_w]
      rfl
     refine take_ (i := 3) (N := some 42) (v := ?_) (a' := ?_) #[true, true, true, true, false, false, true, true, false, false, true, true, false, false, false, false, false] rfl rfl (take_ofW HT_.out HW_.out (by kernel_rfl)) (fun _ _ _ h => h) (Or.inl ⟨by rfl, ?_⟩) hHeld ?_ ?_
     rotate_left
     ·rintro w' ⟨s0, s1, s2, s3, s4, s5, s6, s7, s8, s9, s10, s11⟩
      go_simp; with_reducible rfl
     rotate_left
     ·simp only [Act.put, YM, YN, YO, i64_w, i32_w]
      rfl
     refine take_ (i := 8) (N := some 47) (v := ?_) (a' := ?_) #[true, true, true, true, false, false, true, true, true, false, true, true, false, false, false, false, false] rfl rfl (take_ofW HT_.out HW_.out (by kernel_rfl)) (fun _ _ _ h => h) (Or.inl ⟨by rfl, ?_⟩) hHeld ?_ ?_
     rotate_left
     ·rintro w' ⟨s0, s1, s2, s3, s4, s5, s6, s7, s8, s9, s10, s11⟩
      go_simp; with_reducible rfl
     rotate_left
     ·simp only [Act.put, YM, YN, YO, i64_w, i32_w]
      rfl
     refine pure_ (i := 9) (N := some 48) (v := ?_) (a' := ?_) #[true, true, true, true, false, false, true, true, true, true, true, true, false, false, false, false, false] rfl rfl (any_of HT_.out (by kernel_rfl)) (fun _ _ _ h => h) (Or.inl ⟨by rfl, ?_⟩) ?_ ?_
     rotate_left
     ·intro w'
      go_simp; with_reducible rfl
     rotate_left
     ·simp only [Act.put, YM, YN, YO, i64_w, i32_w]
      rfl
     refine take_ (i := 12) (N := some 51) (v := ?_) (a' := ?_) #[true, true, true, true, false, false, true, true, true, true, true, true, true, false, false, false, false] rfl rfl (take_ofW HT_.out HW_.out (by kernel_rfl)) (fun _ _ _ h => h) (Or.inl ⟨by rfl, ?_⟩) hHeld ?_ ?_
     rotate_left
     ·rintro w' ⟨s0, s1, s2, s3, s4, s5, s6, s7, s8, s9, s10, s11⟩
      go_simp; with_reducible rfl
     rotate_left
     ·simp only [Act.put, YM, YN, YO, i64_w, i32_w]
      rfl
     refine pure_ (i := 13) (N := some 52) (v := ?_) (a' := ?_) #[true, true, true, true, false, false, true, true, true, true, true, true, true, true, false, false, false] rfl rfl (any_of HT_.out (by kernel_rfl)) (fun _ _ _ h => h) (Or.inl ⟨by rfl, ?_⟩) ?_ ?_
     rotate_left
     ·intro w'
      go_simp; with_reducible rfl
     rotate_left
     ·simp only [Act.put, YM, YN, YO, i64_w, i32_w]
      rfl
     refine join_ (σ := Value × Value × Value) 2 #[true, true, true, true, true, true, true, true, true, true, true, true, true, true, true, false, false] (fun s_ => [(43, s_.1), (44, s_.2.1), (53, s_.2.2)]) (fun s_ w' => (w'.cell? ⟨gb187, 0, none⟩ = some (.int .i64 a0_0) ∧ w'.cell? ⟨gb187, 1, none⟩ = some (.int .i64 a0_1) ∧ w'.cell? ⟨gb187, 2, none⟩ = some (.bool a0_2) ∧ w'.cell? ⟨gb187, 3, none⟩ = some (.int .i64 a0_3) ∧ w'.cell? ⟨gb187, 4, none⟩ = some (.int .i64 a0_4) ∧ w'.cell? ⟨gb187, 5, none⟩ = some (.int .i64 a0_5) ∧ w'.cell? ⟨gb187, 6, none⟩ = some (.int .i64 a0_6) ∧ w'.cell? ⟨gb187, 7, none⟩ = some (.int .i64 a0_7) ∧ w'.cell? ⟨gb187, 8, none⟩ = some (.int .i64 a0_8) ∧ w'.cell? ⟨gb187, 9, none⟩ = some (.int .i64 a0_9) ∧ w'.cell? ⟨gb187, 10, none⟩ = some (.int .i64 a0_10) ∧ w'.cell? ⟨gb187, 11, none⟩ = some (.int .i64 a0_11)) ∧ (Kd.R (Kd.int .u8) 5 w' w.heap.size (fun k_ => some k_ ≠ (s_.2.1 : Value).ownBlock ∧ some k_ ≠ (s_.2.2 : Value).ownBlock) s_.1 t205) ∧ (Kd.R (Kd.int .u8) 5 w' w.heap.size (fun k_ => some k_ ≠ (s_.1 : Value).ownBlock ∧ some k_ ≠ (s_.2.2 : Value).ownBlock) s_.2.1 y208) ∧ (Kd.R (Kd.int .u8) 5 w' w.heap.size (fun k_ => some k_ ≠ (s_.1 : Value).ownBlock ∧ some k_ ≠ (s_.2.1 : Value).ownBlock) s_.2.2 y211) ∧ (w'.heap[gb187]? = some (.cells #[.int .i64 a0_0, .int .i64 a0_1, .bool a0_2, .int .i64 a0_3, .int .i64 a0_4, .int .i64 a0_5, .int .i64 a0_6, .int .i64 a0_7, .int .i64 a0_8, .int .i64 a0_9, .int .i64 a0_10, .int .i64 a0_11] 34 (0, 0))) ∧ (Below w.heap.size w w')) ?_ ?_
     rotate_left
     ·intro hCont
      refine two_ (i := 4) (j := 14) (Ni := some 43) (Nj := some 53) #[true, true, true, true, true, false, true, true, true, true, true, true, true, true, false, false, false] #[true, true, true, true, false, false, true, true, true, true, true, true, true, true, true, false, false] rfl rfl rfl rfl (two_of HT_.out (by kernel_rfl)) (by decide) (by decide) (fun K hK => ?_) (fun K hK => ?_)
      ·skip
       refine goes_ Try.func70 (by kernel_rfl) rfl #[.int .i64 a0_8] (by rfl) rfl rfl (by (try simp only [YP, List.map_cons, List.map_nil]); first | done | rfl | (simp only [YR, YQ]; rfl)) ?_
       with_reducible refine (wire_Int.calls a0_8 t205 _ A36.out).mono ?_
       rintro e w58 ⟨v206, rfl, ho0, hb⟩
       refine ⟨_, rfl, ?_⟩
       have n0_ := YL (Kd.R_elder' (upR HO_5) (Kd.R_base ho0) hb)
       have n1_ := YL (Kd.R_lower (Kd.R_new' ho0 (Kd.R_lt (upR HO_5))) (YE (upB HB)))
       have n2_ := YL (YK (g := gb187) (o := .cells #[.int .i64 a0_0, .int .i64 a0_1, .bool a0_2, .int .i64 a0_3, .int .i64 a0_4, .int .i64 a0_5, .int .i64 a0_6, .int .i64 a0_7, .int .i64 a0_8, .int .i64 a0_9, .int .i64 a0_10, .int .i64 a0_11] 34 (0, 0)) (upK BK187) hb)
       have n3_ := YL (YD (upB HB) hb)
       clear HO_5; clear BK187; clear HB; have HO_5 := n0_; have HO207 := n1_; have BK187 := n2_; have HB := n3_; clear n0_ n1_ n2_ n3_; (try clear hb); (try clear hb2); (try clear hk); (try clear hi); (try clear ho0)
       obtain ⟨Ao60, co60, eo60⟩ := Kd.R_slice HO207.out
       (first | subst eo60 | (injection eo60 with f1_ f2_ f3_; have f4_ := f1_.symm; have f5_ := f3_.symm; clear f1_ f2_ f3_; subst f4_; subst f5_))
       refine hK.out _ _ ⟨(YI BK187.out 0).trans rfl, (YI BK187.out 1).trans rfl, (YI BK187.out 2).trans rfl, (YI BK187.out 3).trans rfl, (YI BK187.out 4).trans rfl, (YI BK187.out 5).trans rfl, (YI BK187.out 6).trans rfl, (YI BK187.out 7).trans rfl, (YI BK187.out 8).trans rfl, (YI BK187.out 9).trans rfl, (YI BK187.out 10).trans rfl, (YI BK187.out 11).trans rfl⟩ (fun hHeld => ?_)
       clear hK K
       refine normA (N := 43) ?_
       refine two_ (i := 5) (j := 14) (Ni := some 44) (Nj := some 53) #[true, true, true, true, true, true, true, true, true, true, true, true, true, true, false, false, false] #[true, true, true, true, true, false, true, true, true, true, true, true, true, true, true, false, false] rfl rfl rfl rfl (two_of HT_.out (by kernel_rfl)) (by decide) (by decide) (fun K hK => ?_) (fun K hK => ?_)
       ·skip
        refine Kd.R_append_rows_step (Kd.int .u8) (w0 := w) w.heap.size (by rfl) (.tmp 39) (.tmp 43) 107 5 (.int .u8 0) 1 rfl Try.underlying107 info5 rfl (by decide) (by omega) (.slice Ao56 y189.length co56) y189 t205 _ _ _ (fun k_ => some k_ ≠ (.slice Ao60 t205.length co60 : Value).ownBlock) (fun _ => False) rfl rfl ?aO ?aR (fun _ _ h => h) (fun _ h => h.elim) ?aF ?aB ?aS ?aL ?_
        (case aR => repeat (first | exact (Kd.R_reads' HO207.out).2.2 | (with_reducible refine Kd.C_alloc ?_ _) | (with_reducible refine Kd.C_drewN ?_ _) | (with_reducible refine Kd.C_drew ?_)))
        (case aB => exact (upB HB))
        (case aF => exact (fun k_ hk => Kd.fresh' (Kd.R_lt (upR HO207)) k_ hk))
        (case aO => exact (by (with_reducible repeat (first | apply YS | apply YT | apply YU)); exact Kd.R_mono HO_5.out (fun _ hk => by first | exact hk.2 | exact trivial | (simp [hk]; done) | simp_all)))
        (case aS => exact (YE (upB HB)))
        (case aL => have := LMc37.out; omega)
        intro v209 w59 ho hb hg hat
        rw [← Ny208.out] at ho
        have n0_ := YL (blk_grown (g := gb187) (o := .cells #[.int .i64 a0_0, .int .i64 a0_1, .bool a0_2, .int .i64 a0_3, .int .i64 a0_4, .int .i64 a0_5, .int .i64 a0_6, .int .i64 a0_7, .int .i64 a0_8, .int .i64 a0_9, .int .i64 a0_10, .int .i64 a0_11] 34 (0, 0)) (upK BK187) hg (Kd.R_ne HO_5.out BK187.out (by decide)))
        have n1_ := YL (Kd.R_after (ok := (fun _ => True)) (upR HO207) hg hat)
        have n2_ := YL (hb)
        have n3_ := YL (ho)
        clear BK187; clear HO207; clear HB; clear HO_5; have BK187 := n0_; have HO207 := n1_; have HB := n2_; have HO210 := n3_; clear n0_ n1_ n2_ n3_; clear ho hb hg hat
        refine hK.out _ _ ⟨(YI BK187.out 0).trans rfl, (YI BK187.out 1).trans rfl, (YI BK187.out 2).trans rfl, (YI BK187.out 3).trans rfl, (YI BK187.out 4).trans rfl, (YI BK187.out 5).trans rfl, (YI BK187.out 6).trans rfl, (YI BK187.out 7).trans rfl, (YI BK187.out 8).trans rfl, (YI BK187.out 9).trans rfl, (YI BK187.out 10).trans rfl, (YI BK187.out 11).trans rfl⟩ (fun hHeld => ?_)
        clear hK K
        refine normA (N := 44) ?_
        refine oneA (i := 14) (N := some 53) HT_ (fun K hK => ?_)
        refine Kd.R_lit_step (Kd.int .u8) _ 5 ?hg (N := 53) ?hd (xs := ([(a0_9) % 256, (a0_10) % 256] : List Int)) (inner := [.int .u8 ((a0_9) % 256), .int .u8 ((a0_10) % 256)]) (ok := fun _ => True) (okp := fun _ => True) ?hr ?hp (fun _ hk => hk) trivial (Below.refl _ _) (Nat.le_refl _) (by simp) ?_; (case hd => rfl); (case hg => rfl); (case hr => first | (go_simp; done) | (go_simp; rfl)); (case hp => exact (Reps.one (show Kd.M (Kd.int .u8) _ _ _ ((a0_9) % 256) [.int .u8 ((a0_9) % 256)] from rfl) (Reps.one (show Kd.M (Kd.int .u8) _ _ _ ((a0_10) % 256) [.int .u8 ((a0_10) % 256)] from rfl) (Reps.none _ _))))
        intro v212 w61 ho62 hb hg_ hnew_
        clear hg_ hnew_
        (first | rw [← Ny211.out] at ho62 | (simp only [Int.reduceToNat] at ho62; rw [← Ny211.out] at ho62))
        have n0_ := YL (Kd.R_elder' (upR HO207) (Kd.R_base ho62) hb)
        have n1_ := YL (Kd.R_elder' (upR HO210) (Kd.R_base ho62) hb)
        have n2_ := YL (Kd.R_lower (Kd.R_new' (Kd.R_new' ho62 (Kd.R_lt (upR HO207))) (Kd.R_lt (upR HO210))) (YE (upB HB)))
        have n3_ := YL (YK (g := gb187) (o := .cells #[.int .i64 a0_0, .int .i64 a0_1, .bool a0_2, .int .i64 a0_3, .int .i64 a0_4, .int .i64 a0_5, .int .i64 a0_6, .int .i64 a0_7, .int .i64 a0_8, .int .i64 a0_9, .int .i64 a0_10, .int .i64 a0_11] 34 (0, 0)) (upK BK187) hb)
        have n4_ := YL (YD (upB HB) hb)
        clear HO207; clear HO210; clear BK187; clear HB; have HO207 := n0_; have HO210 := n1_; have HO213 := n2_; have BK187 := n3_; have HB := n4_; clear n0_ n1_ n2_ n3_ n4_; clear hb ho62
        refine hK.out _ _ ⟨(YI BK187.out 0).trans rfl, (YI BK187.out 1).trans rfl, (YI BK187.out 2).trans rfl, (YI BK187.out 3).trans rfl, (YI BK187.out 4).trans rfl, (YI BK187.out 5).trans rfl, (YI BK187.out 6).trans rfl, (YI BK187.out 7).trans rfl, (YI BK187.out 8).trans rfl, (YI BK187.out 9).trans rfl, (YI BK187.out 10).trans rfl, (YI BK187.out 11).trans rfl⟩ (fun hHeld => ?_)
        clear hK K
        refine normA (N := 53) ?_
        exact norm_ (by simp only [putAll, Act.put, YM, YN, YO]) (hCont (.slice Ao60 t205.length co60, v209, v212) _ ⟨hHeld, (by (with_reducible repeat (first | apply YS | apply YT | apply YU)); exact Kd.R_mono HO207.out (fun _ hk => by first | exact ⟨hk.1.2, hk.2⟩ | exact trivial | (simp [hk]; done) | simp_all)), (upR HO210), (by (with_reducible repeat (first | apply YS | apply YT | apply YU)); exact Kd.R_mono HO213.out (fun _ hk => by first | exact ⟨hk.1.2, hk.2⟩ | exact trivial | (simp [hk]; done) | simp_all)), (upK BK187), (upB HB)⟩)
       skip
       refine Kd.R_lit_step (Kd.int .u8) _ 5 ?hg (N := 53) ?hd (xs := ([(a0_9) % 256, (a0_10) % 256] : List Int)) (inner := [.int .u8 ((a0_9) % 256), .int .u8 ((a0_10) % 256)]) (ok := fun _ => True) (okp := fun _ => True) ?hr ?hp (fun _ hk => hk) trivial (Below.refl _ _) (Nat.le_refl _) (by simp) ?_; (case hd => rfl); (case hg => rfl); (case hr => first | (go_simp; done) | (go_simp; rfl)); (case hp => exact (Reps.one (show Kd.M (Kd.int .u8) _ _ _ ((a0_9) % 256) [.int .u8 ((a0_9) % 256)] from rfl) (Reps.one (show Kd.M (Kd.int .u8) _ _ _ ((a0_10) % 256) [.int .u8 ((a0_10) % 256)] from rfl) (Reps.none _ _))))
       intro v212 w59 ho60 hb hg_ hnew_
       clear hg_ hnew_
       (first | rw [← Ny211.out] at ho60 | (simp only [Int.reduceToNat] at ho60; rw [← Ny211.out] at ho60))
       have n0_ := YL (Kd.R_elder' (upR HO_5) (Kd.R_base ho60) hb)
       have n1_ := YL (Kd.R_elder' (upR HO207) (Kd.R_base ho60) hb)
       have n2_ := YL (Kd.R_lower (Kd.R_new' (Kd.R_new' ho60 (Kd.R_lt (upR HO_5))) (Kd.R_lt (upR HO207))) (YE (upB HB)))
       have n3_ := YL (YK (g := gb187) (o := .cells #[.int .i64 a0_0, .int .i64 a0_1, .bool a0_2, .int .i64 a0_3, .int .i64 a0_4, .int .i64 a0_5, .int .i64 a0_6, .int .i64 a0_7, .int .i64 a0_8, .int .i64 a0_9, .int .i64 a0_10, .int .i64 a0_11] 34 (0, 0)) (upK BK187) hb)
       have n4_ := YL (YD (upB HB) hb)
       clear HO_5; clear HO207; clear BK187; clear HB; have HO_5 := n0_; have HO207 := n1_; have HO213 := n2_; have BK187 := n3_; have HB := n4_; clear n0_ n1_ n2_ n3_ n4_; clear hb ho60
       obtain ⟨Ao62, co62, eo62⟩ := Kd.R_slice HO207.out
       (first | subst eo62 | (injection eo62 with f1_ f2_ f3_; have f4_ := f1_.symm; have f5_ := f3_.symm; clear f1_ f2_ f3_; subst f4_; subst f5_))
       refine hK.out _ _ ⟨(YI BK187.out 0).trans rfl, (YI BK187.out 1).trans rfl, (YI BK187.out 2).trans rfl, (YI BK187.out 3).trans rfl, (YI BK187.out 4).trans rfl, (YI BK187.out 5).trans rfl, (YI BK187.out 6).trans rfl, (YI BK187.out 7).trans rfl, (YI BK187.out 8).trans rfl, (YI BK187.out 9).trans rfl, (YI BK187.out 10).trans rfl, (YI BK187.out 11).trans rfl⟩ (fun hHeld => ?_)
       clear hK K
       refine normA (N := 53) ?_
       refine oneA (i := 5) (N := some 44) HT_ (fun K hK => ?_)
       refine Kd.R_append_rows_step (Kd.int .u8) (w0 := w) w.heap.size (by rfl) (.tmp 39) (.tmp 43) 107 5 (.int .u8 0) 1 rfl Try.underlying107 info5 rfl (by decide) (by omega) (.slice Ao56 y189.length co56) y189 t205 _ _ _ (fun k_ => some k_ ≠ (.slice Ao62 t205.length co62 : Value).ownBlock ∧ some k_ ≠ (v212 : Value).ownBlock) (fun _ => False) rfl rfl ?aO ?aR (fun _ _ h => h) (fun _ h => h.elim) ?aF ?aB ?aS ?aL ?_
       (case aR => repeat (first | exact (Kd.R_reads' HO207.out).2.2 | (with_reducible refine Kd.C_alloc ?_ _) | (with_reducible refine Kd.C_drewN ?_ _) | (with_reducible refine Kd.C_drew ?_)))
       (case aB => exact (upB HB))
       (case aF => exact (fun k_ hk => ⟨Kd.fresh' (Kd.R_lt (upR HO207)) k_ hk, Kd.fresh' (Kd.R_lt (upR HO213)) k_ hk⟩))
       (case aO => exact (by (with_reducible repeat (first | apply YS | apply YT | apply YU)); exact Kd.R_mono HO_5.out (fun _ hk => by first | exact ⟨hk.1.2, hk.2⟩ | exact trivial | (simp [hk]; done) | simp_all)))
       (case aS => exact (YE (upB HB)))
       (case aL => have := LMc37.out; omega)
       intro v209 w61 ho hb hg hat
       rw [← Ny208.out] at ho
       have n0_ := YL (blk_grown (g := gb187) (o := .cells #[.int .i64 a0_0, .int .i64 a0_1, .bool a0_2, .int .i64 a0_3, .int .i64 a0_4, .int .i64 a0_5, .int .i64 a0_6, .int .i64 a0_7, .int .i64 a0_8, .int .i64 a0_9, .int .i64 a0_10, .int .i64 a0_11] 34 (0, 0)) (upK BK187) hg (Kd.R_ne HO_5.out BK187.out (by decide)))
       have n1_ := YL (Kd.R_after (ok := (fun k_ => some k_ ≠ (v212 : Value).ownBlock)) (by (with_reducible repeat (first | apply YS | apply YT | apply YU)); exact Kd.R_mono HO207.out (fun _ hk => by first | exact ⟨hk.2, hk.1.2⟩ | exact trivial | (simp [hk]; done) | simp_all)) hg hat)
       have n2_ := YL (Kd.R_after (ok := (fun k_ => some k_ ≠ (.slice Ao62 t205.length co62 : Value).ownBlock)) (by (with_reducible repeat (first | apply YS | apply YT | apply YU)); exact Kd.R_mono HO213.out (fun _ hk => by first | exact ⟨hk.2, hk.1.2⟩ | exact trivial | (simp [hk]; done) | simp_all)) hg hat)
       have n3_ := YL (hb)
       have n4_ := YL (ho)
       clear BK187; clear HO207; clear HO213; clear HB; clear HO_5; have BK187 := n0_; have HO207 := n1_; have HO213 := n2_; have HB := n3_; have HO210 := n4_; clear n0_ n1_ n2_ n3_ n4_; clear ho hb hg hat
       refine hK.out _ _ ⟨(YI BK187.out 0).trans rfl, (YI BK187.out 1).trans rfl, (YI BK187.out 2).trans rfl, (YI BK187.out 3).trans rfl, (YI BK187.out 4).trans rfl, (YI BK187.out 5).trans rfl, (YI BK187.out 6).trans rfl, (YI BK187.out 7).trans rfl, (YI BK187.out 8).trans rfl, (YI BK187.out 9).trans rfl, (YI BK187.out 10).trans rfl, (YI BK187.out 11).trans rfl⟩ (fun hHeld => ?_)
       clear hK K
       refine normA (N := 44) ?_
       exact norm_ (by simp only [putAll, Act.put, YM, YN, YO]) (hCont (.slice Ao62 t205.length co62, v209, v212) _ ⟨hHeld, (by (with_reducible repeat (first | apply YS | apply YT | apply YU)); exact Kd.R_mono HO207.out (fun _ hk => by first | exact ⟨hk.2, hk.1⟩ | exact trivial | (simp [hk]; done) | simp_all)), (upR HO210), (upR HO213), (upK BK187), (upB HB)⟩)
      skip
      refine Kd.R_lit_step (Kd.int .u8) _ 5 ?hg (N := 53) ?hd (xs := ([(a0_9) % 256, (a0_10) % 256] : List Int)) (inner := [.int .u8 ((a0_9) % 256), .int .u8 ((a0_10) % 256)]) (ok := fun _ => True) (okp := fun _ => True) ?hr ?hp (fun _ hk => hk) trivial (Below.refl _ _) (Nat.le_refl _) (by simp) ?_; (case hd => rfl); (case hg => rfl); (case hr => first | (go_simp; done) | (go_simp; rfl)); (case hp => exact (Reps.one (show Kd.M (Kd.int .u8) _ _ _ ((a0_9) % 256) [.int .u8 ((a0_9) % 256)] from rfl) (Reps.one (show Kd.M (Kd.int .u8) _ _ _ ((a0_10) % 256) [.int .u8 ((a0_10) % 256)] from rfl) (Reps.none _ _))))
      intro v212 w58 ho59 hb hg_ hnew_
      clear hg_ hnew_
      (first | rw [← Ny211.out] at ho59 | (simp only [Int.reduceToNat] at ho59; rw [← Ny211.out] at ho59))
      have n0_ := YL (Kd.R_elder' (upR HO_5) (Kd.R_base ho59) hb)
      have n1_ := YL (Kd.R_lower (Kd.R_new' ho59 (Kd.R_lt (upR HO_5))) (YE (upB HB)))
      have n2_ := YL (YK (g := gb187) (o := .cells #[.int .i64 a0_0, .int .i64 a0_1, .bool a0_2, .int .i64 a0_3, .int .i64 a0_4, .int .i64 a0_5, .int .i64 a0_6, .int .i64 a0_7, .int .i64 a0_8, .int .i64 a0_9, .int .i64 a0_10, .int .i64 a0_11] 34 (0, 0)) (upK BK187) hb)
      have n3_ := YL (YD (upB HB) hb)
      clear HO_5; clear BK187; clear HB; have HO_5 := n0_; have HO213 := n1_; have BK187 := n2_; have HB := n3_; clear n0_ n1_ n2_ n3_; clear hb ho59
      refine hK.out _ _ ⟨(YI BK187.out 0).trans rfl, (YI BK187.out 1).trans rfl, (YI BK187.out 2).trans rfl, (YI BK187.out 3).trans rfl, (YI BK187.out 4).trans rfl, (YI BK187.out 5).trans rfl, (YI BK187.out 6).trans rfl, (YI BK187.out 7).trans rfl, (YI BK187.out 8).trans rfl, (YI BK187.out 9).trans rfl, (YI BK187.out 10).trans rfl, (YI BK187.out 11).trans rfl⟩ (fun hHeld => ?_)
      clear hK K
      refine normA (N := 53) ?_
      refine oneA (i := 4) (N := some 43) HT_ (fun K hK => ?_)
      refine goes_ Try.func70 (by kernel_rfl) rfl #[.int .i64 a0_8] (by rfl) rfl rfl (by (try simp only [YP, List.map_cons, List.map_nil]); first | done | rfl | (simp only [YR, YQ]; rfl)) ?_
      with_reducible refine (wire_Int.calls a0_8 t205 _ A36.out).mono ?_
      rintro e w60 ⟨v206, rfl, ho0, hb⟩
      refine ⟨_, rfl, ?_⟩
      have n0_ := YL (Kd.R_elder' (upR HO_5) (Kd.R_base ho0) hb)
      have n1_ := YL (Kd.R_elder' (upR HO213) (Kd.R_base ho0) hb)
      have n2_ := YL (Kd.R_lower (Kd.R_new' (Kd.R_new' ho0 (Kd.R_lt (upR HO_5))) (Kd.R_lt (upR HO213))) (YE (upB HB)))
      have n3_ := YL (YK (g := gb187) (o := .cells #[.int .i64 a0_0, .int .i64 a0_1, .bool a0_2, .int .i64 a0_3, .int .i64 a0_4, .int .i64 a0_5, .int .i64 a0_6, .int .i64 a0_7, .int .i64 a0_8, .int .i64 a0_9, .int .i64 a0_10, .int .i64 a0_11] 34 (0, 0)) (upK BK187) hb)
      have n4_ := YL (YD (upB HB) hb)
      clear HO_5; clear HO213; clear BK187; clear HB; have HO_5 := n0_; have HO213 := n1_; have HO207 := n2_; have BK187 := n3_; have HB := n4_; clear n0_ n1_ n2_ n3_ n4_; (try clear hb); (try clear hb2); (try clear hk); (try clear hi); (try clear ho0)
      obtain ⟨Ao62, co62, eo62⟩ := Kd.R_slice HO207.out
      (first | subst eo62 | (injection eo62 with f1_ f2_ f3_; have f4_ := f1_.symm; have f5_ := f3_.symm; clear f1_ f2_ f3_; subst f4_; subst f5_))
      refine hK.out _ _ ⟨(YI BK187.out 0).trans rfl, (YI BK187.out 1).trans rfl, (YI BK187.out 2).trans rfl, (YI BK187.out 3).trans rfl, (YI BK187.out 4).trans rfl, (YI BK187.out 5).trans rfl, (YI BK187.out 6).trans rfl, (YI BK187.out 7).trans rfl, (YI BK187.out 8).trans rfl, (YI BK187.out 9).trans rfl, (YI BK187.out 10).trans rfl, (YI BK187.out 11).trans rfl⟩ (fun hHeld => ?_)
      clear hK K
      refine normA (N := 43) ?_
      refine oneA (i := 5) (N := some 44) HT_ (fun K hK => ?_)
      refine Kd.R_append_rows_step (Kd.int .u8) (w0 := w) w.heap.size (by rfl) (.tmp 39) (.tmp 43) 107 5 (.int .u8 0) 1 rfl Try.underlying107 info5 rfl (by decide) (by omega) (.slice Ao56 y189.length co56) y189 t205 _ _ _ (fun k_ => some k_ ≠ (v212 : Value).ownBlock ∧ some k_ ≠ (.slice Ao62 t205.length co62 : Value).ownBlock) (fun _ => False) rfl rfl ?aO ?aR (fun _ _ h => h) (fun _ h => h.elim) ?aF ?aB ?aS ?aL ?_
      (case aR => repeat (first | exact (Kd.R_reads' HO207.out).2.2 | (with_reducible refine Kd.C_alloc ?_ _) | (with_reducible refine Kd.C_drewN ?_ _) | (with_reducible refine Kd.C_drew ?_)))
      (case aB => exact (upB HB))
      (case aF => exact (fun k_ hk => ⟨Kd.fresh' (Kd.R_lt (upR HO213)) k_ hk, Kd.fresh' (Kd.R_lt (upR HO207)) k_ hk⟩))
      (case aO => exact (by (with_reducible repeat (first | apply YS | apply YT | apply YU)); exact Kd.R_mono HO_5.out (fun _ hk => by first | exact ⟨hk.1.2, hk.2⟩ | exact trivial | (simp [hk]; done) | simp_all)))
      (case aS => exact (YE (upB HB)))
      (case aL => have := LMc37.out; omega)
      intro v209 w61 ho hb hg hat
      rw [← Ny208.out] at ho
      have n0_ := YL (blk_grown (g := gb187) (o := .cells #[.int .i64 a0_0, .int .i64 a0_1, .bool a0_2, .int .i64 a0_3, .int .i64 a0_4, .int .i64 a0_5, .int .i64 a0_6, .int .i64 a0_7, .int .i64 a0_8, .int .i64 a0_9, .int .i64 a0_10, .int .i64 a0_11] 34 (0, 0)) (upK BK187) hg (Kd.R_ne HO_5.out BK187.out (by decide)))
      have n1_ := YL (Kd.R_after (ok := (fun k_ => some k_ ≠ (.slice Ao62 t205.length co62 : Value).ownBlock)) (by (with_reducible repeat (first | apply YS | apply YT | apply YU)); exact Kd.R_mono HO213.out (fun _ hk => by first | exact ⟨hk.2, hk.1.2⟩ | exact trivial | (simp [hk]; done) | simp_all)) hg hat)
      have n2_ := YL (Kd.R_after (ok := (fun k_ => some k_ ≠ (v212 : Value).ownBlock)) (by (with_reducible repeat (first | apply YS | apply YT | apply YU)); exact Kd.R_mono HO207.out (fun _ hk => by first | exact ⟨hk.2, hk.1.2⟩ | exact trivial | (simp [hk]; done) | simp_all)) hg hat)
      have n3_ := YL (hb)
      have n4_ := YL (ho)
      clear BK187; clear HO213; clear HO207; clear HB; clear HO_5; have BK187 := n0_; have HO213 := n1_; have HO207 := n2_; have HB := n3_; have HO210 := n4_; clear n0_ n1_ n2_ n3_ n4_; clear ho hb hg hat
      refine hK.out _ _ ⟨(YI BK187.out 0).trans rfl, (YI BK187.out 1).trans rfl, (YI BK187.out 2).trans rfl, (YI BK187.out 3).trans rfl, (YI BK187.out 4).trans rfl, (YI BK187.out 5).trans rfl, (YI BK187.out 6).trans rfl, (YI BK187.out 7).trans rfl, (YI BK187.out 8).trans rfl, (YI BK187.out 9).trans rfl, (YI BK187.out 10).trans rfl, (YI BK187.out 11).trans rfl⟩ (fun hHeld => ?_)
      clear hK K
      refine normA (N := 44) ?_
      exact norm_ (by simp only [putAll, Act.put, YM, YN, YO]) (hCont (.slice Ao62 t205.length co62, v209, v212) _ ⟨hHeld, (by (with_reducible repeat (first | apply YS | apply YT | apply YU)); exact Kd.R_mono HO207.out (fun _ hk => by first | exact ⟨hk.2, hk.1⟩ | exact trivial | (simp [hk]; done) | simp_all)), (by (with_reducible repeat (first | apply YS | apply YT | apply YU)); exact Kd.R_mono HO210.out (fun _ hk => by first | exact ⟨hk.2, hk.1⟩ | exact trivial | (simp [hk]; done) | simp_all)), (upR HO213), (upK BK187), (upB HB)⟩)
     rintro ⟨v206, v209, v212⟩ w63 ⟨hS_, h0_, h1_, h2_, h3_, h4_⟩
     have n0_ : Aside0 (Kd.R (Kd.int .u8) 5 w63 w.heap.size (fun k_ => some k_ ≠ (v209 : Value).ownBlock ∧ some k_ ≠ (v212 : Value).ownBlock) v206 t205) := ⟨h0_⟩
     have n1_ : Aside0 (Kd.R (Kd.int .u8) 5 w63 w.heap.size (fun k_ => some k_ ≠ (v206 : Value).ownBlock ∧ some k_ ≠ (v212 : Value).ownBlock) v209 y208) := ⟨h1_⟩
     have n2_ : Aside0 (Kd.R (Kd.int .u8) 5 w63 w.heap.size (fun k_ => some k_ ≠ (v206 : Value).ownBlock ∧ some k_ ≠ (v209 : Value).ownBlock) v212 y211) := ⟨h2_⟩
     have n3_ : Aside0 (w63.heap[gb187]? = some (.cells #[.int .i64 a0_0, .int .i64 a0_1, .bool a0_2, .int .i64 a0_3, .int .i64 a0_4, .int .i64 a0_5, .int .i64 a0_6, .int .i64 a0_7, .int .i64 a0_8, .int .i64 a0_9, .int .i64 a0_10, .int .i64 a0_11] 34 (0, 0))) := ⟨h3_⟩
     have n4_ : Aside0 (Below w.heap.size w w63) := ⟨h4_⟩
     clear HO_5; clear BK187; clear HB; clear h0_ h1_ h2_ h3_ h4_; have HO207 := n0_; have HO210 := n1_; have HO213 := n2_; have BK187 := n3_; have HB := n4_; clear n0_ n1_ n2_ n3_ n4_
     have hHeld : w63.cell? ⟨gb187, 0, none⟩ = some (.int .i64 a0_0) ∧ w63.cell? ⟨gb187, 1, none⟩ = some (.int .i64 a0_1) ∧ w63.cell? ⟨gb187, 2, none⟩ = some (.bool a0_2) ∧ w63.cell? ⟨gb187, 3, none⟩ = some (.int .i64 a0_3) ∧ w63.cell? ⟨gb187, 4, none⟩ = some (.int .i64 a0_4) ∧ w63.cell? ⟨gb187, 5, none⟩ = some (.int .i64 a0_5) ∧ w63.cell? ⟨gb187, 6, none⟩ = some (.int .i64 a0_6) ∧ w63.cell? ⟨gb187, 7, none⟩ = some (.int .i64 a0_7) ∧ w63.cell? ⟨gb187, 8, none⟩ = some (.int .i64 a0_8) ∧ w63.cell? ⟨gb187, 9, none⟩ = some (.int .i64 a0_9) ∧ w63.cell? ⟨gb187, 10, none⟩ = some (.int .i64 a0_10) ∧ w63.cell? ⟨gb187, 11, none⟩ = some (.int .i64 a0_11) := hS_
     obtain ⟨Ao65, co65, eo65⟩ := Kd.R_slice HO213.out
     (first | subst eo65 | (injection eo65 with f1_ f2_ f3_; have f4_ := f1_.symm; have f5_ := f3_.symm; clear f1_ f2_ f3_; subst f4_; subst f5_))
     refine norm_ (a' := ?_) ?_ ?_
     rotate_left
     ·simp only [putAll, Act.put, YM, YN, YO]
      rfl
     refine oneA (i := 15) (N := some 54) HT_ (fun K hK => ?_)
     refine Kd.R_append_rows_step (Kd.int .u8) (w0 := w) w.heap.size (by rfl) (.tmp 44) (.tmp 53) 107 5 (.int .u8 0) 1 rfl Try.underlying107 info5 rfl (by decide) (by omega) v209 y208 y211 _ _ _ (fun k_ => some k_ ≠ (v206 : Value).ownBlock ∧ some k_ ≠ (.slice Ao65 y211.length co65 : Value).ownBlock) (fun _ => False) rfl rfl ?aO ?aR (fun _ _ h => h) (fun _ h => h.elim) ?aF ?aB ?aS ?aL ?_
     (case aR => repeat (first | exact (Kd.R_reads' HO213.out).2.2 | (with_reducible refine Kd.C_alloc ?_ _) | (with_reducible refine Kd.C_drewN ?_ _) | (with_reducible refine Kd.C_drew ?_)))
     (case aB => exact (upB HB))
     (case aF => exact (fun k_ hk => ⟨Kd.fresh' (Kd.R_lt (upR HO207)) k_ hk, Kd.fresh' (Kd.R_lt (upR HO213)) k_ hk⟩))
     (case aO => exact (upR HO210))
     (case aS => exact (YE (upB HB)))
     (case aL => have := LMc38.out; omega)
     intro v215 w64 ho hb hg hat
     rw [← Ny214.out] at ho
     have n0_ := YL (blk_grown (g := gb187) (o := .cells #[.int .i64 a0_0, .int .i64 a0_1, .bool a0_2, .int .i64 a0_3, .int .i64 a0_4, .int .i64 a0_5, .int .i64 a0_6, .int .i64 a0_7, .int .i64 a0_8, .int .i64 a0_9, .int .i64 a0_10, .int .i64 a0_11] 34 (0, 0)) (upK BK187) hg (Kd.R_ne HO210.out BK187.out (by decide)))
     have n1_ := YL (Kd.R_after (ok := (fun k_ => some k_ ≠ (.slice Ao65 y211.length co65 : Value).ownBlock)) (by (with_reducible repeat (first | apply YS | apply YT | apply YU)); exact Kd.R_mono HO207.out (fun _ hk => by first | exact ⟨hk.2, hk.1⟩ | exact trivial | (simp [hk]; done) | simp_all)) hg hat)
     have n2_ := YL (Kd.R_after (ok := (fun k_ => some k_ ≠ (v206 : Value).ownBlock)) (upR HO213) hg hat)
     have n3_ := YL (hb)
     have n4_ := YL (ho)
     clear BK187; clear HO207; clear HO213; clear HB; clear HO210; have BK187 := n0_; have HO207 := n1_; have HO213 := n2_; have HB := n3_; have HO216 := n4_; clear n0_ n1_ n2_ n3_ n4_; clear ho hb hg hat
     refine hK.out _ _ ⟨(YI BK187.out 0).trans rfl, (YI BK187.out 1).trans rfl, (YI BK187.out 2).trans rfl, (YI BK187.out 3).trans rfl, (YI BK187.out 4).trans rfl, (YI BK187.out 5).trans rfl, (YI BK187.out 6).trans rfl, (YI BK187.out 7).trans rfl, (YI BK187.out 8).trans rfl, (YI BK187.out 9).trans rfl, (YI BK187.out 10).trans rfl, (YI BK187.out 11).trans rfl⟩ (fun hHeld => ?_)
     clear hK K
     refine normA (N := 54) ?_
     refine pure_ (i := 16) (N := some 5) (v := ?_) (a' := ?_) #[true, true, true, true, true, true, true, true, true, true, true, true, true, true, true, true, true] rfl rfl (any_of HT_.out (by kernel_rfl)) (fun _ _ _ h => h) (Or.inl ⟨by rfl, ?_⟩) ?_ ?_
     rotate_left
     ·intro w'
      go_simp; with_reducible rfl
     rotate_left
     ·simp only [Act.put, YM, YN, YO, i64_w, i32_w]
      rfl
     refine done_ (done_of HT_.out (by kernel_rfl)) ?_
     obtain ⟨q66_0, q66_1, q66_2, q66_3, q66_4, q66_5, q66_6, q66_7, q66_8, q66_9, q66_10, q66_11⟩ := cA12 BK187.out
     obtain ⟨f66_0, f66_1, f66_2, f66_3, f66_4, f66_5, f66_6, f66_7, f66_8, f66_9, f66_10, f66_11⟩ := fA12 BK187.out
     try go_wp2
     go_ret2
     exact ⟨_, by first | rfl | (simp [errW_none, errW_some] <;> rfl) | (simp [*, errW_none, errW_some] <;> rfl), by (with_reducible repeat (first | apply YS | apply YT | apply YU)); exact Kd.R_mono HO216.out (fun _ hk => trivial), by repeat (first | (with_reducible first | exact HB.out | apply YA | apply YB | apply YC | refine below_set ?_ GE187.out) | exact HB.out)⟩
    rw [if_neg c35] at H
    have c35b0 : (a0_0 == 3) = false := beq_eq_false_iff_ne.mpr c35
    have c35b1 : (a0_0 != 3) = true := bne_iff_ne.mpr c35
    by_cases c67 : a0_0 = 4
    ·rw [if_pos c67] at H
     have c67b0 : (a0_0 == 4) = true := beq_iff_eq.mpr c67
     have c67b1 : (a0_0 != 4) = false := bne_eq_false_iff_eq.mpr c67
     clear c67
     obtain ⟨y223, hy223⟩ : ∃ y_ : List Int, y_ = (([(a0_11 / 256) % 256, (a0_11) % 256] : List Int)) := ⟨_, rfl⟩
     replace H : (if y189.length + y223.length < 140737488355328 then (some ((y189 ++ y223), 0)) else (none)) = some (r1, r2) := by first | (rw [hy223]; with_reducible exact H) | (have H2_ := (Option.bind_some _ _).symm.trans H; rw [hy223]; with_reducible exact H2_) | (have H2_ := (Option.bind_some _ _).symm.trans H; with_reducible exact H2_) | with_reducible exact H | (rw [hy223]; exact H) | exact H
     have Ny223 := YL hy223; clear hy223
     by_cases c68 : y189.length + y223.length < 140737488355328
     rotate_left
     ·rw [if_neg c68] at H
      exact absurd H (by simp)
     rw [if_pos c68] at H; have LMc68 := YL c68; clear c68
     obtain ⟨y226, hy226⟩ : ∃ y_ : List Int, y_ = (y189 ++ y223) := ⟨_, rfl⟩
     replace H : (some (y226, 0)) = some (r1, r2) := by first | (rw [hy226]; with_reducible exact H) | (have H2_ := (Option.bind_some _ _).symm.trans H; rw [hy226]; with_reducible exact H2_) | (have H2_ := (Option.bind_some _ _).symm.trans H; with_reducible exact H2_) | with_reducible exact H | (rw [hy226]; exact H) | exact H
     have Ny226 := YL hy226; clear hy226
     simp only [Option.some.injEq, Prod.mk.injEq] at H
     obtain ⟨rfl, rfl⟩ := H
     obtain ⟨q69_0, q69_1, q69_2, q69_3, q69_4, q69_5, q69_6, q69_7, q69_8, q69_9, q69_10, q69_11⟩ := cA12 BK187.out
     obtain ⟨f69_0, f69_1, f69_2, f69_3, f69_4, f69_5, f69_6, f69_7, f69_8, f69_9, f69_10, f69_11⟩ := fA12 BK187.out
     go_wp2_with (first | ((with_reducible refine gate_dst (N := 66) rfl ?_); refine Kd.R_lit (Kd.int .u8) _ 5 ?hg (N := 66) ?hd (xs := ([(a0_11 / 256) % 256, (a0_11) % 256] : List Int)) (inner := [.int .u8 ((a0_11 / 256) % 256), .int .u8 ((a0_11) % 256)]) (ok := fun _ => True) (okp := fun _ => True) ?hr ?hp (fun _ hk => hk) trivial (Below.refl _ _) (Nat.le_refl _) (by simp) ?_; (case hd => rfl); (case hg => rfl); (case hr => first | (go_simp; done) | (go_simp; rfl)); (case hp => exact (Reps.one (show Kd.M (Kd.int .u8) _ _ _ ((a0_11 / 256) % 256) [.int .u8 ((a0_11 / 256) % 256)] from rfl) (Reps.one (show Kd.M (Kd.int .u8) _ _ _ ((a0_11) % 256) [.int .u8 ((a0_11) % 256)] from rfl) (Reps.none _ _)))); intro v224 w70 ho71 hb hg_ hnew_; clear hg_ hnew_; (first | rw [← Ny223.out] at ho71 | (simp only [Int.reduceToNat] at ho71; rw [← Ny223.out] at ho71)); have n0_ := YL (Kd.R_elder' (upR HO_5) (Kd.R_base ho71) hb); have n1_ := YL (Kd.R_lower (Kd.R_new' ho71 (Kd.R_lt (upR HO_5))) (YE (upB HB))); have n2_ := YL (YK (g := gb187) (o := .cells #[.int .i64 a0_0, .int .i64 a0_1, .bool a0_2, .int .i64 a0_3, .int .i64 a0_4, .int .i64 a0_5, .int .i64 a0_6, .int .i64 a0_7, .int .i64 a0_8, .int .i64 a0_9, .int .i64 a0_10, .int .i64 a0_11] 34 (0, 0)) (upK BK187) hb); have n3_ := YL (YD (upB HB) hb); clear HO_5; clear BK187; clear HB; have HO_5 := n0_; have HO225 := n1_; have BK187 := n2_; have HB := n3_; clear n0_ n1_ n2_ n3_; clear hb ho71; obtain ⟨Ao73, co73, eo73⟩ := Kd.R_slice HO225.out; subst eo73) | ((with_reducible refine gate_builtin (b := .append) (xs := #[.tmp 58, .tmp 66]) rfl ?_); at_builtin; refine Kd.R_append_rows (Kd.int .u8) (w0 := w) w.heap.size rfl (.tmp 58) (.tmp 66) 107 5 (.int .u8 0) 1 rfl Try.underlying107 info5 rfl (by decide) (by omega) v190 y189 y223 _ _ _ (fun k_ => some k_ ≠ (.slice Ao73 y223.length co73 : Value).ownBlock) (fun _ => False) rfl rfl ?aO ?aR (fun _ _ h => h) (fun _ h => h.elim) ?aF ?aB ?aS ?aL ?_; (case aR => repeat (first | exact (Kd.R_reads' HO225.out).2.2 | (with_reducible refine Kd.C_alloc ?_ _) | (with_reducible refine Kd.C_drewN ?_ _) | (with_reducible refine Kd.C_drew ?_))); (case aB => exact (upB HB)); (case aF => exact (fun k_ hk => Kd.fresh' (Kd.R_lt (upR HO225)) k_ hk)); (case aO => exact (by (with_reducible repeat (first | apply YS | apply YT | apply YU)); exact Kd.R_mono HO_5.out (fun _ hk => by first | exact hk.2 | exact trivial | (simp [hk]; done) | simp_all))); (case aS => exact (YE (upB HB))); (case aL => have := LMc68.out; omega); intro v227 w72 ho hb hg hat; rw [← Ny226.out] at ho; have n0_ := YL (blk_grown (g := gb187) (o := .cells #[.int .i64 a0_0, .int .i64 a0_1, .bool a0_2, .int .i64 a0_3, .int .i64 a0_4, .int .i64 a0_5, .int .i64 a0_6, .int .i64 a0_7, .int .i64 a0_8, .int .i64 a0_9, .int .i64 a0_10, .int .i64 a0_11] 34 (0, 0)) (upK BK187) hg (Kd.R_ne HO_5.out BK187.out (by decide))); have n1_ := YL (Kd.R_after (ok := (fun _ => True)) (upR HO225) hg hat); have n2_ := YL (hb); have n3_ := YL (ho); clear BK187; clear HO225; clear HB; clear HO_5; have BK187 := n0_; have HO225 := n1_; have HB := n2_; have HO228 := n3_; clear n0_ n1_ n2_ n3_; clear ho hb hg hat))
     go_ret2
     exact ⟨_, by first | rfl | (simp [errW_none, errW_some] <;> rfl) | (simp [*, errW_none, errW_some] <;> rfl), by (with_reducible repeat (first | apply YS | apply YT | apply YU)); exact Kd.R_mono HO228.out (fun _ hk => trivial), by repeat (first | (with_reducible first | exact HB.out | apply YA | apply YB | apply YC | refine below_set ?_ GE187.out) | exact HB.out)⟩
    rw [if_neg c67] at H
    have c67b0 : (a0_0 == 4) = false := beq_eq_false_iff_ne.mpr c67
    have c67b1 : (a0_0 != 4) = true := bne_iff_ne.mpr c67
    simp only [Option.some.injEq, Prod.mk.injEq] at H
    obtain ⟨rfl, rfl⟩ := H
    obtain ⟨q74_0, q74_1, q74_2, q74_3, q74_4, q74_5, q74_6, q74_7, q74_8, q74_9, q74_10, q74_11⟩ := cA12 BK187.out
    obtain ⟨f74_0, f74_1, f74_2, f74_3, f74_4, f74_5, f74_6, f74_7, f74_8, f74_9, f74_10, f74_11⟩ := fA12 BK187.out
    go_wp2
    go_ret2
    exact ⟨_, by first | rfl | (simp [errW_none, errW_some] <;> rfl) | (simp [*, errW_none, errW_some] <;> rfl), by (with_reducible repeat (first | apply YS | apply YT | apply YU)); exact HO_5.out, by repeat (first | (with_reducible first | exact HB.out | apply YA | apply YB | apply YC | refine below_set ?_ GE187.out) | exact HB.out)⟩
 rw [if_neg c3] at H
 have c3b0 : (t188 == 0) = false := beq_eq_false_iff_ne.mpr c3
 have c3b1 : (t188 != 0) = true := bne_iff_ne.mpr c3
 simp only [Option.some.injEq, Prod.mk.injEq] at H
 obtain ⟨rfl, rfl⟩ := H
 go_enter Try.func67, Try.ntmps67
 go_wp2_with (first | ((with_reducible refine gate_dst (N := 1) rfl ?_); refine box_event ?hg (N := 1) ?hd (cs := #[.int .i64 a0_0, .int .i64 a0_1, .bool a0_2, .int .i64 a0_3, .int .i64 a0_4, .int .i64 a0_5, .int .i64 a0_6, .int .i64 a0_7, .int .i64 a0_8, .int .i64 a0_9, .int .i64 a0_10, .int .i64 a0_11]) (t := 34) ?hr ?_; (case hd => rfl); (case hg => rfl); (case hr => first | (go_simp; done) | (go_simp; rfl)); intro gb187 hg w75 hbox hb; have n0_ := YL (YD (upB HB) hb); have n1_ := YL (hbox); have n2_ := YL ((by rw [hg]; exact (YE (upB HB)) : w.heap.size ≤ gb187)); have n3_ := YL ((by rw [hg]; exact (YE (upB HB)) : w.heap.size ≤ gb187)); clear HB; have HB := n0_; have BK187 := n1_; have GW187 := n2_; have GE187 := n3_; clear n0_ n1_ n2_ n3_; clear hb hbox hg; obtain ⟨q76_0, q76_1, q76_2, q76_3, q76_4, q76_5, q76_6, q76_7, q76_8, q76_9, q76_10, q76_11⟩ := cA12 BK187.out; obtain ⟨f76_0, f76_1, f76_2, f76_3, f76_4, f76_5, f76_6, f76_7, f76_8, f76_9, f76_10, f76_11⟩ := fA12 BK187.out) | ((with_reducible refine gate_callee (f := 26) rfl ?_); refine goesA (some 9) Try.func26 #[.agg #[.int .i64 a0_0, .int .i64 a0_1, .bool a0_2, .int .i64 a0_3, .int .i64 a0_4, .int .i64 a0_5, .int .i64 a0_6, .int .i64 a0_7, .int .i64 a0_8, .int .i64 a0_9, .int .i64 a0_10, .int .i64 a0_11]] ?_; (with_reducible refine (object_Check.calls k a0_0 a0_1 a0_2 a0_3 a0_4 a0_5 a0_6 a0_7 a0_8 a0_9 a0_10 a0_11 t188 _ A2.out).mono ?_); rintro e w77 ⟨rfl, hb⟩; refine ⟨_, rfl, ?_⟩; have n0_ := YL (YK (g := gb187) (o := .cells #[.int .i64 a0_0, .int .i64 a0_1, .bool a0_2, .int .i64 a0_3, .int .i64 a0_4, .int .i64 a0_5, .int .i64 a0_6, .int .i64 a0_7, .int .i64 a0_8, .int .i64 a0_9, .int .i64 a0_10, .int .i64 a0_11] 34 (0, 0)) (upK BK187) hb); have n1_ := YL (YD (upB HB) hb); clear BK187; clear HB; have BK187 := n0_; have HB := n1_; clear n0_ n1_; (try clear hb); (try clear hb2); (try clear hk); (try clear hi)))
 go_ret2
 exact ⟨_, by first | rfl | (simp [errW_none, errW_some] <;> rfl) | (simp [*, errW_none, errW_some] <;> rfl), by first | exact Kd.R_nil _ _ _ _ _ | exact Kd.N_nil _ _ _ _ _ | exact Kd.V_nil _ _ _ _ _ | exact Kd.Q_nil _ _ _ _ _ | exact Kd.S_nil _ _ _ _ _, by repeat (first | (with_reducible first | exact HB.out | apply YA | apply YB | apply YC | refine below_set ?_ GE187.out) | exact HB.out)⟩
end Go.Proofs.Ytclbempnhelmoaa.P
namespace Go.Proofs.Ytclbempnhelmoaa.P
open Go.RowKit YtclbempnhelmoaaW.PrintWords YtclbempnhelmoaaW.PrintLast YtclbempnhelmoaaW.PrintMore
open YtclbempnhelmoaaW.PrintWords renaming below_alloc → YA, pw_below_drewN → YB, below_drew1 → YC, blk_cell → YD, blk_frozen → YE
open YtclbempnhelmoaaW.PrintWords.Aside0 renaming mk → YF
attribute [local go_sem] max2_int min2_int max_two min_two max_three min_three max_four min_four
def object_Size.f (k : Nat) (a0_0 : Int) (a0_1 : Int) (a0_2 : Bool) (a0_3 : Int) (a0_4 : Int) (a0_5 : Int) (a0_6 : Int) (a0_7 : Int) (a0_8 : Int) (a0_9 : Int) (a0_10 : Int) (a0_11 : Int) : Option (Int) := (object_Bytes.f k a0_0 a0_1 a0_2 a0_3 a0_4 a0_5 a0_6 a0_7 a0_8 a0_9 a0_10 a0_11).bind fun bt230 => (some (bt230.1.length : Int))
theorem object_Size.calls (k : Nat) (a0_0 : Int) (a0_1 : Int) (a0_2 : Bool) (a0_3 : Int) (a0_4 : Int) (a0_5 : Int) (a0_6 : Int) (a0_7 : Int) (a0_8 : Int) (a0_9 : Int) (a0_10 : Int) (a0_11 : Int) (r : Int) (w : World) (h : object_Size.f k a0_0 a0_1 a0_2 a0_3 a0_4 a0_5 a0_6 a0_7 a0_8 a0_9 a0_10 a0_11 = some r) :
  Calls Try.prog 52 #[.agg #[.int .i64 a0_0, .int .i64 a0_1, .bool a0_2, .int .i64 a0_3, .int .i64 a0_4, .int .i64 a0_5, .int .i64 a0_6, .int .i64 a0_7, .int .i64 a0_8, .int .i64 a0_9, .int .i64 a0_10, .int .i64 a0_11]] w fun e w' => e = .returned (.int .i64 r) ∧ Below w.heap.size w w' := by
 have hu34 := Try.underlying34
 have HB := YF (Below.refl w.heap.size w)
 have H : ((object_Bytes.f k a0_0 a0_1 a0_2 a0_3 a0_4 a0_5 a0_6 a0_7 a0_8 a0_9 a0_10 a0_11).bind fun bt230 => (some (bt230.1.length : Int))) = some r := h
 clear h; replace H := Option.bind_eq_some_iff.mp H
 obtain ⟨⟨t230, t233⟩, A20, H⟩ := H
 replace H : (some (t230.length : Int)) = some r := H
 have A2 := YF A20; clear A20
 obtain rfl := Option.some.inj H
 go_enter Try.func52, Try.ntmps52
 go_wp2_with (first | ((with_reducible refine gate_dst (N := 1) rfl ?_); refine box_event ?hg (N := 1) ?hd (cs := #[.int .i64 a0_0, .int .i64 a0_1, .bool a0_2, .int .i64 a0_3, .int .i64 a0_4, .int .i64 a0_5, .int .i64 a0_6, .int .i64 a0_7, .int .i64 a0_8, .int .i64 a0_9, .int .i64 a0_10, .int .i64 a0_11]) (t := 34) ?hr ?_; (case hd => rfl); (case hg => rfl); (case hr => first | (go_simp; done) | (go_simp; rfl)); intro gb229 hg w3 hbox hb; have n0_ := YF (below_step (upB HB) hb); have n1_ := YF (hbox); have n2_ := YF ((by rw [hg]; exact (below_size (upB HB)) : w.heap.size ≤ gb229)); have n3_ := YF ((by rw [hg]; exact (below_size (upB HB)) : w.heap.size ≤ gb229)); clear HB; have HB := n0_; have BK229 := n1_; have GW229 := n2_; have GE229 := n3_; clear n0_ n1_ n2_ n3_; clear hb hbox hg; obtain ⟨q4_0, q4_1, q4_2, q4_3, q4_4, q4_5, q4_6, q4_7, q4_8, q4_9, q4_10, q4_11⟩ := cA12 BK229.out; obtain ⟨f4_0, f4_1, f4_2, f4_3, f4_4, f4_5, f4_6, f4_7, f4_8, f4_9, f4_10, f4_11⟩ := fA12 BK229.out) | ((with_reducible refine gate_callee (f := 67) rfl ?_); refine goesA (some 7) Try.func67 #[.agg #[.int .i64 a0_0, .int .i64 a0_1, .bool a0_2, .int .i64 a0_3, .int .i64 a0_4, .int .i64 a0_5, .int .i64 a0_6, .int .i64 a0_7, .int .i64 a0_8, .int .i64 a0_9, .int .i64 a0_10, .int .i64 a0_11]] ?_; (with_reducible refine (object_Bytes.calls k a0_0 a0_1 a0_2 a0_3 a0_4 a0_5 a0_6 a0_7 a0_8 a0_9 a0_10 a0_11 t230 t233 _ A2.out).mono ?_); rintro e w5 ⟨v231, rfl, ho0, hb⟩; refine ⟨_, rfl, ?_⟩; have n0_ := YF (Kd.R_lower ho0 (below_size (upB HB))); have n1_ := YF (blk_below (g := gb229) (o := .cells #[.int .i64 a0_0, .int .i64 a0_1, .bool a0_2, .int .i64 a0_3, .int .i64 a0_4, .int .i64 a0_5, .int .i64 a0_6, .int .i64 a0_7, .int .i64 a0_8, .int .i64 a0_9, .int .i64 a0_10, .int .i64 a0_11] 34 (0, 0)) (upK BK229) hb); have n2_ := YF (below_step (upB HB) hb); clear BK229; clear HB; have HO232 := n0_; have BK229 := n1_; have HB := n2_; clear n0_ n1_ n2_; (try clear hb); (try clear hb2); (try clear hk); (try clear hi); (try clear ho0); obtain ⟨Ao6, co6, eo6⟩ := Kd.R_slice HO232.out; subst eo6))
 go_ret
 exact ⟨by first | rfl | (simp [errW_none, errW_some] <;> rfl) | (simp [*, errW_none, errW_some] <;> rfl), by repeat (first | (with_reducible first | exact HB.out | apply YA | apply YB | apply YC | refine below_set ?_ GE229.out) | exact HB.out)⟩
end Go.Proofs.Ytclbempnhelmoaa.P
namespace Go.Proofs.Ytclbempnhelmoaa.P
open Go.RowKit YtclbempnhelmoaaW.PrintWords YtclbempnhelmoaaW.PrintLast YtclbempnhelmoaaW.PrintMore
theorem intSpec_length (v : Int) : (intSpec v).length = 8 := be_length _ _
theorem ob_no (a0 a1 : Int) (a2 : Bool) (a3 a4 a5 a6 a7 a8 a9 a10 a11 c : Int) (h : Ev (fun k => object_Check.f k a0 a1 a2 a3 a4 a5 a6 a7 a8 a9 a10 a11) c) (hc : c ≠ 0) :
  Ev (fun k => object_Bytes.f k a0 a1 a2 a3 a4 a5 a6 a7 a8 a9 a10 a11) ([], c) := by
 unfold object_Bytes.f
 refine Ev.bind h ?_
 simp only [if_neg hc]
 exact Ev.now _
theorem os_ev (a0 a1 : Int) (a2 : Bool) (a3 a4 a5 a6 a7 a8 a9 a10 a11 : Int) (out : List Int × Int) (h : Ev (fun k => object_Bytes.f k a0 a1 a2 a3 a4 a5 a6 a7 a8 a9 a10 a11) out) :
  Ev (fun k => object_Size.f k a0 a1 a2 a3 a4 a5 a6 a7 a8 a9 a10 a11) (out.1.length : Int) := by
 unfold object_Size.f
 exact Ev.bind h (Ev.now _)
def RH (n : Bool) (a b c d e : Int) : Prop := (0 ≤ e ∧ e < 64) ∧ ((n = true ∧ a = 0 ∧ b = 0 ∧ c = 0 ∧ d = 0) ∨ (n = false ∧ 0 ≤ a ∧ a ≤ 4611686018427387903 ∧ 0 ≤ b ∧ b < 64 ∧ 0 ≤ c ∧ c ≤ 1 ∧ -1099511627776 ≤ d ∧ d ≤ 1099511627776))
instance (n : Bool) (a b c d e : Int) : Decidable (RH n a b c d e) := by unfold RH; infer_instance
theorem hj_eq (k : Nat) (n x : Bool) (a b c d e : Int) : height_Check.j0 (k + 1) x n a b c d e = some (if x = true ∧ ((n = true ∧ a = 0 ∧ b = 0 ∧ c = 0 ∧ d = 0) ∨ (n = false ∧ 0 ≤ a ∧ a ≤ 4611686018427387903 ∧ 0 ≤ b ∧ b < 64 ∧ 0 ≤ c ∧ c ≤ 1 ∧ -1099511627776 ≤ d ∧ d ≤ 1099511627776)) then 0 else 1) := by
 simp only [height_Check.j0, height_Null.f, Option.bind_some]
 cases n <;> cases x <;> simp only [Bool.true_and, beq_self_eq_true, Bool.and_true, Bool.and_eq_true, beq_iff_eq, if_true, Bool.false_eq_true, if_false, true_and, false_and, or_false, false_or, Bool.true_eq_false, reduceCtorEq]
 ·repeat' split
  all_goals first
   | rfl
   | (exfalso; omega)
 ·by_cases h : a = 0 ∧ b = 0 ∧ c = 0 ∧ d = 0
  ·rw [if_pos h, if_pos h]
  ·rw [if_neg h, if_neg h]
theorem hc_eq (n : Bool) (a b c d e : Int) : Ev (fun k => height_Check.f k n a b c d e) (if RH n a b c d e then 0 else 1) := by
 unfold height_Check.f
 refine Ev.from 1 fun k => ?_
 rw [hj_eq, hj_eq]
 unfold RH
 by_cases h : e ≥ 0
 ·rw [if_pos h]
  congr 1
  have h0 : 0 ≤ e := h
  simp only [decide_eq_true_eq, h0, true_and]
 ·rw [if_neg h]
  have : ¬ 0 ≤ e := h
  simp only [this, false_and, Bool.false_eq_true]
theorem ha_eq (a b c d e : Int) : ∃ t : Bool × Int × Int × Int × Int × Int × Int, Ev (fun k => height_At.f k a b c d e) t ∧ t.2.2.2.2.2.2 = (if RH false a b c d e then 0 else 1) := by
 unfold height_At.f
 by_cases h : RH false a b c d e
 ·have := hc_eq false a b c d e
  rw [if_pos h] at this
  rw [if_pos h]
  exact ⟨(false, a, b, c, d, e, 0), Ev.bind this (by simp only [if_true]; exact Ev.now _), rfl⟩
 ·have := hc_eq false a b c d e
  rw [if_neg h] at this
  rw [if_neg h]
  exact ⟨(false, 0, 0, 0, 0, 0, 1), Ev.bind this (by simp only [if_neg (show ¬ (1 : Int) = 0 by decide)]; exact Ev.now _), rfl⟩
theorem ev_eq {α : Type} {g : Nat → Option α} {a b : α} (h : Ev g a) (e : a = b) : Ev g b := e ▸ h
def RO (a0 a1 : Int) (a2 : Bool) (a3 a4 a5 a6 a7 a8 a9 a10 a11 : Int) : Prop := (0 ≤ a1 ∧ a1 < 64) ∧
  ((a0 = 1 ∧ (a8 = 0 ∧ a9 = 0 ∧ a10 = 0) ∧ (a2 = false ∧ a3 = 0 ∧ a4 = 0 ∧ a5 = 0 ∧ a6 = 0 ∧ a7 = 0) ∧ a11 = 0) ∨
   (a0 = 2 ∧ (a8 = 0 ∧ a9 = 0 ∧ a10 = 0) ∧ a11 = 0 ∧ RH a2 a3 a4 a5 a6 a7) ∨
   (a0 = 3 ∧ (a2 = false ∧ a3 = 0 ∧ a4 = 0 ∧ a5 = 0 ∧ a6 = 0 ∧ a7 = 0) ∧ a11 = 0 ∧ RH false a8 a9 a10 0 0) ∨
   (a0 = 4 ∧ (a8 = 0 ∧ a9 = 0 ∧ a10 = 0) ∧ 0 ≤ a11 ∧ a11 ≤ 65535 ∧ RH a2 a3 a4 a5 a6 a7 ∧ a2 = false))
instance (a0 a1 : Int) (a2 : Bool) (a3 a4 a5 a6 a7 a8 a9 a10 a11 : Int) : Decidable (RO a0 a1 a2 a3 a4 a5 a6 a7 a8 a9 a10 a11) := by unfold RO; infer_instance
theorem oj1_eq (x4 : Bool) (a0 a1 : Int) (a2 : Bool) (a3 a4 a5 a6 a7 a8 a9 a10 a11 : Int) (b2 : Bool) (b3 b4 b5 b6 b7 b8 b9 b10 b11 : Int) :
  Ev (fun k => object_Check.j1 k x4 a0 a1 a2 a3 a4 a5 a6 a7 a8 a9 a10 a11 0 0 b2 b3 b4 b5 b6 b7 b8 b9 b10 b11) (if x4 = true ∧ RH a2 a3 a4 a5 a6 a7 ∧ (b8 = 0 ∧ b9 = 0 ∧ b10 = 0) ∧ b11 = 0 then 0 else 1) := by
 refine Ev.step (f := fun k => _) (fun k => by simp only [object_Check.j1]; rfl) ?_
 cases x4 with
 | false => simp only [Bool.false_eq_true, if_false, false_and]; exact Ev.now _
 | true =>
  simp only [if_true, true_and]
  refine Ev.bind (hc_eq a2 a3 a4 a5 a6 a7) ?_
  by_cases h : RH a2 a3 a4 a5 a6 a7
  ·simp only [if_pos h, if_true, h, true_and]
   by_cases g : (b8 = 0 ∧ b9 = 0 ∧ b10 = 0) ∧ b11 = 0
   ·obtain ⟨⟨rfl, rfl, rfl⟩, rfl⟩ := g
    simp only [and_self, if_true]
    exact Ev.now _
   ·rw [if_neg g]
    have : (!((0 : Int) == 0) || (!((0 : Int) == 0) || ((!(b8 == 0) || (!(b9 == 0) || (!(b10 == 0)))) || (!(b11 == 0))))) = true := by
     rw [← Bool.not_eq_false]
     intro hf
     simp only [Bool.or_eq_false_iff, Bool.not_eq_false', beq_iff_eq] at hf
     exact g ⟨⟨hf.2.2.1.1, hf.2.2.1.2.1, hf.2.2.1.2.2⟩, hf.2.2.2⟩
    simp only [if_pos this]
    exact Ev.now _
  ·simp only [if_neg h, h, false_and, if_false, show ¬ (1 : Int) = 0 by decide]
   exact Ev.now _
theorem oc_eq (a0 a1 : Int) (a2 : Bool) (a3 a4 a5 a6 a7 a8 a9 a10 a11 : Int) : Ev (fun k => object_Check.f k a0 a1 a2 a3 a4 a5 a6 a7 a8 a9 a10 a11) (if RO a0 a1 a2 a3 a4 a5 a6 a7 a8 a9 a10 a11 then 0 else 1) := by
  have hj : ∀ x : Bool, Ev (fun k => object_Check.j0 k x a0 a1 a2 a3 a4 a5 a6 a7 a8 a9 a10 a11 0 0 a2 a3 a4 a5 a6 a7 a8 a9 a10 a11) (if x = true ∧
    ((a0 = 1 ∧ (a8 = 0 ∧ a9 = 0 ∧ a10 = 0) ∧ (a2 = false ∧ a3 = 0 ∧ a4 = 0 ∧ a5 = 0 ∧ a6 = 0 ∧ a7 = 0) ∧ a11 = 0) ∨
     (a0 = 2 ∧ (a8 = 0 ∧ a9 = 0 ∧ a10 = 0) ∧ a11 = 0 ∧ RH a2 a3 a4 a5 a6 a7) ∨
     (a0 = 3 ∧ (a2 = false ∧ a3 = 0 ∧ a4 = 0 ∧ a5 = 0 ∧ a6 = 0 ∧ a7 = 0) ∧ a11 = 0 ∧ RH false a8 a9 a10 0 0) ∨
     (a0 = 4 ∧ (a8 = 0 ∧ a9 = 0 ∧ a10 = 0) ∧ 0 ≤ a11 ∧ a11 ≤ 65535 ∧ RH a2 a3 a4 a5 a6 a7 ∧ a2 = false)) then 0 else 1) := by
    intro x
    refine Ev.step (f := fun k => _) (fun k => by simp only [object_Check.j0]; rfl) ?_
    by_cases h1 : a0 = 1
    · subst h1
      simp only [if_true, show ¬ (1 : Int) = 2 by decide, show ¬ (1 : Int) = 3 by decide, show ¬ (1 : Int) = 4 by decide, false_and, or_false, true_and]
      cases x with
      | false => simp only [Bool.false_eq_true, if_false, false_and]; exact Ev.now _
      | true =>
        simp only [if_true, true_and]
        by_cases g : (a8 = 0 ∧ a9 = 0 ∧ a10 = 0) ∧ (a2 = false ∧ a3 = 0 ∧ a4 = 0 ∧ a5 = 0 ∧ a6 = 0 ∧ a7 = 0) ∧ a11 = 0
        · rw [if_pos g]
          obtain ⟨⟨rfl, rfl, rfl⟩, ⟨rfl, rfl, rfl, rfl, rfl, rfl⟩, rfl⟩ := g
          exact Ev.now _
        · rw [if_neg g]
          have : (!((0 : Int) == 0) || (!((0 : Int) == 0) || ((a2 || (!(a3 == 0) || (!(a4 == 0) || (!(a5 == 0) || (!(a6 == 0) || (!(a7 == 0))))))) || ((!(a8 == 0) || (!(a9 == 0) || (!(a10 == 0)))) || (!(a11 == 0)))))) = true := by
            rw [← Bool.not_eq_false]
            intro hf
            simp only [Bool.or_eq_false_iff, Bool.not_eq_false', beq_iff_eq] at hf
            obtain ⟨_, _, ⟨u2, u3, u4, u5, u6, u7⟩, ⟨u8, u9, u10⟩, u11⟩ := hf
            exact g ⟨⟨u8, u9, u10⟩, ⟨u2, u3, u4, u5, u6, u7⟩, u11⟩
          simp only [if_pos this]
          exact Ev.now _
    by_cases h4 : a0 = 4
    · subst h4
      simp only [if_true, if_neg h1, show ¬ (4 : Int) = 1 by decide, show ¬ (4 : Int) = 2 by decide, show ¬ (4 : Int) = 3 by decide, false_and, false_or, true_and]
      cases x with
      | false =>
        simp only [Bool.false_eq_true, if_false, false_and]
        refine ev_eq (oj1_eq _ _ _ _ _ _ _ _ _ _ _ _ _ _ _ _ _ _ _ _ _ _ _) ?_
        simp only [Bool.false_eq_true, false_and, if_false]
      | true =>
        simp only [if_true, true_and]
        cases a2 with
        | true =>
          simp only [if_true, Bool.true_eq_false, and_false, if_false]
          refine ev_eq (oj1_eq _ _ _ _ _ _ _ _ _ _ _ _ _ _ _ _ _ _ _ _ _ _ _) ?_
          simp only [Bool.false_eq_true, false_and, if_false]
        | false =>
          simp only [Bool.false_eq_true, if_false, and_true]
          by_cases g : a11 ≥ 0
          · simp only [if_pos g]
            refine ev_eq (oj1_eq _ _ _ _ _ _ _ _ _ _ _ _ _ _ _ _ _ _ _ _ _ _ _) ?_
            have g0 : 0 ≤ a11 := g
            simp only [decide_eq_true_eq, g0, true_and, and_true]
            congr 1
            apply propext
            constructor
            · rintro ⟨u, v, w⟩; exact ⟨w, u, v⟩
            · rintro ⟨w, u, v⟩; exact ⟨u, v, w⟩
          · simp only [if_neg g]
            refine ev_eq (oj1_eq _ _ _ _ _ _ _ _ _ _ _ _ _ _ _ _ _ _ _ _ _ _ _) ?_
            have g' : ¬ 0 ≤ a11 := g
            simp only [g', Bool.false_eq_true, false_and, and_false, if_false]
    by_cases h2 : a0 = 2
    · subst h2
      simp only [if_neg h1, if_neg h4, if_true, show ¬ (2 : Int) = 1 by decide, show ¬ (2 : Int) = 4 by decide, show ¬ (2 : Int) = 3 by decide, false_and, false_or, or_false, true_and]
      refine ev_eq (oj1_eq _ _ _ _ _ _ _ _ _ _ _ _ _ _ _ _ _ _ _ _ _ _ _) ?_
      congr 1
      apply propext
      constructor
      · rintro ⟨u, v, w, z⟩; exact ⟨u, w, z, v⟩
      · rintro ⟨u, w, z, v⟩; exact ⟨u, v, w, z⟩
    by_cases h3 : a0 = 3
    · subst h3
      simp only [if_neg h1, if_neg h4, if_neg h2, if_true, show ¬ (3 : Int) = 1 by decide, show ¬ (3 : Int) = 4 by decide, show ¬ (3 : Int) = 2 by decide, false_and, false_or, or_false, true_and]
      obtain ⟨t, ht, he⟩ := ha_eq a8 a9 a10 0 0
      refine Ev.bind ht ?_
      rw [he]
      cases x with
      | false => simp only [Bool.false_eq_true, if_false, false_and]; exact Ev.now _
      | true =>
        simp only [if_true, true_and]
        by_cases h : RH false a8 a9 a10 0 0
        · simp only [if_pos h, h, if_true, and_true]
          by_cases g : (a2 = false ∧ a3 = 0 ∧ a4 = 0 ∧ a5 = 0 ∧ a6 = 0 ∧ a7 = 0) ∧ a11 = 0
          · rw [if_pos g]
            obtain ⟨⟨rfl, rfl, rfl, rfl, rfl, rfl⟩, rfl⟩ := g
            exact Ev.now _
          · rw [if_neg g]
            have : (!((0 : Int) == 0) || (!((0 : Int) == 0) || ((a2 || (!(a3 == 0) || (!(a4 == 0) || (!(a5 == 0) || (!(a6 == 0) || (!(a7 == 0))))))) || (!(a11 == 0))))) = true := by
              rw [← Bool.not_eq_false]
              intro hf
              simp only [Bool.or_eq_false_iff, Bool.not_eq_false', beq_iff_eq] at hf
              obtain ⟨_, _, ⟨u2, u3, u4, u5, u6, u7⟩, u11⟩ := hf
              exact g ⟨⟨u2, u3, u4, u5, u6, u7⟩, u11⟩
            simp only [if_pos this]
            exact Ev.now _
        · simp only [if_neg h, h, show ¬ (1 : Int) = 0 by decide, if_false, and_false]
          exact Ev.now _
    · simp only [if_neg h1, if_neg h4, if_neg h2, if_neg h3, h1, h2, h3, h4, false_and, or_false, and_false, if_false]
      exact Ev.now _
  unfold object_Check.f RO
  by_cases h : a1 ≥ 0
  · simp only [if_pos h]
    refine ev_eq (hj _) ?_
    have g0 : 0 ≤ a1 := h
    simp only [decide_eq_true_eq, g0, true_and]
  · simp only [if_neg h]
    refine ev_eq (hj _) ?_
    have h' : ¬ 0 ≤ a1 := h
    simp only [h', Bool.false_eq_true, false_and, and_false, if_false]
def hB (n : Bool) (a b c d e : Int) : List Int := if n = true then [0, e % 256] else [1] ++ intSpec a ++ [b % 256, c % 256] ++ intSpec d ++ [e % 256]
theorem hB_length (n : Bool) (a b c d e : Int) : (hB n a b c d e).length = if n = true then 2 else 20 := by
 unfold hB
 cases n
 ·simp only [Bool.false_eq_true, if_false, List.length_append, intSpec_length, List.length_cons, List.length_nil]
 ·rfl
theorem hb_eq (n : Bool) (a b c d e : Int) (h : RH n a b c d e) : Ev (fun k => height_Bytes.f k n a b c d e) (hB n a b c d e, 0) := by
 have hc := hc_eq n a b c d e
 rw [if_pos h] at hc
 unfold height_Bytes.f hB
 refine Ev.bind hc ?_
 cases n with
 | true =>
  simp only [if_true, List.length_nil, List.nil_append, Option.bind_some, List.length_singleton]
  simp only [show (0 : Nat) < 140737488355328 by decide, show (1 : Nat) < 140737488355328 by decide, if_true]
  exact Ev.now _
 | false =>
  simp only [if_true, Bool.false_eq_true, if_false, List.length_nil, List.nil_append, Option.bind_some, List.length_singleton, wire_Int_eq, List.length_append, intSpec_length, List.length_cons]
  simp only [show (0 : Nat) < 140737488355328 by decide, Nat.reduceAdd, Nat.reduceLT, if_true]
  exact Ev.now _
def oB (a0 a1 : Int) (a2 : Bool) (a3 a4 a5 a6 a7 a8 a9 a10 a11 : Int) : List Int :=
 [a0 % 256, a1 % 256] ++ (if a0 = 1 then [] else if a0 = 3 then intSpec a8 ++ [a9 % 256, a10 % 256] else if a0 = 4 then hB a2 a3 a4 a5 a6 a7 ++ [a11 / 256 % 256, a11 % 256] else hB a2 a3 a4 a5 a6 a7)
theorem obx (a0 a1 : Int) (a2 : Bool) (a3 a4 a5 a6 a7 a8 a9 a10 a11 : Int) (h : RO a0 a1 a2 a3 a4 a5 a6 a7 a8 a9 a10 a11) :
  Ev (fun k => object_Bytes.f k a0 a1 a2 a3 a4 a5 a6 a7 a8 a9 a10 a11) (oB a0 a1 a2 a3 a4 a5 a6 a7 a8 a9 a10 a11, 0) := by
 have hc := oc_eq a0 a1 a2 a3 a4 a5 a6 a7 a8 a9 a10 a11
 rw [if_pos h] at hc
 unfold object_Bytes.f
 refine Ev.bind hc ?_
 simp only [if_true, Option.bind_some]
 rcases h.2 with ⟨rfl, _⟩ | ⟨rfl, _, _, hh⟩ | ⟨rfl, _⟩ | ⟨rfl, _, _, _, hh, rfl⟩
 ·simp only [if_neg (show ¬ (1 : Int) = 2 by decide), show ((1 : Int) == 4) = false by decide]
  refine Ev.step (f := fun k => _) (fun k => by simp only [object_Bytes.j0]; rfl) ?_
  simp only [Bool.false_eq_true, if_false, if_neg (show ¬ (1 : Int) = 3 by decide), if_neg (show ¬ (1 : Int) = 4 by decide)]
  exact Ev.now _
 ·simp only [show ((2 : Int) == 2) = true by decide, if_true]
  refine Ev.step (f := fun k => _) (fun k => by simp only [object_Bytes.j0]; rfl) ?_
  simp only [if_true]
  refine Ev.bind (hb_eq _ _ _ _ _ _ hh) ?_
  have hl := hB_length a2 a3 a4 a5 a6 a7
  have : [2 % 256, a1 % 256].length + (hB a2 a3 a4 a5 a6 a7).length < 140737488355328 := by rw [hl]; simp; split <;> omega
  simp only [if_true, if_pos this, Option.bind_some, if_neg (show ¬ (2 : Int) = 4 by decide)]
  exact Ev.now _
 ·simp only [if_neg (show ¬ (3 : Int) = 2 by decide), show ((3 : Int) == 4) = false by decide]
  refine Ev.step (f := fun k => _) (fun k => by simp only [object_Bytes.j0]; rfl) ?_
  simp only [Bool.false_eq_true, if_false, if_true, wire_Int_eq, Option.bind_some, List.length_append, intSpec_length, List.length_cons, List.length_nil, Nat.reduceAdd, Nat.reduceLT, if_neg (show ¬ (3 : Int) = 4 by decide)]
  refine ev_eq (Ev.now _) ?_
  unfold oB
  rw [if_neg (show ¬ (3 : Int) = 1 by decide), if_pos rfl, List.append_assoc]
 ·simp only [if_neg (show ¬ (4 : Int) = 2 by decide), show ((4 : Int) == 4) = true by decide]
  refine Ev.step (f := fun k => _) (fun k => by simp only [object_Bytes.j0]; rfl) ?_
  simp only [if_true]
  refine Ev.bind (hb_eq _ _ _ _ _ _ hh) ?_
  have h20 : (hB false a3 a4 a5 a6 a7).length = 20 := by rw [hB_length]; rfl
  simp only [List.length_append, List.length_cons, List.length_nil, h20, Nat.reduceAdd, Nat.reduceLT, if_true, Option.bind_some]
  refine ev_eq (Ev.now _) ?_
  unfold oB
  rw [if_neg (show ¬ (4 : Int) = 1 by decide), if_neg (show ¬ (4 : Int) = 3 by decide), if_pos rfl, List.append_assoc]
theorem obn (a0 a1 : Int) (a2 : Bool) (a3 a4 a5 a6 a7 a8 a9 a10 a11 : Int) (h : ¬ RO a0 a1 a2 a3 a4 a5 a6 a7 a8 a9 a10 a11) :
  Ev (fun k => object_Bytes.f k a0 a1 a2 a3 a4 a5 a6 a7 a8 a9 a10 a11) ([], 1) := by
 have hc := oc_eq a0 a1 a2 a3 a4 a5 a6 a7 a8 a9 a10 a11
 rw [if_neg h] at hc
 exact ob_no _ _ _ _ _ _ _ _ _ _ _ _ _ hc (by decide)
end Go.Proofs.Ytclbempnhelmoaa.P
namespace Go.Proofs.Ytclbempnhelmoaa.P
open Go.RowKit YtclbempnhelmoaaW.PrintWords YtclbempnhelmoaaW.PrintLast YtclbempnhelmoaaW.PrintMore
open Classical
theorem bool_same0' {p q : Prop} [Decidable p] [Decidable q] (h : p ↔ q) : (decide p) = (decide q) := by
 by_cases hp : p
 ·rw [decide_eq_true hp, decide_eq_true (h.mp hp)]
 ·rw [decide_eq_false hp, decide_eq_false (fun hq => hp (h.mpr hq))]
def OR (o : S34) : Prop := RO o.f0 o.f1 o.f2.f0 o.f2.f1 o.f2.f2 o.f2.f3 o.f2.f4 o.f2.f5 o.f3.f0 o.f3.f1 o.f3.f2 o.f4
def OB (o : S34) : List Int := oB o.f0 o.f1 o.f2.f0 o.f2.f1 o.f2.f2 o.f2.f3 o.f2.f4 o.f2.f5 o.f3.f0 o.f3.f1 o.f3.f2 o.f4
def OW (o : S34) : Prop := (Lit.int .i64 o.f2.f1).wf = true ∧ (Lit.int .i64 o.f2.f4).wf = true ∧ (Lit.int .i64 o.f3.f0).wf = true
noncomputable def sz (o : S34) : Int := if OR o then ((OB o).length : Int) else 0
theorem sz_yes {o : S34} (h : OR o) : sz o = ((OB o).length : Int) := if_pos h
theorem sz_no {o : S34} (h : ¬ OR o) : sz o = 0 := if_neg h
theorem OB_length (o : S34) : 2 ≤ (OB o).length ∧ (OB o).length ≤ 24 := by
 unfold OB oB
 rw [List.length_append]
 have h := hB_length o.f2.f0 o.f2.f1 o.f2.f2 o.f2.f3 o.f2.f4 o.f2.f5
 have h2 : (hB o.f2.f0 o.f2.f1 o.f2.f2 o.f2.f3 o.f2.f4 o.f2.f5).length ≤ 20 := by rw [h]; split <;> omega
 simp only [List.length_cons, List.length_nil]
 split
 ·simp
 split
 ·simp [intSpec_length]
 split
 ·simp only [List.length_append, List.length_cons, List.length_nil]; omega
 ·omega
theorem sz_range (o : S34) : 0 ≤ sz o ∧ sz o ≤ 24 := by
 have := OB_length o
 by_cases h : OR o
 ·rw [sz_yes h]; omega
 ·rw [sz_no h]; omega
noncomputable def sums (l : List S34) : Int := (l.map sz).sum
theorem sums_nil : sums [] = 0 := rfl
theorem sums_cons (o : S34) (l : List S34) : sums (o :: l) = sz o + sums l := by simp [sums]
theorem sums_append (l m : List S34) : sums (l ++ m) = sums l + sums m := by simp [sums]
theorem sums_range (l : List S34) : 0 ≤ sums l ∧ sums l ≤ 24 * l.length := by
 induction l with
 | nil => simp [sums]
 | cons o l ih => have := sz_range o; rw [sums_cons, List.length_cons]; omega
def Rights (l : List S34) : Prop := ∀ o ∈ l, OR o
theorem obs_get (l : List S34) (i : Int) (h0 : 0 ≤ i) (h1 : i < l.length) : l.drop i.toNat = rd_T34 l i :: l.drop (i + 1).toNat := by
 have hi : i.toNat < l.length := by omega
 rw [List.drop_eq_getElem_cons hi, show (i + 1).toNat = i.toNat + 1 by omega]
 congr 1
 unfold rd_T34
 rw [List.getD_eq_getElem?_getD, List.getElem?_eq_getElem hi]
 rfl
theorem obs_mem (l : List S34) (i : Int) (h0 : 0 ≤ i) (h1 : i < l.length) : rd_T34 l i ∈ l := by
 have := List.mem_of_mem_drop (l := l) (i := i.toNat) (a := rd_T34 l i) (by rw [obs_get l i h0 h1]; exact List.mem_cons_self)
 exact this
theorem size_ev (o : S34) : Ev (fun k => object_Size.f k o.f0 o.f1 o.f2.f0 o.f2.f1 o.f2.f2 o.f2.f3 o.f2.f4 o.f2.f5 o.f3.f0 o.f3.f1 o.f3.f2 o.f4) (sz o) := by
 by_cases h : OR o
 ·rw [sz_yes h]
  exact os_ev _ _ _ _ _ _ _ _ _ _ _ _ _ (obx _ _ _ _ _ _ _ _ _ _ _ _ h)
 ·rw [sz_no h]
  exact os_ev _ _ _ _ _ _ _ _ _ _ _ _ _ (obn _ _ _ _ _ _ _ _ _ _ _ _ h)
theorem wrong_ev (o : S34) : Ev (fun k => batch_wrong.f k o.f0 o.f1 o.f2.f0 o.f2.f1 o.f2.f2 o.f2.f3 o.f2.f4 o.f2.f5 o.f3.f0 o.f3.f1 o.f3.f2 o.f4) (decide (¬ OR o)) := by
 unfold batch_wrong.f
 by_cases h : OR o
 ·have hc := oc_eq o.f0 o.f1 o.f2.f0 o.f2.f1 o.f2.f2 o.f2.f3 o.f2.f4 o.f2.f5 o.f3.f0 o.f3.f1 o.f3.f2 o.f4
  rw [if_pos (show RO _ _ _ _ _ _ _ _ _ _ _ _ from h)] at hc
  refine Ev.bind hc (ev_eq (Ev.now _) ?_)
  rw [decide_eq_false (fun g => g h)]
  rfl
 ·have hc := oc_eq o.f0 o.f1 o.f2.f0 o.f2.f1 o.f2.f2 o.f2.f3 o.f2.f4 o.f2.f5 o.f3.f0 o.f3.f1 o.f3.f2 o.f4
  rw [if_neg (show ¬ RO _ _ _ _ _ _ _ _ _ _ _ _ from h)] at hc
  refine Ev.bind hc (ev_eq (Ev.now _) ?_)
  rw [decide_eq_true h]
  rfl
theorem index_l0 (l : List S34) (hn : l.length ≤ 100000) : ∀ (d : Nat) (i : Int), 0 ≤ i → (l.length : Int) - i = d → ∃ r : Int, Ev (fun k => api_Object_66.l0 k l (l.length : Int) i) r ∧ (r ≥ 0 ↔ ¬ Rights (l.drop i.toNat)) := by
 intro d
 induction d with
 | zero =>
  intro i h0 hd
  refine ⟨-1, Ev.from 1 fun k => ?_, ?_⟩
  ·simp only [api_Object_66.l0]
   rw [if_neg (by omega)]
  ·rw [List.drop_eq_nil_of_le (by omega)]
   constructor
   ·intro h; omega
   ·intro h; exact absurd (fun o ho => by cases ho) h
 | succ d ih =>
  intro i h0 hd
  have h1 : i < (l.length : Int) := by omega
  rw [obs_get l i h0 h1]
  by_cases h : OR (rd_T34 l i)
  ·obtain ⟨r, hr, hi⟩ := ih (i + 1) (by omega) (by omega)
   refine ⟨r, ?_, ?_⟩
   ·refine Ev.step (f := fun k => _) (fun k => by simp only [api_Object_66.l0]; rfl) ?_
    simp only [if_pos h1, if_pos h0]
    refine Ev.bind (wrong_ev (rd_T34 l i)) ?_
    simp only [decide_eq_false (fun g : ¬ OR (rd_T34 l i) => g h), Bool.false_eq_true, if_false, w64 (x := i + 1) (by omega) (by omega)]
    exact hr
   ·rw [hi]
    constructor
    ·intro g g2; exact g fun o ho => g2 o (List.mem_cons_of_mem _ ho)
    ·intro g g2
     refine g fun o ho => ?_
     rcases List.mem_cons.1 ho with rfl | ho
     ·exact h
     ·exact g2 o ho
  ·refine ⟨i, ?_, ?_⟩
   ·refine Ev.step (f := fun k => _) (fun k => by simp only [api_Object_66.l0]; rfl) ?_
    simp only [if_pos h1, if_pos h0]
    refine Ev.bind (wrong_ev (rd_T34 l i)) ?_
    simp only [decide_eq_true h, if_true]
    exact Ev.now _
   ·exact ⟨fun _ g => h (g _ List.mem_cons_self), fun _ => h0⟩
theorem contains_ev (l : List S34) (hn : l.length ≤ 100000) : Ev (fun k => api_Object_50.f k l) (decide (¬ Rights l)) := by
 obtain ⟨r, hr, hi⟩ := index_l0 l hn l.length 0 (by omega) (by omega)
 unfold api_Object_50.f
 refine Ev.bind (show Ev (fun k => api_Object_66.f k l) r from hr) (ev_eq (Ev.now _) ?_)
 exact bool_same0' hi
def RB (a : Int) (l : List S34) : Prop := (0 ≤ a ∧ a ≤ 65535) ∧ (1 ≤ l.length ∧ l.length ≤ 32) ∧ Rights l ∧ 3 + sums l ≤ 512
end Go.Proofs.Ytclbempnhelmoaa.P
namespace Go.Proofs.Ytclbempnhelmoaa.P
open Classical
open Go.RowKit YtclbempnhelmoaaW.PrintWords YtclbempnhelmoaaW.PrintLast YtclbempnhelmoaaW.PrintMore
def nx (n : Int) : Int := (n + 1) % 65536
theorem next_eq (n : Int) (h : -9223372036854775808 ≤ n ∧ n ≤ 9223372036854775807) : serial_Next.f n = some (nx n) := by
 unfold serial_Next.f nx
 have hu : ∀ x : Int, IntKind.u16.wrap x = x % 65536 := fun x => by simp [IntKind.wrap, IntKind.bits, IntKind.signed]
 rw [hu, hu, w64 (by omega) (by omega)]
 congr 1
 omega
def fit (most : Int) (cur : List S34) (o : S34) : Prop := 3 + sums cur + sz o ≤ most ∧ cur.length < 32
noncomputable def packGo (most : Int) : List S34 → Int → List S34 → List S48
 | [], n, cur => if cur = [] then [] else [⟨n, cur⟩]
 | o :: l, n, cur => if fit most cur o then packGo most l n (cur ++ [o]) else ⟨n, cur⟩ :: packGo most l (nx n) [o]
theorem pack_nil (most n : Int) (cur : List S34) (h : cur ≠ []) : packGo most [] n cur = [⟨n, cur⟩] := by unfold packGo; rw [if_neg h]
theorem pack_nil0 (most n : Int) : packGo most [] n [] = [] := by unfold packGo; rw [if_pos rfl]
theorem pack_fit {most n : Int} {o : S34} {l cur : List S34} (h : fit most cur o) : packGo most (o :: l) n cur = packGo most l n (cur ++ [o]) := by rw [packGo, if_pos h]
theorem pack_new {most n : Int} {o : S34} {l cur : List S34} (h : ¬ fit most cur o) : packGo most (o :: l) n cur = ⟨n, cur⟩ :: packGo most l (nx n) [o] := by rw [packGo, if_neg h]
theorem fit_nil {most : Int} (h : 40 ≤ most) (o : S34) : fit most [] o := by
 have := sz_range o
 exact ⟨by rw [sums_nil]; omega, by simp⟩
theorem and16 (n : Int) (_h : -9223372036854775808 ≤ n ∧ n ≤ 9223372036854775807) : Go.bits .and .i64 n 65535 = n % 65536 := by
 show IntKind.i64.wrap ((BitVec.ofInt 64 n &&& BitVec.ofInt 64 65535).toNat : Int) = _
 rw [BitVec.toNat_and, BitVec.toNat_ofInt, show (BitVec.ofInt 64 65535).toNat = 2 ^ 16 - 1 from rfl, Nat.and_two_pow_sub_one_eq_mod, IntKind.wrap_i64]
 omega
def PK (most : Int) (l : List S34) : Prop := (40 ≤ most ∧ most ≤ 512) ∧ Rights l
theorem pack_right (most : Int) (hm : 40 ≤ most ∧ most ≤ 512) : ∀ (l : List S34) (n : Int) (cur : List S34), Rights (cur ++ l) → cur.length ≤ 32 → (cur ≠ [] → 3 + sums cur ≤ most) → 0 ≤ n → n ≤ 65535 → ∀ b ∈ packGo most l n cur, RB b.f0 b.f1 ∧ 3 + sums b.f1 ≤ most := by
 intro l
 have one : ∀ (n : Int) (cur : List S34), cur ≠ [] → Rights cur → cur.length ≤ 32 → 3 + sums cur ≤ most → 0 ≤ n → n ≤ 65535 → RB n cur ∧ 3 + sums cur ≤ most := fun n cur h hr hl hs h0 h1 => ⟨⟨⟨h0, h1⟩, ⟨List.length_pos_iff.2 h, hl⟩, hr, by omega⟩, hs⟩
 induction l with
 | nil =>
  intro n cur hr hl hs h0 h1 b hb
  by_cases h : cur = []
  ·subst h; rw [pack_nil0] at hb; cases hb
  ·rw [pack_nil _ _ _ h] at hb
   rw [List.mem_singleton.1 hb]
   exact one n cur h (by simpa using hr) hl (hs h) h0 h1
 | cons o l ih =>
  intro n cur hr hl hs h0 h1 b hb
  have hnx : 0 ≤ nx n ∧ nx n ≤ 65535 := by unfold nx; omega
  by_cases hf : fit most cur o
  ·rw [pack_fit hf] at hb
   refine ih n (cur ++ [o]) (by rw [List.append_assoc]; exact hr) (by have := hf.2; simp; omega) (fun _ => ?_) h0 h1 b hb
   have := hf.1
   rw [sums_append, sums_cons, sums_nil]
   omega
  ·rw [pack_new hf] at hb
   rcases List.mem_cons.1 hb with rfl | hb
   ·have h : cur ≠ [] := fun g => hf (by rw [g]; exact fit_nil hm.1 o)
    exact one n cur h (fun x hx => hr x (List.mem_append_left _ hx)) hl (hs h) h0 h1
   ·have hz := sz_range o
    refine ih (nx n) [o] (fun x hx => hr x (List.mem_append_right _ (by simpa using hx))) (by simp) (fun _ => ?_) hnx.1 hnx.2 b hb
    rw [sums_cons, sums_nil]
    omega
theorem pack_flat (most : Int) : ∀ (l : List S34) (n : Int) (cur : List S34), (packGo most l n cur).flatMap (fun b => b.f1) = cur ++ l := by
 intro l
 induction l with
 | nil =>
  intro n cur
  by_cases h : cur = []
  ·subst h; rw [pack_nil0]; rfl
  ·rw [pack_nil _ _ _ h]; simp
 | cons o l ih =>
  intro n cur
  by_cases hf : fit most cur o
  ·rw [pack_fit hf, ih]; simp
  ·rw [pack_new hf, List.flatMap_cons, ih]; simp
end Go.Proofs.Ytclbempnhelmoaa.P
namespace Go.Proofs.Ytclbempnhelmoaa.P
open Go.RowKit YtclbempnhelmoaaW.PrintWords YtclbempnhelmoaaW.PrintLast YtclbempnhelmoaaW.PrintMore
open Classical
theorem cells12 {w : World} {g t : Nat} {v0 v1 v2 v3 v4 v5 v6 v7 v8 v9 v10 v11 : Value} (h : w.heap[g]? = some (.cells #[v0, v1, v2, v3, v4, v5, v6, v7, v8, v9, v10, v11] t (0, 0))) : w.cell? ⟨g, 0, none⟩ = some v0 ∧ w.cell? ⟨g, 1, none⟩ = some v1 ∧ w.cell? ⟨g, 2, none⟩ = some v2 ∧ w.cell? ⟨g, 3, none⟩ = some v3 ∧ w.cell? ⟨g, 4, none⟩ = some v4 ∧ w.cell? ⟨g, 5, none⟩ = some v5 ∧ w.cell? ⟨g, 6, none⟩ = some v6 ∧ w.cell? ⟨g, 7, none⟩ = some v7 ∧ w.cell? ⟨g, 8, none⟩ = some v8 ∧ w.cell? ⟨g, 9, none⟩ = some v9 ∧ w.cell? ⟨g, 10, none⟩ = some v10 ∧ w.cell? ⟨g, 11, none⟩ = some v11 := ⟨(blk_cell h 0).trans rfl, (blk_cell h 1).trans rfl, (blk_cell h 2).trans rfl, (blk_cell h 3).trans rfl, (blk_cell h 4).trans rfl, (blk_cell h 5).trans rfl, (blk_cell h 6).trans rfl, (blk_cell h 7).trans rfl, (blk_cell h 8).trans rfl, (blk_cell h 9).trans rfl, (blk_cell h 10).trans rfl, (blk_cell h 11).trans rfl⟩
theorem one12 (a b : Int) (c : Bool) (d e f g h i j k l : Int) : (#[.int .i64 a, .int .i64 b, .bool c, .int .i64 d, .int .i64 e, .int .i64 f, .int .i64 g, .int .i64 h, .int .i64 i, .int .i64 j, .int .i64 k, .int .i64 l] : Array Value).all (·.oneCell') = true := by
 simp [Value.oneCell']
def BO12 (gb : Nat) (o : S34) (w : World) : Prop := w.heap[gb]? = some (.cells #[.int .i64 o.f0, .int .i64 o.f1, .bool o.f2.f0, .int .i64 o.f2.f1, .int .i64 o.f2.f2, .int .i64 o.f2.f3, .int .i64 o.f2.f4, .int .i64 o.f2.f5, .int .i64 o.f3.f0, .int .i64 o.f3.f1, .int .i64 o.f3.f2, .int .i64 o.f4] 34 (0, 0))
def EL34 (p : Addr) (o : S34) (w : World) : Prop := w.cell? p = some (.int .i64 o.f0) ∧ w.cell? ⟨p.block, p.off + 1, none⟩ = some (.int .i64 o.f1) ∧ w.cell? ⟨p.block, p.off + 2, none⟩ = some (.bool o.f2.f0) ∧ w.cell? ⟨p.block, p.off + 3, none⟩ = some (.int .i64 o.f2.f1) ∧ w.cell? ⟨p.block, p.off + 4, none⟩ = some (.int .i64 o.f2.f2) ∧ w.cell? ⟨p.block, p.off + 5, none⟩ = some (.int .i64 o.f2.f3) ∧ w.cell? ⟨p.block, p.off + 6, none⟩ = some (.int .i64 o.f2.f4) ∧ w.cell? ⟨p.block, p.off + 7, none⟩ = some (.int .i64 o.f2.f5) ∧ w.cell? ⟨p.block, p.off + 8, none⟩ = some (.int .i64 o.f3.f0) ∧ w.cell? ⟨p.block, p.off + 9, none⟩ = some (.int .i64 o.f3.f1) ∧ w.cell? ⟨p.block, p.off + 10, none⟩ = some (.int .i64 o.f3.f2) ∧ w.cell? ⟨p.block, p.off + 11, none⟩ = some (.int .i64 o.f4)
theorem EL34.below {p : Addr} {o : S34} {w w' : World} (h : EL34 p o w) (hb : Below w.heap.size w w') : EL34 p o w' := by
 exact ⟨cell_below' hb h.1, cell_below' hb h.2.1, cell_below' hb h.2.2.1, cell_below' hb h.2.2.2.1, cell_below' hb h.2.2.2.2.1, cell_below' hb h.2.2.2.2.2.1, cell_below' hb h.2.2.2.2.2.2.1, cell_below' hb h.2.2.2.2.2.2.2.1, cell_below' hb h.2.2.2.2.2.2.2.2.1, cell_below' hb h.2.2.2.2.2.2.2.2.2.1, cell_below' hb h.2.2.2.2.2.2.2.2.2.2.1, cell_below' hb h.2.2.2.2.2.2.2.2.2.2.2⟩
theorem cont_nW {W : List S34} {n : Nat} (hn : n = W.length) (k : Nat) (A0 : Option Addr) (c0 : Nat) (w : World) (hr0 : Kd.C k34 w A0 W.length W) (hc0 : W.length ≤ c0) (h : api_Object_50.f k W = some false) :
  Calls Try.prog 50 #[.slice A0 n c0, .func (Fn.func 51) #[] #[]] w fun e w' => e = .returned (.bool false) ∧ Below w.heap.size w w' := by
 subst hn
 exact api_Object_50.calls k A0 c0 W false w hr0 hc0 h
theorem Ev.all {α β : Type} {g : α → Nat → Option β} {r : α → β} : ∀ (l : List α), (∀ x ∈ l, Ev (g x) (r x)) → ∃ K0, ∀ K, K0 ≤ K → ∀ x ∈ l, g x K = some (r x) := by
 intro l
 induction l with
 | nil => intro _; exact ⟨0, fun K _ x hx => by cases hx⟩
 | cons a l ih =>
  intro h
  obtain ⟨K1, h1⟩ := h a List.mem_cons_self
  obtain ⟨K2, h2⟩ := ih (fun x hx => h x (List.mem_cons_of_mem _ hx))
  refine ⟨max K1 K2, fun K hK x hx => ?_⟩
  rcases List.mem_cons.1 hx with rfl | hx
  ·exact h1 K (by omega)
  ·exact h2 K (by omega) x hx
structure PkS (w wr : World) (gx : Nat) (num : Int) (vc : Value) (cur : List S34) (v8 : Value) (out : List S48) : Prop where
 bl : Below w.heap.size w wr
 box : wr.heap[gx]? = some (.cells #[.int .i64 num, vc] 48 (0, 0))
 gn : w.heap.size ≤ gx
 rc : k34.R 34 wr w.heap.size (fun k => k ≠ gx ∧ some k ≠ v8.ownBlock) vc cur
 ro : k48.R 48 wr w.heap.size (fun k => k ≠ gx ∧ some k ≠ vc.ownBlock) v8 out
section
variable {w wr w' w2 : World} {gx : Nat} {num : Int} {vc v8 v2 v3 : Value} {cur cur2 : List S34} {out out2 : List S48}
theorem PkS.below (h : PkS w wr gx num vc cur v8 out) (hb : Below wr.heap.size wr w') : PkS w w' gx num vc cur v8 out := ⟨below_step h.bl hb, blk_below h.box hb, h.gn, Kd.R_below h.rc hb, Kd.R_below h.ro hb⟩
theorem PkS.drew (h : PkS w wr gx num vc cur v8 out) : PkS w wr.drew gx num vc cur v8 out := h.below (below_drew (Below.refl _ _))
theorem PkS.freshC (h : PkS w wr gx num vc cur v8 out) : ∀ k, wr.heap.size ≤ k → k ≠ gx ∧ some k ≠ v8.ownBlock := fun k hk => ⟨fun e => by have := blk_lt h.box; omega, fun e => by have := Kd.R_lt h.ro k e.symm; omega⟩
theorem PkS.start {w0 w1 : World} (b0 : Below w.heap.size w w0) (hb : Below w0.heap.size w0 w1) (hbox : w1.heap[gx]? = some (.cells #[.int .i64 0, .slice none 0 0] 48 (0, 0))) (hg : gx = w0.heap.size) (num : Int) :
  PkS w ((w1.setCell ⟨gx, 0, none⟩ (.int .i64 num)).setCell ⟨gx, 1, none⟩ (.slice none 0 0)) gx num (.slice none 0 0) [] (.slice none 0 0) [] := by
 have gn : w.heap.size ≤ gx := by rw [hg]; exact b0.size
 exact ⟨((below_step b0 hb).setCell gn _).setCell gn _, blk_put (blk_put hbox 0 (.int .i64 num) (cs' := #[.int .i64 num, .slice none 0 0]) rfl) 1 (.slice none 0 0) (cs' := #[.int .i64 num, .slice none 0 0]) rfl, gn, Kd.R_nil _ _ _ _ _, Kd.R_nil _ _ _ _ _⟩
theorem PkS.fitC (h : PkS w wr gx num vc cur v8 out) (hr : k34.R 34 w' w.heap.size (fun k => k ≠ gx ∧ some k ≠ v8.ownBlock) v2 cur2) (hg : wr.grownBy w' vc.ownBlock) (hat : v2.ownBlock = vc.ownBlock ∨ ∃ b, v2.ownBlock = some b ∧ wr.heap.size ≤ b) :
  PkS w (w'.setCell ⟨gx, 1, none⟩ v2) gx num v2 cur2 v8 out := by
 have hx := (hg.block gx (blk_lt h.box) (fun e => (h.rc.1 gx e.symm).1 rfl)).trans h.box
 refine ⟨(pw_below_grown h.bl _ (below_size h.bl) hg (fun k hk => Kd.R_base h.rc k hk)).setCell h.gn _, blk_put hx 1 v2 rfl, h.gn, Kd.R_far (p := ⟨gx, 1, none⟩) hr (fun k hk e => hk.1 e) v2, ?_⟩
 refine Kd.R_mono (Kd.R_far (p := ⟨gx, 1, none⟩) (Kd.R_grown (Kd.R_mono (Kd.R_bound h.ro) (ok' := fun k => (k ≠ gx ∧ some k ≠ vc.ownBlock) ∧ k < wr.heap.size) (fun k hk => ⟨hk.1, hk.2.2.1⟩)) hg (fun k hk => hk.1.2)) (fun k hk e => hk.1.1 e) v2) (fun k hk => ⟨hk.1.1, fun e => ?_⟩)
 rcases hat with e2 | ⟨b, e2, hb⟩
 ·exact hk.1.2 (e.trans e2)
 ·have := Option.some.inj (e.trans e2)
  have := hk.2
  omega
theorem PkS.newB {n2 : Int} (bw : Below w.heap.size w w') (hx : w'.heap[gx]? = some (.cells #[.int .i64 num, vc] 48 (0, 0))) (hgn : w.heap.size ≤ gx) (ho : k48.R 48 w' w.heap.size (fun k => k ≠ gx) v2 out2) (hb : Below w'.heap.size w' w2) {gl : Nat} (hgl : w'.heap.size ≤ gl) (hr : k34.R 34 w2 w'.heap.size (fun k => k = gl) (.slice (some ⟨gl, 0, none⟩) 1 1) cur2) :
  PkS w ((w2.setCell ⟨gx, 0, none⟩ (.int .i64 n2)).setCell ⟨gx, 1, none⟩ (.slice (some ⟨gl, 0, none⟩) 1 1)) gx n2 (.slice (some ⟨gl, 0, none⟩) 1 1) cur2 v2 out2 := by
 have hl := blk_lt hx
 refine ⟨((below_step bw hb).setCell hgn _).setCell hgn _, blk_put (blk_put (blk_below hx hb) 0 (.int .i64 n2) (cs' := #[.int .i64 n2, vc]) rfl) 1 _ rfl, hgn, ?_, ?_⟩
 ·refine Kd.R_far (p := ⟨gx, 1, none⟩) (Kd.R_far (p := ⟨gx, 0, none⟩) (Kd.R_mono (Kd.R_lower hr (below_size bw)) (fun k hk => ?_)) (fun k hk e => hk.1 e) _) (fun k hk e => hk.1 e) _
  subst hk
  exact ⟨by omega, fun e => by have := Kd.R_lt ho k e.symm; omega⟩
 ·refine Kd.R_far (p := ⟨gx, 1, none⟩) (Kd.R_far (p := ⟨gx, 0, none⟩) (Kd.R_mono (Kd.R_below (Kd.R_bound ho) hb) (fun k hk => ⟨hk.1, fun e => ?_⟩)) (fun k hk e => hk.1 e) _) (fun k hk e => hk.1 e) _
  have e2 : k = gl := Option.some.inj e
  have := hk.2.2.1
  omega
end
theorem oneO_R {w : World} {g b : Nat} {y : S34} (h : w.heap[g]? = some (.cells #[.int .i64 y.f0, .int .i64 y.f1, .bool y.f2.f0, .int .i64 y.f2.f1, .int .i64 y.f2.f2, .int .i64 y.f2.f3, .int .i64 y.f2.f4, .int .i64 y.f2.f5, .int .i64 y.f3.f0, .int .i64 y.f3.f1, .int .i64 y.f3.f2, .int .i64 y.f4] 34 (0, 0))) (hb : b ≤ g) : k34.R 34 w b (fun k => k = g) (.slice (some ⟨g, 0, none⟩) 1 1) [y] :=
 ⟨fun k hk => (Option.some.inj hk).symm, [.int .i64 y.f0, .int .i64 y.f1, .bool y.f2.f0, .int .i64 y.f2.f1, .int .i64 y.f2.f2, .int .i64 y.f2.f3, .int .i64 y.f2.f4, .int .i64 y.f2.f5, .int .i64 y.f3.f0, .int .i64 y.f3.f1, .int .i64 y.f3.f2, .int .i64 y.f4], ⟨by first | rfl | (simp; rfl), .inr ⟨g, 1, #[.int .i64 y.f0, .int .i64 y.f1, .bool y.f2.f0, .int .i64 y.f2.f1, .int .i64 y.f2.f2, .int .i64 y.f2.f3, .int .i64 y.f2.f4, .int .i64 y.f2.f5, .int .i64 y.f3.f0, .int .i64 y.f3.f1, .int .i64 y.f3.f2, .int .i64 y.f4], rfl, hb, h, Nat.le_refl _, by decide, by first | rfl | (simp; rfl), by first | rfl | (simp; rfl)⟩⟩, Reps.front (k34_mkM _ _ _ y) rfl (Reps.none _ _) rfl⟩
theorem drop34 (X : List S34) (i : Int) (h0 : 0 ≤ i) (h1 : i < X.length) : X.drop i.toNat = rd_T34 X i :: X.drop (i + 1).toNat ∧ rd_T34 X i ∈ X := by
 have hi : i.toNat < X.length := by omega
 have e : rd_T34 X i = X[i.toNat] := by
  unfold rd_T34
  rw [List.getD_eq_getElem?_getD, List.getElem?_eq_getElem hi]
  rfl
 rw [e, show (i + 1).toNat = i.toNat + 1 by omega]
 exact ⟨List.drop_eq_getElem_cons hi, List.getElem_mem hi⟩
def pkk.T13 : Bool × List (List Nat × List Nat) := (true, [([], []), ([0], [0]), ([], []), ([], []), ([2, 3], [2, 3]), ([4], [4]), ([5], [5]), ([1, 6], [1, 6]), ([0, 1, 2, 3, 4, 5, 6, 7], []), ([8, 7, 7, 0, 1, 2, 3, 4, 5, 6, 7], [7, 8])])
def pkk.B13 : List Nat := [0, 1, 0, 0, 12, 28, 60, 127, 255, 511]
theorem pkk.tab13 : rtab .any (opsOf Try.f27 13) = pkk.T13 := by kernel_rfl
theorem pkk.bits13 : waitsOk pkk.T13.2 pkk.B13 = true := by kernel_rfl
def pkk.T16 : Bool × List (List Nat × List Nat) := (true, [([], []), ([0], [0]), ([1], [1]), ([], []), ([3], [3]), ([2, 4], [2, 4]), ([5, 2, 0, 1, 2, 3, 4, 5], [5])])
def pkk.B16 : List Nat := [0, 1, 3, 0, 8, 31, 63]
theorem pkk.tab16 : rtab .any (opsOf Try.f27 16) = pkk.T16 := by kernel_rfl
theorem pkk.bits16 : waitsOk pkk.T16.2 pkk.B16 = true := by kernel_rfl
theorem bpack_a {W : List S34} {nW : Nat} (hn : nW = W.length) (hr : Rights W) (hl : W.length ≤ 1024) (A0 : Option Addr) (c0 : Nat) (a1 : Int) (h1 : -9223372036854775808 ≤ a1 ∧ a1 ≤ 9223372036854775807) (w : World) (hC : Kd.C k34 w A0 W.length W) (hc : W.length ≤ c0) :
  Calls Try.prog 27 #[.slice A0 nW c0, .int .i64 a1, .int .i64 512] w fun e w' => ∃ v, e = .returned (.tuple #[v, .int .i64 0]) ∧ k48.R 48 w' w.heap.size (fun _ => True) v (packGo 512 W (a1 % 65536) []) ∧ Below w.heap.size w w' := by
 obtain ⟨K2, hK2⟩ := contains_ev W (by omega)
 rw [decide_eq_false (fun g : ¬ Rights W => g hr)] at hK2
 obtain ⟨K1, hK1⟩ := Ev.all (g := fun (o : S34) k => object_Size.f k o.f0 o.f1 o.f2.f0 o.f2.f1 o.f2.f2 o.f2.f3 o.f2.f4 o.f2.f5 o.f3.f0 o.f3.f1 o.f3.f2 o.f4) (r := fun o => sz o) W (fun o _ => size_ev o)
 have HN := Aside0.mk hn
 have HL := Aside0.mk hl
 have HC := Aside0.mk hC
 have HLC := Aside0.mk hc
 have HCF := Aside0.mk (hK2 K2 (Nat.le_refl _))
 have HSA := Aside0.mk (hK1 K1 (Nat.le_refl _))
 have H1 := Aside0.mk h1
 have HNI := Aside0.mk (show (nW : Int) = W.length by rw [hn])
 have hgt : decide ((nW : Int) > 1024) = false := decide_eq_false (by rw [hn]; omega)
 clear hn hr hl hC hc hK2 hK1 h1
 go_enter Try.func27, Try.ntmps27
 go_wp2_with (first
  | go_step3
  | (go_at_call 50; (with_reducible refine (cont_nW HN.out K2 A0 c0 w HC.out HLC.out HCF.out).mono ?_); rintro x_ w0 ⟨rfl, hb⟩; have B0 := Aside0.mk hb; clear hb)
  | ((with_reducible refine gate_dst (N := 9) rfl ?_); refine box_event ?hg (N := 9) ?hd (cs := #[.int .i64 0, .slice none 0 0]) (t := 48) ?hr ?_; (case hd => rfl); (case hg => rfl); (case hr => first | (go_simp; done) | (go_simp; rfl) | rfl | kernel_rfl); intro gx hg w1 hbox hb; have S1 := Aside0.mk (PkS.start B0.out hb hbox hg (Go.bits .and .i64 a1 65535)); have a0 := (blk_cell hbox 0).trans rfl; have a1' := (blk_cell hbox 1).trans rfl; have af0 := blk_frozen hbox 0; have af1 := blk_frozen hbox 1; clear hb hbox hg))
 clear a0 a1' af0 af1 hgt
 go_loopg [8, 10, 36] nW (fun kq v8' v10 v36 wr => ∃ (i : Int) (v8 : Value) (num : Int) (vc : Value) (cur : List S34) (out : List S48), v36 = .int .i64 i ∧ v8 = v8' ∧ v10 = .int .i64 (509 - sums cur) ∧ Aside0 (0 ≤ i) ∧ Aside0 (i + kq = nW) ∧ Aside0 (PkS w wr gx num vc cur v8 out) ∧ Aside0 (out ++ packGo 512 (W.drop i.toNat) num cur = packGo 512 W (a1 % 65536) []) ∧ Aside0 (cur.length ≤ 32) ∧ Aside0 ((out.length : Int) ≤ i) ∧ Aside0 (0 ≤ num ∧ num ≤ 65535))
 case atStart => exact ⟨0, _, _, _, [], [], rfl, rfl, by first | rfl | (rw [sums_nil]; rfl), ⟨by omega⟩, ⟨by omega⟩, S1, ⟨by rw [and16 a1 H1.out]; rfl⟩, ⟨by decide⟩, ⟨by simp⟩, ⟨by rw [and16 a1 H1.out]; omega⟩⟩
 case round =>
  clear S1
  obtain ⟨i, v8, num, vc, cur, out, rfl, rfl, rfl, H0, HI, SS, HP, HCL, HOL0, HNU⟩ := hrel
  obtain ⟨Ac, cc, rfl⟩ := Kd.R_slice SS.out.rc
  obtain ⟨mc, hmc⟩ : ∃ mc, mc = cur.length := ⟨_, rfl⟩
  rw [← hmc] at SS
  have HMC := Aside0.mk hmc
  have HOL := Aside0.mk (show out.length ≤ 2000 by have := HOL0.out; have := HI.out; have := HNI.out; have := HL.out; omega)
  have g1 : wr.cell? ⟨gx, 1, none⟩ = some (.slice Ac mc cc) := (blk_cell SS.out.box 1).trans rfl
  have g0 : wr.cell? ⟨gx, 0, none⟩ = some (.int .i64 num) := (blk_cell SS.out.box 0).trans rfl
  clear hmc
  cases gk with
  | zero =>
   have hni : decide (i < (nW : Int)) = false := decide_eq_false (by have := HI.out; omega)
   have hdr : W.drop i.toNat = [] := List.drop_eq_nil_of_le (by have := HI.out; have := HNI.out; have := H0.out; omega)
   have HPZ := Aside0.mk (show out ++ packGo 512 [] num cur = packGo 512 W (a1 % 65536) [] by have e := HP.out; rw [hdr] at e; exact e)
   clear hdr
   by_cases hmz : mc = 0
   ·have HCZ := Aside0.mk (show cur = [] from List.eq_nil_of_length_eq_zero (by have := HMC.out; omega))
    have z1 : decide ((mc : Int) > 0) = false := decide_eq_false (by omega)
    have z2 : decide (0 < mc) = false := decide_eq_false (by omega)
    have z3 : decide ((0 : Int) < (mc : Int)) = false := z1
    go_wp2_with (go_step3)
    (try simp only [Exit.noGoto])
    (try simp only [Exit.noGoto_ret])
    go_ret2
    refine ⟨_, rfl, ?_, SS.out.bl⟩
    have e := HPZ.out
    rw [HCZ.out, pack_nil0, List.append_nil] at e
    rw [← e]
    exact Kd.R_mono SS.out.ro (fun _ _ => trivial)
   ·have HCZ := Aside0.mk (show cur ≠ [] from fun e => by have h2 := HMC.out; rw [e] at h2; exact hmz h2)
    have z1 : decide ((mc : Int) > 0) = true := decide_eq_true (by omega)
    have z2 : decide (0 < mc) = true := decide_eq_true (by omega)
    have z3 : decide ((0 : Int) < (mc : Int)) = true := z1
    go_wp2_with (first
     | go_step3
     | ((with_reducible refine gate_dst (N := 85) rfl ?_); refine lit1_event ?hg (N := 85) ?hd (cs := #[.int .i64 num, .slice Ac mc cc]) (t := 48) (n := 1) ?hr ?_; (case hd => rfl); (case hg => rfl); (case hr => first | (go_simp; done) | (go_simp; rfl)); intro gl hg w5 hbox hb; have S5 := Aside0.mk (SS.out.below hb); have BL := Aside0.mk hbox; clear hb hbox hg)
     | ((with_reducible refine gate_builtin (b := .append) (xs := #[.tmp 83, .tmp 85]) rfl ?_); at_builtin; refine Kd.R_append_rows k48 (w0 := w) w.heap.size rfl (.tmp 83) (.tmp 85) 28 48 (.agg #[(.int .i64 0), (.slice none 0 0)]) 32 rfl Try.underlying28 info48 rfl (by decide) (by omega) v8 out [⟨num, cur⟩] _ _ _ (fun k => k ≠ gx) (fun k => k ≠ gx ∧ some k ≠ v8.ownBlock) rfl rfl ?aO ?aR (fun _ _ h => h) (fun k hk => hk) ?aF ?aB ?aS ?aL ?_; (case aR => exact oneB_M (x := ⟨num, cur⟩) BL.out S5.out.rc); (case aB => exact S5.out.bl); (case aF => exact (fun k hk e => by have := blk_lt S5.out.box; omega)); (case aO => exact Kd.R_mono S5.out.ro (fun k hk => hk.1)); (case aS => exact below_size S5.out.bl); (case aL => have := HOL.out; omega); intro v2 w6 ho hb hg hat; have BW6 := Aside0.mk hb; have HO6 := Aside0.mk ho; clear ho hb hg hat))
    (try simp only [Exit.noGoto])
    (try simp only [Exit.noGoto_ret])
    go_ret2
    refine ⟨_, rfl, ?_, BW6.out⟩
    have e := HPZ.out
    rw [pack_nil _ _ _ HCZ.out] at e
    rw [← e]
    exact Kd.R_mono HO6.out (fun _ _ => trivial)
  | succ k1 =>
   have hlt := (show i < (nW : Int) by have := HI.out; omega)
   have h0 := H0.out
   have hd : decide (i < (nW : Int)) = true := decide_eq_true hlt
   have hw : wrap64 (i + 1) = i + 1 := w64 (by omega) (by have := HL.out; have := HNI.out; omega)
   obtain ⟨ad, e_, e0, e1, e2, e3, e4, e5, e6, e7, e8, e9, e10, e11⟩ := at_T34 HC.out i h0 (by have := HNI.out; omega)
   cases e_
   have HDR := Aside0.mk (drop34 W i h0 (by have := HNI.out; omega))
   obtain ⟨y, hy⟩ : ∃ y, y = rd_T34 W i := ⟨_, rfl⟩
   rw [← hy] at e0 e1 e2 e3 e4 e5 e6 e7 e8 e9 e10 e11 HDR
   have HEL := Aside0.mk (show EL34 (ad.add (i.toNat * 12)) y w from ⟨e0, e1, e2, e3, e4, e5, e6, e7, e8, e9, e10, e11⟩)
   have HSZ := Aside0.mk (HSA.out y HDR.out.2)
   have HSR := Aside0.mk (sz_range y)
   have HUR := Aside0.mk (sums_range cur)
   obtain ⟨e0, e1, e2, e3, e4, e5, e6, e7, e8, e9, e10, e11⟩ := HEL.out.below SS.out.bl
   have h0t := eq_true h0
   have hltt := eq_true hlt
   have HPD := Aside0.mk (show out ++ packGo 512 (y :: W.drop (i + 1).toNat) num cur = packGo 512 W (a1 % 65536) [] by rw [← HDR.out.1]; exact HP.out)
   have his : (i + 1).toNat = i.toNat + 1 := by omega
   clear hy
   go_upto_region 12 with (first
    | go_step3
    | ((with_reducible refine gate_dst (N := 12) rfl ?_); refine box_event ?hg (N := 12) ?hd (cs := #[.int .i64 0, .int .i64 0, .bool false, .int .i64 0, .int .i64 0, .int .i64 0, .int .i64 0, .int .i64 0, .int .i64 0, .int .i64 0, .int .i64 0, .int .i64 0]) (t := 34) ?hr ?_; (case hd => rfl); (case hg => rfl); (case hr => first | (go_simp; done) | (go_simp; rfl) | rfl | kernel_rfl); intro gb hg w3 hbox hb; have BA := Aside0.mk hbox; have HBA := Aside0.mk hb; have HGB := Aside0.mk hg; clear hb hbox hg e0 e1 e2 e3 e4 e5 e6 e7 e8 e9 e10 e11)
    | ((with_reducible refine wpList_store_row rfl 34 (.tmp 12) (.tmp 40) rfl gb #[.int .i64 y.f0, .int .i64 y.f1, .bool y.f2.f0, .int .i64 y.f2.f1, .int .i64 y.f2.f2, .int .i64 y.f2.f3, .int .i64 y.f2.f4, .int .i64 y.f2.f5, .int .i64 y.f3.f0, .int .i64 y.f3.f1, .int .i64 y.f3.f2, .int .i64 y.f4] ?sx ?sy 34 #[.int .i64 0, .int .i64 0, .bool false, .int .i64 0, .int .i64 0, .int .i64 0, .int .i64 0, .int .i64 0, .int .i64 0, .int .i64 0, .int .i64 0, .int .i64 0] BA.out ?si rfl ?s1 ?_); (case sx => rfl); (case sy => rfl); (case si => kernel_rfl); (case s1 => exact one12 _ _ _ _ _ _ _ _ _ _ _ _); have BB3 := Aside0.mk (setRow_heap w3 gb _ #[.int .i64 y.f0, .int .i64 y.f1, .bool y.f2.f0, .int .i64 y.f2.f1, .int .i64 y.f2.f2, .int .i64 y.f2.f3, .int .i64 y.f2.f4, .int .i64 y.f2.f5, .int .i64 y.f3.f0, .int .i64 y.f3.f1, .int .i64 y.f3.f2, .int .i64 y.f4] _ _ BA.out); have HB3 := Aside0.mk (below_setRow HBA.out (Nat.le_of_eq HGB.out.symm) #[.int .i64 y.f0, .int .i64 y.f1, .bool y.f2.f0, .int .i64 y.f2.f1, .int .i64 y.f2.f2, .int .i64 y.f2.f3, .int .i64 y.f2.f4, .int .i64 y.f2.f5, .int .i64 y.f3.f0, .int .i64 y.f3.f1, .int .i64 y.f3.f2, .int .i64 y.f4]); generalize w3.setRow gb #[.int .i64 y.f0, .int .i64 y.f1, .bool y.f2.f0, .int .i64 y.f2.f1, .int .i64 y.f2.f2, .int .i64 y.f2.f3, .int .i64 y.f2.f4, .int .i64 y.f2.f5, .int .i64 y.f3.f0, .int .i64 y.f3.f1, .int .i64 y.f3.f2, .int .i64 y.f4] = wq at BB3 HB3 ⊢; have S3 := Aside0.mk (SS.out.below HB3.out); obtain ⟨d0, d1, d2, d3, d4, d5, d6, d7, d8, d9, d10, d11⟩ := cells12 BB3.out; clear BA HBA HGB)
    | (go_at_call 52; (with_reducible refine (object_Size.calls K1 _ _ _ _ _ _ _ _ _ _ _ _ (sz y) wq HSZ.out).mono ?_); rintro x_ w4 ⟨rfl, hb⟩; have S4 := Aside0.mk (S3.out.below hb); have BB4 := Aside0.mk (blk_below BB3.out hb); have g4 : w4.cell? ⟨gx, 1, none⟩ = some (.slice Ac mc cc) := (blk_cell S4.out.box 1).trans rfl; clear hb d0 d1 d2 d3 d4 d5 d6 d7 d8 d9 d10 d11))
   by_cases hf : fit 512 cur y
   ·have q1 : decide (sz y ≤ 509 - sums cur) = true := decide_eq_true (by have := hf.1; omega)
    have q2 : decide ((mc : Int) < 32) = true := decide_eq_true (by have := hf.2; have := HMC.out; omega)
    have q3 : decide (mc < 32) = true := decide_eq_true (by have := hf.2; have := HMC.out; omega)
    have HFI := Aside0.mk hf
    have hws : wrap64 (509 - sums cur - sz y) = 509 - sums cur - sz y := w64 (by have := HSR.out; have := HUR.out; have := HCL.out; omega) (by have := HSR.out; have := HUR.out; omega)
    clear hf
    go_upto_region 13 with (go_step3)
    refine start_ (n := 10) (S := fun w' => w'.cell? ⟨gx, 1, none⟩ = some (.slice Ac mc cc) ∧ EL34 (ad.add (i.toNat * 12)) y w') (ds := [7, 9]) #[false, false, false, false, false, false, false, false, false, false] (by kernel_rfl) rfl rfl ⟨g4, (HEL.out.below S4.out.drew.bl)⟩ (fun hHeld => ?_); refine with_tabW pkk.tab13 pkk.bits13 (fun HT_ HW_ => ?_)
    refine pureA (i := 0) (N := some 52) HT_ ?_
    refine pureA (i := 2) (N := some 54) HT_ ?_
    refine pureA (i := 3) (N := some 55) HT_ ?_
    refine pureA (i := 4) (N := some 56) HT_ ?_
    refine takeA (i := 1) (N := some 53) HT_ HW_ hHeld ?_
    refine takeA (i := 5) (N := some 57) HT_ HW_ hHeld ?_
    refine oneA (i := 6) (N := some 58) HT_ (fun K hK => ?_)
    refine lit1_step ?hg (N := 58) ?hd (cs := #[.int .i64 y.f0, .int .i64 y.f1, .bool y.f2.f0, .int .i64 y.f2.f1, .int .i64 y.f2.f2, .int .i64 y.f2.f3, .int .i64 y.f2.f4, .int .i64 y.f2.f5, .int .i64 y.f3.f0, .int .i64 y.f3.f1, .int .i64 y.f3.f2, .int .i64 y.f4]) (t := 34) (n := 1) ?hr ?_
    (case hd => rfl)
    (case hg => rfl)
    (case hr => first | (go_simp; done) | (go_simp; rfl))
    intro gl hgl w5 hbox hb
    have S5 := Aside0.mk (S4.out.drew.below hb)
    have BG := Aside0.mk hbox
    refine hK.out _ _ ⟨(hb.cell (World.block_lt_of_cell? _ _ hHeld.1)).trans hHeld.1, (HEL.out.below S5.out.bl)⟩ (fun hHeld => ?_)
    clear hK K
    refine normA (N := 58) ?_
    refine last_ (i := 7) (N := some 59) #[true, true, true, true, true, true, true, true, false, false] rfl rfl (one_of HT_.out (by kernel_rfl)) (by decide) (fun K hK => ?_)
    refine Kd.R_append_rows_step k34 (w0 := w5) w.heap.size ?hw (.tmp 53) (.tmp 58) 46 34 (.agg #[(.int .i64 0), (.int .i64 0), (.bool false), (.int .i64 0), (.int .i64 0), (.int .i64 0), (.int .i64 0), (.int .i64 0), (.int .i64 0), (.int .i64 0), (.int .i64 0), (.int .i64 0)]) 96 rfl Try.underlying46 info34 rfl (by decide) (by omega) (.slice Ac mc cc) cur [y] _ _ _ (fun k => k ≠ gx ∧ some k ≠ v8.ownBlock) (fun _ => False) rfl rfl ?aO ?aR (fun _ _ h => h) (fun _ h => h.elim) ?aF ?aB ?aS ?aL ?_
    (case hw => rfl)
    (case aR => exact oneO_C (x := y) BG.out)
    (case aB => exact Below.refl _ _)
    (case aF => exact S5.out.freshC)
    (case aO => exact S5.out.rc)
    (case aS => exact below_size S5.out.bl)
    (case aL => have := HCL.out; omega)
    intro v2 w6 ho hb6 hg6 hat
    have HG := Aside0.mk ((hg6.block gx (blk_lt S5.out.box) (fun e => (S5.out.rc.1 gx e.symm).1 rfl)).trans S5.out.box)
    have d3 : w6.cell? ⟨gx, 1, none⟩ = some (.slice Ac mc cc) := (blk_cell HG.out 1).trans rfl
    have df : w6.frozen? ⟨gx, 1, none⟩ = false := blk_frozen HG.out 1
    obtain ⟨A8, m8, c8, rfl⟩ := RO_some ho
    have S7 := Aside0.mk (S5.out.fitC ho hg6 hat)
    clear ho hb6 hg6 hat
    refine hK.out _ _ ?_
    clear hK K
    refine normA (N := 59) ?_
    refine pureA (i := 8) (N := some 60) HT_ ?_
    refine last_ (i := 9) (N := none) #[true, true, true, true, true, true, true, true, true, true] rfl rfl (one_of HT_.out (by kernel_rfl)) (by decide) (fun K hK => ?_)
    refine skip_ (w1 := ?_) (by rfl) rfl ?_ ?_
    rotate_left
    ·go_simp
     rfl
    refine hK.out _ _ ?_
    clear hK K
    refine done_ (done_of HT_.out (by kernel_rfl)) ?_
    go_wp2_with (go_step3)
    go_roundg k1
    case measure => have := HI.out; omega
    case rel =>
     refine ⟨i + 1, _, num, _, cur ++ [y], out, by first | rfl | simp [hw], rfl, ?_, ⟨by have := H0.out; omega⟩, ⟨by have := HI.out; omega⟩, S7, ⟨?_⟩, ⟨by rw [List.length_append]; have := HFI.out.2; simp; omega⟩, ⟨by have := HOL0.out; omega⟩, HNU⟩
     ·rw [sums_append, sums_cons, sums_nil]
      congr 1
      first | (rw [hws]; omega) | omega
     ·rw [← HPD.out, pack_fit HFI.out]
   ·have HFI := Aside0.mk hf
    have HCU := Aside0.mk (show cur ≠ [] from fun e => hf (by rw [e]; exact fit_nil (by omega) y))
    go_cut [51] (fun v51 wc => v51 = .bool false ∧ Aside0 (w4 = wc))
    case first =>
     by_cases c1 : sz y ≤ 509 - sums cur
     ·have q1 : decide (sz y ≤ 509 - sums cur) = true := decide_eq_true c1
      have q2 : decide ((mc : Int) < 32) = false := decide_eq_false (fun h => hf ⟨by omega, by have := HMC.out; omega⟩)
      have q3 : decide (mc < 32) = false := decide_eq_false (fun h => hf ⟨by omega, by have := HMC.out; omega⟩)
      go_wp2
      go_meet
      case rel => exact ⟨rfl, ⟨rfl⟩⟩
     ·have q1 : decide (sz y ≤ 509 - sums cur) = false := decide_eq_false c1
      go_wp2
      go_meet
      case rel => exact ⟨rfl, ⟨rfl⟩⟩
    case rest =>
     obtain ⟨rfl, HWW⟩ := hcut
     have hww := HWW.out
     subst hww
     clear hf HWW
     have g40 : w4.cell? ⟨gx, 0, none⟩ = some (.int .i64 num) := (blk_cell S4.out.box 0).trans rfl
     have HNXE := Aside0.mk (next_eq num (by have := HNU.out; omega))
     have hws : wrap64 (509 - sz y) = 509 - sz y := w64 (by have := HSR.out; omega) (by have := HSR.out; omega)
     go_upto_region 16 with (first
      | go_step3
      | ((with_reducible refine gate_dst (N := 66) rfl ?_); refine lit1_event ?hg (N := 66) ?hd (cs := #[.int .i64 num, .slice Ac mc cc]) (t := 48) (n := 1) ?hr ?_; (case hd => rfl); (case hg => rfl); (case hr => first | (go_simp; done) | (go_simp; rfl)); intro gl hg w5 hbox hb; have S5 := Aside0.mk (S4.out.below hb); have BL := Aside0.mk hbox; have BB5 := Aside0.mk (blk_below BB4.out hb); clear hb hbox hg)
      | ((with_reducible refine gate_builtin (b := .append) (xs := #[.tmp 64, .tmp 66]) rfl ?_); at_builtin; refine Kd.R_append_rows k48 (w0 := w) w.heap.size rfl (.tmp 64) (.tmp 66) 28 48 (.agg #[(.int .i64 0), (.slice none 0 0)]) 32 rfl Try.underlying28 info48 rfl (by decide) (by omega) v8 out [⟨num, cur⟩] _ _ _ (fun k => k ≠ gx) (fun k => k ≠ gx ∧ some k ≠ v8.ownBlock) rfl rfl ?aO ?aR (fun _ _ h => h) (fun k hk => hk) ?aF ?aB ?aS ?aL ?_; (case aR => exact oneB_M (x := ⟨num, cur⟩) BL.out S5.out.rc); (case aB => exact S5.out.bl); (case aF => exact (fun k hk e => by have := blk_lt S5.out.box; omega)); (case aO => exact Kd.R_mono S5.out.ro (fun k hk => hk.1)); (case aS => exact below_size S5.out.bl); (case aL => have := HOL.out; omega); intro v2 w6 ho hb hg hat; have HG6 := Aside0.mk ((hg.block gx (blk_lt S5.out.box) (fun e => (S5.out.ro.1 gx e.symm).1 rfl)).trans S5.out.box); have BB6 := Aside0.mk (blk_grown BB5.out hg (Kd.R_ne S5.out.ro BB5.out (by decide))); have BW6 := Aside0.mk hb; have HO6 := Aside0.mk ho; obtain ⟨A6, c6, ev6⟩ := Kd.R_slice ho; obtain ⟨m6, em6⟩ : ∃ m6, m6 = (out ++ [(⟨num, cur⟩ : S48)]).length := ⟨_, rfl⟩; rw [← em6] at ev6; subst ev6; have g60 : w6.cell? ⟨gx, 0, none⟩ = some (.int .i64 num) := (blk_cell HG6.out 0).trans rfl; clear ho hb hg hat em6))
     have HBd := Aside0.mk (below_drew (Below.refl w6.heap.size w6))
     refine start_ (n := 7) (S := fun w' => w'.cell? ⟨gx, 0, none⟩ = some (.int .i64 num) ∧ BO12 gb y w') (ds := [6]) #[false, false, false, false, false, false, false] (by kernel_rfl) rfl rfl ⟨g60, (blk_below BB6.out (below_drew (Below.refl _ _)))⟩ (fun hHeld => ?_); refine with_tabW pkk.tab16 pkk.bits16 (fun HT_ HW_ => ?_)
     refine pureA (i := 0) (N := some 68) HT_ ?_
     refine take_ (i := 1) (N := some 69) (v := ?_) (a' := ?_) #[true, true, false, false, false, false, false] rfl rfl (take_ofW HT_.out HW_.out (by kernel_rfl)) (fun _ _ _ h => h) (Or.inl ⟨by rfl, ?_⟩) hHeld ?_ ?_
     rotate_left
     ·rintro w' ⟨s0, s1⟩
      obtain ⟨t0, t1, t2, t3, t4, t5, t6, t7, t8, t9, t10, t11⟩ := cells12 s1
      clear s1
      go_simp
      with_reducible rfl
     rotate_left
     ·simp only [Act.put, List.setIfInBounds_toArray, List.set_cons_zero, List.set_cons_succ, i64_w, i32_w]
      rfl
     refine take_ (i := 3) (N := some 71) (v := ?_) (a' := ?_) #[true, true, false, true, false, false, false] rfl rfl (take_ofW HT_.out HW_.out (by kernel_rfl)) (fun _ _ _ h => h) (Or.inl ⟨by rfl, ?_⟩) hHeld ?_ ?_
     rotate_left
     ·rintro w' ⟨s0, s1⟩
      obtain ⟨t0, t1, t2, t3, t4, t5, t6, t7, t8, t9, t10, t11⟩ := cells12 s1
      clear s1
      go_simp
      with_reducible rfl
     rotate_left
     ·simp only [Act.put, List.setIfInBounds_toArray, List.set_cons_zero, List.set_cons_succ, i64_w, i32_w]
      rfl
     refine join_ (σ := Nat) 2 #[true, true, true, true, true, false, false] (fun s_ => [(70, .int .i64 (nx num)), (72, .slice (some ⟨s_, 0, none⟩) 1 1)]) (fun s_ w' => (w'.cell? ⟨gx, 0, none⟩ = some (.int .i64 num) ∧ BO12 gb y w') ∧ Aside0 (w'.heap[s_]? = some (.cells #[.int .i64 y.f0, .int .i64 y.f1, .bool y.f2.f0, .int .i64 y.f2.f1, .int .i64 y.f2.f2, .int .i64 y.f2.f3, .int .i64 y.f2.f4, .int .i64 y.f2.f5, .int .i64 y.f3.f0, .int .i64 y.f3.f1, .int .i64 y.f3.f2, .int .i64 y.f4] 34 (0, 0))) ∧ Aside0 (Below w6.heap.size w6 w') ∧ Aside0 (w6.heap.size ≤ s_)) ?_ ?_
     rotate_left
     ·intro hCont
      refine two_ (i := 2) (j := 4) (Ni := some 70) (Nj := some 72) #[true, true, true, true, false, false, false] #[true, true, false, true, true, false, false] rfl rfl rfl rfl (two_of HT_.out (by kernel_rfl)) (by decide) (by decide) (fun K hK => ?_) (fun K hK => ?_)
      ·skip
       refine goes_ Try.func25 (by kernel_rfl) rfl #[.int .i64 num] (by rfl) rfl rfl (by simp only [List.map_toArray, List.map_cons, List.map_nil]; rfl) ?_
       with_reducible refine (serial_Next.calls num (nx num) _ HNXE.out).mono ?_
       rintro e w7 ⟨rfl, hd7⟩
       refine ⟨_, rfl, ?_⟩
       have HBn := Aside0.mk (below_step HBd.out hd7.below)
       clear HBd hd7
       have HBd := HBn
       clear HBn
       refine hK.out _ _ ⟨(blk_cell (blk_below HG6.out HBd.out) 0).trans rfl, (blk_below BB6.out HBd.out)⟩ (fun hHeld => ?_)
       clear hK K
       refine normA (N := 70) ?_
       refine oneA (i := 4) (N := some 72) HT_ (fun K hK => ?_)
       refine lit1_step ?hg (N := 72) ?hd (cs := #[.int .i64 y.f0, .int .i64 y.f1, .bool y.f2.f0, .int .i64 y.f2.f1, .int .i64 y.f2.f2, .int .i64 y.f2.f3, .int .i64 y.f2.f4, .int .i64 y.f2.f5, .int .i64 y.f3.f0, .int .i64 y.f3.f1, .int .i64 y.f3.f2, .int .i64 y.f4]) (t := 34) (n := 1) ?hr ?_
       (case hd => rfl)
       (case hg => rfl)
       (case hr => first | (go_simp; done) | (go_simp; rfl))
       intro gl hgl w8 hbox hb
       have HGL := Aside0.mk (show w6.heap.size ≤ gl by rw [hgl]; exact below_size HBd.out)
       have HBn := Aside0.mk (below_step HBd.out hb)
       have BG := Aside0.mk hbox
       clear HBd hbox hb hgl
       have HBd := HBn
       clear HBn
       refine hK.out _ _ ⟨(blk_cell (blk_below HG6.out HBd.out) 0).trans rfl, (blk_below BB6.out HBd.out)⟩ (fun hHeld => ?_)
       clear hK K
       refine normA (N := 72) ?_
       exact norm_ (by simp only [putAll, Act.put, List.setIfInBounds_toArray, List.set_cons_zero, List.set_cons_succ]) (hCont gl _ ⟨hHeld, BG, HBd, HGL⟩)
      ·skip
       refine lit1_step ?hg (N := 72) ?hd (cs := #[.int .i64 y.f0, .int .i64 y.f1, .bool y.f2.f0, .int .i64 y.f2.f1, .int .i64 y.f2.f2, .int .i64 y.f2.f3, .int .i64 y.f2.f4, .int .i64 y.f2.f5, .int .i64 y.f3.f0, .int .i64 y.f3.f1, .int .i64 y.f3.f2, .int .i64 y.f4]) (t := 34) (n := 1) ?hr ?_
       (case hd => rfl)
       (case hg => rfl)
       (case hr => first | (go_simp; done) | (go_simp; rfl))
       intro gl hgl w8 hbox hb
       have HGL := Aside0.mk (show w6.heap.size ≤ gl by rw [hgl]; exact below_size HBd.out)
       have HBn := Aside0.mk (below_step HBd.out hb)
       have BG := Aside0.mk hbox
       clear HBd hbox hb hgl
       have HBd := HBn
       clear HBn
       refine hK.out _ _ ⟨(blk_cell (blk_below HG6.out HBd.out) 0).trans rfl, (blk_below BB6.out HBd.out)⟩ (fun hHeld => ?_)
       clear hK K
       refine normA (N := 72) ?_
       refine oneA (i := 2) (N := some 70) HT_ (fun K hK => ?_)
       refine goes_ Try.func25 (by kernel_rfl) rfl #[.int .i64 num] (by rfl) rfl rfl (by simp only [List.map_toArray, List.map_cons, List.map_nil]; rfl) ?_
       with_reducible refine (serial_Next.calls num (nx num) _ HNXE.out).mono ?_
       rintro e w7 ⟨rfl, hd7⟩
       refine ⟨_, rfl, ?_⟩
       have HBn := Aside0.mk (below_step HBd.out hd7.below)
       have BGn := Aside0.mk (blk_below BG.out hd7.below)
       clear HBd BG hd7
       have HBd := HBn
       have BG := BGn
       clear HBn BGn
       refine hK.out _ _ ⟨(blk_cell (blk_below HG6.out HBd.out) 0).trans rfl, (blk_below BB6.out HBd.out)⟩ (fun hHeld => ?_)
       clear hK K
       refine normA (N := 70) ?_
       exact norm_ (by simp only [putAll, Act.put, List.setIfInBounds_toArray, List.set_cons_zero, List.set_cons_succ]) (hCont gl _ ⟨hHeld, BG, HBd, HGL⟩)
     rintro gl w8 ⟨hHeld, BG, B8, HGL⟩
     have HG8 := Aside0.mk (blk_below HG6.out B8.out)
     have d0 := (blk_cell HG8.out 0).trans rfl
     have d1 := (blk_cell HG8.out 1).trans rfl
     have df0 := blk_frozen HG8.out 0
     have df1 := blk_frozen HG8.out 1
     refine norm_ (a' := ?_) ?_ ?_
     rotate_left
     ·simp only [putAll, Act.put, List.setIfInBounds_toArray, List.set_cons_zero, List.set_cons_succ]
      rfl
     refine pureA (i := 5) (N := some 73) HT_ ?_
     refine last_ (i := 6) (N := none) #[true, true, true, true, true, true, true] rfl rfl (one_of HT_.out (by kernel_rfl)) (by decide) (fun K hK => ?_)
     refine skip_ (w1 := ?_) (by rfl) rfl ?_ ?_
     rotate_left
     ·go_simp
      rfl
     refine hK.out _ _ ?_
     clear hK K
     refine done_ (done_of HT_.out (by kernel_rfl)) ?_
     have S9 := Aside0.mk (PkS.newB (n2 := nx num) (cur2 := [y]) BW6.out HG6.out SS.out.gn HO6.out B8.out HGL.out (oneO_R BG.out HGL.out))
     go_wp2_with (go_step3)
     go_roundg k1
     case measure => have := HI.out; omega
     case rel =>
      refine ⟨i + 1, _, nx num, _, [y], out ++ [⟨num, cur⟩], by first | rfl | simp [hw], rfl, ?_, ⟨by have := H0.out; omega⟩, ⟨by have := HI.out; omega⟩, S9, ⟨?_⟩, ⟨by simp⟩, ⟨by rw [List.length_append]; have := HOL0.out; simp; omega⟩, ⟨by unfold nx; omega⟩⟩
      ·rw [sums_cons, sums_nil]
       congr 1
       first | (rw [hws]; omega) | omega
      ·rw [← HPD.out, pack_new HFI.out, List.append_assoc]
       rfl
end Go.Proofs.Ytclbempnhelmoaa.P
