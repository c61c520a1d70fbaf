/- Walks. -/
import Derived.Test.YtclbempnhelmoaaXSenderDoesa
import Derived.Test.YtclbempnhelmoaaXSenderDoesb
import Derived.Test.YtclbempnhelmoaaXSenderDoesc
set_option linter.unusedVariables false
set_option linter.unusedSimpArgs false
set_option maxHeartbeats 8000000
set_option maxRecDepth 100000
namespace Go.Proofs.Ytclbempnhelmoaa.P
open Go.RowKit YtclbempnhelmoaaW.PrintWords YtclbempnhelmoaaW.PrintLast YtclbempnhelmoaaW.PrintMore
open YtclbempnhelmoaaW.PrintWords renaming below_alloc → YA, pw_below_drewN → YB, below_drew1 → YC
open YtclbempnhelmoaaW.PrintWords.Aside0 renaming mk → YD
attribute [local go_sem] max2_int min2_int max_two min_two max_three min_three max_four min_four
def thalwegref01_Both.l0 : Nat → List (List Int) → List Int → Int → Option (List Int)
 | 0, _, _, _ => none
 | k + 1, x0, x3, x4 => if x4 < (x0.length : Int) then (if 0 ≤ x4 then (if x3.length + (rd_L10 x0 x4).length < 140737488355328 then (thalwegref01_Both.l0 k x0 (x3 ++ (rd_L10 x0 x4)) (wrap64 (x4 + 1))) else (none)) else (none)) else (some x3)
def thalwegref01_Both.f (k : Nat) (l0 : List (List Int)) : Option (List Int) := thalwegref01_Both.l0 k l0 ([] : List Int) 0
theorem thalwegref01_Both.calls (k : Nat) (A0 : Option Addr) (c0 : Nat) (l0 : List (List Int)) (r : List Int) (w : World) (hr0 : Kd.C (Kd.slice 5 (Kd.int .u8)) w A0 l0.length l0) (hc0 : l0.length ≤ c0) (h : thalwegref01_Both.f k l0 = some r) :
  Calls Try.prog 74 #[.slice A0 l0.length c0] w fun e w' => ∃ v0_ : Value, e = .returned (v0_) ∧ Kd.R (Kd.int .u8) 5 w' w.heap.size (fun _ => True) v0_ r ∧ Below w.heap.size w w' := by
 have HR0 := YD hr0; have HC0 := YD hc0; clear hr0 hc0
 have HB := YD (Below.refl w.heap.size w)
 have H : (thalwegref01_Both.l0 k l0 ([] : List Int) 0) = some r := h
 clear h
 have H' := YD H
 clear H
 go_enter Try.func74, Try.ntmps74
 go_wp2
 go_loopg [3, 4] k (fun kq v3 v4 w' => ∃ (x3_1 : List Int) (x4_1 : Int), v4 = .int .i64 x4_1 ∧ Aside0 (thalwegref01_Both.l0 kq l0 x3_1 x4_1 = some r) ∧ Aside0 (kq ≤ k) ∧ Aside0 (Kd.R (Kd.int .u8) 5 w' w.heap.size (fun _ => True) v3 x3_1) ∧ Aside0 (Below w.heap.size w w'))
 case atStart => exact ⟨(([] : List Int)), (0), (by first | rfl | (simp; done) | (simp [*]; done)), H', ⟨Nat.le_refl _⟩, ⟨by first | exact Kd.R_nil _ _ _ _ _ | exact Kd.N_nil _ _ _ _ _ | exact Kd.V_nil _ _ _ _ _ | exact Kd.Q_nil _ _ _ _ _ | exact Kd.S_nil _ _ _ _ _⟩, ⟨by repeat (first | (with_reducible first | exact HB.out | apply YA | apply YB | apply YC) | exact HB.out)⟩⟩
 case round =>
  clear H'
  obtain ⟨x3_1, x4_1, rfl, HA, HK1, HO_3, HB⟩ := hrel
  cases gk with
  | zero => exact absurd HA.out (by simp [thalwegref01_Both.l0])
  | succ k1 =>
   have H := HA.out
   clear HA
   simp only [thalwegref01_Both.l0] at H
   by_cases c2 : x4_1 < (l0.length : Int)
   ·rw [if_pos c2] at H
    have c2b0 : decide (x4_1 < (l0.length : Int)) = true := decide_eq_true c2
    clear c2
    by_cases c3 : 0 ≤ x4_1
    rotate_left
    ·rw [if_neg c3] at H
     exact absurd H (by simp)
    rw [if_pos c3] at H; have c3b0 : decide (0 ≤ x4_1) = true := decide_eq_true c3; clear c3
    by_cases c4 : x3_1.length + (rd_L10 l0 x4_1).length < 140737488355328
    rotate_left
    ·rw [if_neg c4] at H
     exact absurd H (by simp)
    rw [if_pos c4] at H; have LMc4 := YD c4; clear c4
    obtain ⟨y286, hy286⟩ : ∃ y_ : List Int, y_ = (x3_1 ++ (rd_L10 l0 x4_1)) := ⟨_, rfl⟩
    replace H : (thalwegref01_Both.l0 k1 l0 y286 (wrap64 (x4_1 + 1))) = some r := by first | (rw [hy286]; with_reducible exact H) | (have H2_ := (Option.bind_some _ _).symm.trans H; rw [hy286]; with_reducible exact H2_) | (have H2_ := (Option.bind_some _ _).symm.trans H; with_reducible exact H2_) | with_reducible exact H | (rw [hy286]; exact H) | exact H
    have Ny286 := YD hy286; clear hy286
    have H' := YD H
    clear H
    have p285 : 0 ≤ (x4_1 : Int) := of_decide_eq_true (by first | (with_reducible assumption) | assumption)
    have q285 : x4_1 < (l0.length : Int) := of_decide_eq_true (by first | (with_reducible assumption) | assumption)
    obtain ⟨ad285, A285_0, c285_0, e285, hx285_0, hl285_0, hi285_0⟩ := at_L10 HR0.out x4_1 p285 q285
    cases e285
    replace hx285_0 := (HB.out.cell (World.block_lt_of_cell? w _ hx285_0)).trans hx285_0
    have HR285_0 := YD hi285_0; have HC285_0 := YD hl285_0; clear hi285_0 hl285_0
    replace p285 := eq_true p285
    replace q285 := eq_true q285
    go_wp2_with (first | ((with_reducible refine gate_builtin (b := .append) (xs := #[.tmp 11, .tmp 15]) rfl ?_); at_builtin; refine Kd.R_append_rows (Kd.int .u8) (w0 := w) w.heap.size rfl (.tmp 11) (.tmp 15) 107 5 (.int .u8 0) 1 rfl Try.underlying107 info5 rfl (by decide) (by omega) u3 x3_1 (rd_L10 l0 x4_1) _ _ _ (fun _ => True) (fun _ => False) rfl rfl ?aO ?aR (fun _ _ h => h) (fun _ h => h.elim) ?aF ?aB ?aS ?aL ?_; (case aR => repeat (first | exact (Kd.C_below HR285_0.out HB.out) | (with_reducible refine Kd.C_alloc ?_ _) | (with_reducible refine Kd.C_drewN ?_ _) | (with_reducible refine Kd.C_drew ?_))); (case aB => exact (upB HB)); (case aF => exact (fun _ _ => trivial)); (case aO => exact (upR HO_3)); (case aS => exact (below_size (upB HB))); (case aL => have := LMc4.out; omega); intro v287 w5 ho hb hg hat; rw [← Ny286.out] at ho; have n0_ := YD (hb); have n1_ := YD (ho); clear HB; clear HO_3; have HB := n0_; have HO288 := n1_; clear n0_ n1_; clear ho hb hg hat))
    go_roundg k1
    case measure => have := HK1.out; omega
    case rel => exact ⟨(y286), (wrap64 (x4_1 + 1)), (by first | rfl | (simp; done) | (simp [*]; done)), H', ⟨by have := HK1.out; omega⟩, ⟨by (with_reducible repeat (first | apply Kd.R_alloc | apply Kd.R_drewN | apply Kd.R_drew)); exact HO288.out⟩, ⟨by repeat (first | (with_reducible first | exact HB.out | apply YA | apply YB | apply YC) | exact HB.out)⟩⟩
   rw [if_neg c2] at H
   have c2b0 : decide (x4_1 < (l0.length : Int)) = false := decide_eq_false c2
   clear c2
   obtain rfl := Option.some.inj H
   go_wp2
   go_ret
   exact ⟨_, by first | rfl | (simp [errW_none, errW_some] <;> rfl) | (simp [*, errW_none, errW_some] <;> rfl), by (with_reducible repeat (first | apply Kd.R_alloc | apply Kd.R_drewN | apply Kd.R_drew)); exact HO_3.out, by repeat (first | (with_reducible first | exact HB.out | apply YA | apply YB | apply YC) | exact HB.out)⟩
end Go.Proofs.Ytclbempnhelmoaa.P
namespace Go.Proofs.Ytclbempnhelmoaa.P
open Go.RowKit YtclbempnhelmoaaW.PrintWords YtclbempnhelmoaaW.PrintLast YtclbempnhelmoaaW.PrintMore
theorem rows_get (rows : List (List Int)) (i : Int) (h0 : 0 ≤ i) (h1 : i < rows.length) : rows.drop i.toNat = rd_L10 rows i :: rows.drop (i + 1).toNat := by
 have hi : i.toNat < rows.length := by omega
 rw [List.drop_eq_getElem_cons hi, show (i + 1).toNat = i.toNat + 1 by omega]
 congr 1
 unfold rd_L10
 rw [List.getD_eq_getElem?_getD, List.getElem?_eq_getElem hi]
 rfl
theorem both_l0 (rows : List (List Int)) (hr : rows.length ≤ 1000) : ∀ (d : Nat) (i : Int) (acc : List Int), 0 ≤ i → (rows.length : Int) - i = d → acc.length + (rows.drop i.toNat).flatten.length < 140737488355328 →
  Ev (fun k => thalwegref01_Both.l0 k rows acc i) (acc ++ (rows.drop i.toNat).flatten) := by
 intro d
 induction d with
 | zero =>
  intro i acc h0 hd hl
  refine Ev.from 1 fun k => ?_
  simp only [thalwegref01_Both.l0]
  rw [if_neg (by omega), List.drop_eq_nil_of_le (by omega)]
  simp
 | succ d ih =>
  intro i acc h0 hd hl
  have h1 : i < (rows.length : Int) := by omega
  refine Ev.step (f := fun k => _) (fun k => by simp only [thalwegref01_Both.l0]; rfl) ?_
  rw [rows_get rows i h0 h1] at hl ⊢
  simp only [List.flatten_cons, List.length_append] at hl ⊢
  have hc : acc.length + (rd_L10 rows i).length < 140737488355328 := by omega
  simp only [if_pos h1, if_pos h0, if_pos hc, w64 (x := i + 1) (by omega) (by omega)]
  have := ih (i + 1) (acc ++ rd_L10 rows i) (by omega) (by omega) (by rw [List.length_append]; omega)
  rw [← List.append_assoc]
  exact this
theorem both_ev (rows : List (List Int)) (hr : rows.length ≤ 1000) (hl : rows.flatten.length < 140737488355328) : Ev (fun k => thalwegref01_Both.f k rows) rows.flatten := by
 unfold thalwegref01_Both.f
 have := both_l0 rows hr rows.length 0 [] (by omega) (by omega) (by simpa using hl)
 simpa using this
end Go.Proofs.Ytclbempnhelmoaa.P
namespace Go.Proofs.Ytclbempnhelmoaa.P
open Go.RowKit YtclbempnhelmoaaW.PrintWords YtclbempnhelmoaaW.PrintLast YtclbempnhelmoaaW.PrintMore
open YtclbempnhelmoaaW.PrintWords renaming below_alloc → YA, pw_below_drewN → YB, below_drew1 → YC, blk_cell → YD, blk_frozen → YE
open YtclbempnhelmoaaW.PrintWords.Aside0 renaming mk → YF
attribute [local go_sem] max2_int min2_int max_two min_two max_three min_three max_four min_four
attribute [local go_sem high] eqA30
def thalwegref02_Right.j0 : Nat → Bool → Bool → Int → Int → Int → Int → Int → Option (Bool)
 | 0, _, _, _, _, _, _, _ => none
 | k + 1, x10, x270000, x270001, x270002, x270003, x270004, x270005 => if x10 = true then (some false) else (if x270000 = true then (some (x270001 == 0 && (x270002 == 0 && (x270003 == 0 && (x270004 == 0))))) else (if x270001 ≥ 0 then (if x270001 ≤ 4611686018427387903 then (if x270002 ≥ 0 then (if x270002 < 64 then (if x270003 = 0 then (if x270004 ≥ (-1099511627776) then (some (decide (x270004 ≤ 1099511627776))) else (some false)) else (if x270003 = 1 then (if x270004 ≥ (-1099511627776) then (some (decide (x270004 ≤ 1099511627776))) else (some false)) else (some false))) else (some false)) else (some false)) else (some false)) else (some false)))
def thalwegref02_Right.f (k : Nat) (a0_0 : Bool) (a0_1 : Int) (a0_2 : Int) (a0_3 : Int) (a0_4 : Int) (a0_5 : Int) : Option (Bool) := if a0_5 < 0 then (thalwegref02_Right.j0 k true a0_0 a0_1 a0_2 a0_3 a0_4 a0_5) else (thalwegref02_Right.j0 k (decide (a0_5 ≥ 64)) a0_0 a0_1 a0_2 a0_3 a0_4 a0_5)
theorem thalwegref02_Right.calls (k : Nat) (a0_0 : Bool) (a0_1 : Int) (a0_2 : Int) (a0_3 : Int) (a0_4 : Int) (a0_5 : Int) (r : Bool) (w : World) (h : thalwegref02_Right.f k a0_0 a0_1 a0_2 a0_3 a0_4 a0_5 = some r) :
  Calls Try.prog 59 #[.agg #[.bool a0_0, .int .i64 a0_1, .int .i64 a0_2, .int .i64 a0_3, .int .i64 a0_4, .int .i64 a0_5]] w fun e w' => e = .returned (.bool r) ∧ Below w.heap.size w w' := by
 have hu30 := Try.underlying30
 have HB := YF (Below.refl w.heap.size w)
 have H : (if a0_5 < 0 then (thalwegref02_Right.j0 k true a0_0 a0_1 a0_2 a0_3 a0_4 a0_5) else (thalwegref02_Right.j0 k (decide (a0_5 ≥ 64)) a0_0 a0_1 a0_2 a0_3 a0_4 a0_5)) = some r := h
 clear h; have HC2 := YF H; clear H
 go_enter Try.func59, Try.ntmps59
 go_upto_region 1 with (first | ((with_reducible refine gate_dst (N := 1) rfl ?_); refine box_event ?hg (N := 1) ?hd (cs := #[.bool a0_0, .int .i64 a0_1, .int .i64 a0_2, .int .i64 a0_3, .int .i64 a0_4, .int .i64 a0_5]) (t := 30) ?hr ?_; (case hd => rfl); (case hg => rfl); (case hr => first | (go_simp; done) | (go_simp; rfl)); intro gb269 hg w3 hbox hb; have n0_ := YF (below_step (upB HB) hb); have n1_ := YF (hbox); have n2_ := YF ((by rw [hg]; exact (below_size (upB HB)) : w.heap.size ≤ gb269)); have n3_ := YF ((by rw [hg]; exact (below_size (upB HB)) : w.heap.size ≤ gb269)); clear HB; have HB := n0_; have BK269 := n1_; have GW269 := n2_; have GE269 := n3_; clear n0_ n1_ n2_ n3_; clear hb hbox hg))
 (try simp only [Act.put, List.setIfInBounds_toArray, List.set_cons_zero, List.set_cons_succ])
 go_cut [10] (fun v10 wc => ∃ (kq : Nat) (x10_1 : Bool), v10 = .bool x10_1 ∧ Aside0 (thalwegref02_Right.j0 kq x10_1 a0_0 a0_1 a0_2 a0_3 a0_4 a0_5 = some r) ∧ Aside0 (kq ≤ k) ∧ Aside0 (wc.heap[gb269]? = some (.cells #[.bool a0_0, .int .i64 a0_1, .int .i64 a0_2, .int .i64 a0_3, .int .i64 a0_4, .int .i64 a0_5] 30 (0, 0))) ∧ Aside0 (Below w.heap.size w wc))
 case first =>
  have H := HC2.out
  clear HC2
  by_cases c4 : a0_5 < 0
  ·rw [if_pos c4] at H
   have c4b0 : decide (a0_5 < 0) = true := decide_eq_true c4; clear c4
   (first | rw [c4b0] | (simp only [i64_w, i32_w]; rw [c4b0]) | rw [c4b1] | skip)
   have H' := YF H
   clear H
   obtain ⟨q5_0, q5_1, q5_2, q5_3, q5_4, q5_5⟩ := cA6 BK269.out
   obtain ⟨f5_0, f5_1, f5_2, f5_3, f5_4, f5_5⟩ := fA6 BK269.out
   go_wp2
   go_meet
   case rel => exact ⟨_, (true), (by first | rfl | (simp; done) | (simp [*]; done)), H', ⟨by first | omega | exact Nat.le_refl _⟩, ⟨by (with_reducible repeat (first | refine blk_drewN ?_ _ | refine blk_drew ?_ | refine blk_alloc ?_ _)); exact BK269.out⟩, ⟨by repeat (first | (with_reducible first | exact HB.out | apply YA | apply YB | apply YC | refine below_set ?_ GE269.out) | exact HB.out)⟩⟩
  rw [if_neg c4] at H; have c4b0 : decide (a0_5 < 0) = false := decide_eq_false c4; clear c4
  (first | rw [c4b0] | (simp only [i64_w, i32_w]; rw [c4b0]) | rw [c4b1] | skip)
  have H' := YF H
  clear H
  obtain ⟨q6_0, q6_1, q6_2, q6_3, q6_4, q6_5⟩ := cA6 BK269.out
  obtain ⟨f6_0, f6_1, f6_2, f6_3, f6_4, f6_5⟩ := fA6 BK269.out
  go_wp2
  go_meet
  case rel => exact ⟨_, (decide (a0_5 ≥ 64)), (by first | rfl | (simp; done) | (simp [*]; done)), H', ⟨by first | omega | exact Nat.le_refl _⟩, ⟨by (with_reducible repeat (first | refine blk_drewN ?_ _ | refine blk_drew ?_ | refine blk_alloc ?_ _)); exact BK269.out⟩, ⟨by repeat (first | (with_reducible first | exact HB.out | apply YA | apply YB | apply YC | refine below_set ?_ GE269.out) | exact HB.out)⟩⟩
 case rest =>
  clear HC2
  try clear p2; try clear c4
  try clear c4b0; try clear c5
  try clear q5_0; try clear q5_1
  try clear q5_2; try clear q5_3
  try clear q5_4; try clear q5_5
  try clear q6_0; try clear q6_1
  try clear q6_2; try clear q6_3
  try clear q6_4; try clear q6_5
  try clear f5_0; try clear f5_1
  try clear f5_2; try clear f5_3
  try clear f5_4; try clear f5_5
  try clear f6_0; try clear f6_1
  try clear f6_2; try clear f6_3
  try clear f6_4; try clear f6_5
  obtain ⟨kq, x10_1, rfl, HA, HJ1, BK269, HB⟩ := hcut
  cases kq with
  | zero => exact absurd HA.out (by simp [thalwegref02_Right.j0])
  | succ kj1 =>
   have H := HA.out
   clear HA
   simp only [thalwegref02_Right.j0] at H
   by_cases c7 : x10_1 = true
   ·subst c7
    have H1 : (some false) = some r := by rw [if_pos rfl] at H; exact H
    clear H
    have H := H1
    clear H1
    obtain rfl := Option.some.inj H
    go_wp2
    go_ret
    exact ⟨by first | rfl | (simp [errW_none, errW_some] <;> rfl) | (simp [*, errW_none, errW_some] <;> rfl), by repeat (first | (with_reducible first | exact HB.out | apply YA | apply YB | apply YC | refine below_set ?_ GE269.out) | exact HB.out)⟩
   replace c7 := Bool.eq_false_iff.mpr c7
   subst c7
   have H1 : (if a0_0 = true then (some (a0_1 == 0 && (a0_2 == 0 && (a0_3 == 0 && (a0_4 == 0))))) else (if a0_1 ≥ 0 then (if a0_1 ≤ 4611686018427387903 then (if a0_2 ≥ 0 then (if a0_2 < 64 then (if a0_3 = 0 then (if a0_4 ≥ (-1099511627776) then (some (decide (a0_4 ≤ 1099511627776))) else (some false)) else (if a0_3 = 1 then (if a0_4 ≥ (-1099511627776) then (some (decide (a0_4 ≤ 1099511627776))) else (some false)) else (some false))) else (some false)) else (some false)) else (some false)) else (some false))) = some r := by rw [if_neg (show ¬ (false = true) by decide)] at H; exact H
   clear H
   have H := H1
   clear H1
   by_cases c8 : a0_0 = true
   ·subst c8
    have H1 : (some (a0_1 == 0 && (a0_2 == 0 && (a0_3 == 0 && (a0_4 == 0))))) = some r := by rw [if_pos rfl] at H; exact H
    clear H
    have H := H1
    clear H1
    obtain rfl := Option.some.inj H
    obtain ⟨q9_0, q9_1, q9_2, q9_3, q9_4, q9_5⟩ := cA6 BK269.out
    obtain ⟨f9_0, f9_1, f9_2, f9_3, f9_4, f9_5⟩ := fA6 BK269.out
    go_wp2
    go_ret
    exact ⟨by first | rfl | (simp [errW_none, errW_some] <;> rfl) | (simp [*, errW_none, errW_some] <;> rfl), by repeat (first | (with_reducible first | exact HB.out | apply YA | apply YB | apply YC | refine below_set ?_ GE269.out) | exact HB.out)⟩
   replace c8 := Bool.eq_false_iff.mpr c8
   subst c8
   have H1 : (if a0_1 ≥ 0 then (if a0_1 ≤ 4611686018427387903 then (if a0_2 ≥ 0 then (if a0_2 < 64 then (if a0_3 = 0 then (if a0_4 ≥ (-1099511627776) then (some (decide (a0_4 ≤ 1099511627776))) else (some false)) else (if a0_3 = 1 then (if a0_4 ≥ (-1099511627776) then (some (decide (a0_4 ≤ 1099511627776))) else (some false)) else (some false))) else (some false)) else (some false)) else (some false)) else (some false)) = some r := by rw [if_neg (show ¬ (false = true) by decide)] at H; exact H
   clear H
   have H := H1
   clear H1
   by_cases c10 : a0_1 ≥ 0
   ·rw [if_pos c10] at H
    have c10b0 : decide (0 ≤ a0_1) = true := decide_eq_true c10; clear c10
    by_cases c11 : a0_1 ≤ 4611686018427387903
    ·rw [if_pos c11] at H
     have c11b0 : decide (a0_1 ≤ 4611686018427387903) = true := decide_eq_true c11; clear c11
     by_cases c12 : a0_2 ≥ 0
     ·rw [if_pos c12] at H
      have c12b0 : decide (0 ≤ a0_2) = true := decide_eq_true c12; clear c12
      by_cases c13 : a0_2 < 64
      ·rw [if_pos c13] at H
       have c13b0 : decide (a0_2 < 64) = true := decide_eq_true c13; clear c13
       by_cases c14 : a0_3 = 0
       ·rw [if_pos c14] at H
        have c14b0 : (a0_3 == 0) = true := beq_iff_eq.mpr c14
        have c14b1 : (a0_3 != 0) = false := bne_eq_false_iff_eq.mpr c14
        clear c14
        by_cases c15 : a0_4 ≥ (-1099511627776)
        ·rw [if_pos c15] at H
         have c15b0 : decide ((-1099511627776) ≤ a0_4) = true := decide_eq_true c15; clear c15
         obtain rfl := Option.some.inj H
         obtain ⟨q16_0, q16_1, q16_2, q16_3, q16_4, q16_5⟩ := cA6 BK269.out
         obtain ⟨f16_0, f16_1, f16_2, f16_3, f16_4, f16_5⟩ := fA6 BK269.out
         go_wp2
         go_ret
         exact ⟨by first | rfl | (simp [errW_none, errW_some] <;> rfl) | (simp [*, errW_none, errW_some] <;> rfl), by repeat (first | (with_reducible first | exact HB.out | apply YA | apply YB | apply YC | refine below_set ?_ GE269.out) | exact HB.out)⟩
        rw [if_neg c15] at H; have c15b0 : decide ((-1099511627776) ≤ a0_4) = false := decide_eq_false c15; clear c15
        obtain rfl := Option.some.inj H
        obtain ⟨q17_0, q17_1, q17_2, q17_3, q17_4, q17_5⟩ := cA6 BK269.out
        obtain ⟨f17_0, f17_1, f17_2, f17_3, f17_4, f17_5⟩ := fA6 BK269.out
        go_wp2
        go_ret
        exact ⟨by first | rfl | (simp [errW_none, errW_some] <;> rfl) | (simp [*, errW_none, errW_some] <;> rfl), by repeat (first | (with_reducible first | exact HB.out | apply YA | apply YB | apply YC | refine below_set ?_ GE269.out) | exact HB.out)⟩
       rw [if_neg c14] at H
       have c14b0 : (a0_3 == 0) = false := beq_eq_false_iff_ne.mpr c14
       have c14b1 : (a0_3 != 0) = true := bne_iff_ne.mpr c14
       by_cases c18 : a0_3 = 1
       ·rw [if_pos c18] at H
        have c18b0 : (a0_3 == 1) = true := beq_iff_eq.mpr c18
        have c18b1 : (a0_3 != 1) = false := bne_eq_false_iff_eq.mpr c18
        clear c18
        by_cases c19 : a0_4 ≥ (-1099511627776)
        ·rw [if_pos c19] at H
         have c19b0 : decide ((-1099511627776) ≤ a0_4) = true := decide_eq_true c19; clear c19
         obtain rfl := Option.some.inj H
         obtain ⟨q20_0, q20_1, q20_2, q20_3, q20_4, q20_5⟩ := cA6 BK269.out
         obtain ⟨f20_0, f20_1, f20_2, f20_3, f20_4, f20_5⟩ := fA6 BK269.out
         go_wp2
         go_ret
         exact ⟨by first | rfl | (simp [errW_none, errW_some] <;> rfl) | (simp [*, errW_none, errW_some] <;> rfl), by repeat (first | (with_reducible first | exact HB.out | apply YA | apply YB | apply YC | refine below_set ?_ GE269.out) | exact HB.out)⟩
        rw [if_neg c19] at H; have c19b0 : decide ((-1099511627776) ≤ a0_4) = false := decide_eq_false c19; clear c19
        obtain rfl := Option.some.inj H
        obtain ⟨q21_0, q21_1, q21_2, q21_3, q21_4, q21_5⟩ := cA6 BK269.out
        obtain ⟨f21_0, f21_1, f21_2, f21_3, f21_4, f21_5⟩ := fA6 BK269.out
        go_wp2
        go_ret
        exact ⟨by first | rfl | (simp [errW_none, errW_some] <;> rfl) | (simp [*, errW_none, errW_some] <;> rfl), by repeat (first | (with_reducible first | exact HB.out | apply YA | apply YB | apply YC | refine below_set ?_ GE269.out) | exact HB.out)⟩
       rw [if_neg c18] at H
       have c18b0 : (a0_3 == 1) = false := beq_eq_false_iff_ne.mpr c18
       have c18b1 : (a0_3 != 1) = true := bne_iff_ne.mpr c18
       obtain rfl := Option.some.inj H
       obtain ⟨q22_0, q22_1, q22_2, q22_3, q22_4, q22_5⟩ := cA6 BK269.out
       obtain ⟨f22_0, f22_1, f22_2, f22_3, f22_4, f22_5⟩ := fA6 BK269.out
       go_wp2
       go_ret
       exact ⟨by first | rfl | (simp [errW_none, errW_some] <;> rfl) | (simp [*, errW_none, errW_some] <;> rfl), by repeat (first | (with_reducible first | exact HB.out | apply YA | apply YB | apply YC | refine below_set ?_ GE269.out) | exact HB.out)⟩
      rw [if_neg c13] at H; have c13b0 : decide (a0_2 < 64) = false := decide_eq_false c13; clear c13
      obtain rfl := Option.some.inj H
      obtain ⟨q23_0, q23_1, q23_2, q23_3, q23_4, q23_5⟩ := cA6 BK269.out
      obtain ⟨f23_0, f23_1, f23_2, f23_3, f23_4, f23_5⟩ := fA6 BK269.out
      go_wp2
      go_ret
      exact ⟨by first | rfl | (simp [errW_none, errW_some] <;> rfl) | (simp [*, errW_none, errW_some] <;> rfl), by repeat (first | (with_reducible first | exact HB.out | apply YA | apply YB | apply YC | refine below_set ?_ GE269.out) | exact HB.out)⟩
     rw [if_neg c12] at H; have c12b0 : decide (0 ≤ a0_2) = false := decide_eq_false c12; clear c12
     obtain rfl := Option.some.inj H
     obtain ⟨q24_0, q24_1, q24_2, q24_3, q24_4, q24_5⟩ := cA6 BK269.out
     obtain ⟨f24_0, f24_1, f24_2, f24_3, f24_4, f24_5⟩ := fA6 BK269.out
     go_wp2
     go_ret
     exact ⟨by first | rfl | (simp [errW_none, errW_some] <;> rfl) | (simp [*, errW_none, errW_some] <;> rfl), by repeat (first | (with_reducible first | exact HB.out | apply YA | apply YB | apply YC | refine below_set ?_ GE269.out) | exact HB.out)⟩
    rw [if_neg c11] at H; have c11b0 : decide (a0_1 ≤ 4611686018427387903) = false := decide_eq_false c11; clear c11
    obtain rfl := Option.some.inj H
    obtain ⟨q25_0, q25_1, q25_2, q25_3, q25_4, q25_5⟩ := cA6 BK269.out
    obtain ⟨f25_0, f25_1, f25_2, f25_3, f25_4, f25_5⟩ := fA6 BK269.out
    go_wp2
    go_ret
    exact ⟨by first | rfl | (simp [errW_none, errW_some] <;> rfl) | (simp [*, errW_none, errW_some] <;> rfl), by repeat (first | (with_reducible first | exact HB.out | apply YA | apply YB | apply YC | refine below_set ?_ GE269.out) | exact HB.out)⟩
   rw [if_neg c10] at H; have c10b0 : decide (0 ≤ a0_1) = false := decide_eq_false c10; clear c10
   obtain rfl := Option.some.inj H
   obtain ⟨q26_0, q26_1, q26_2, q26_3, q26_4, q26_5⟩ := cA6 BK269.out
   obtain ⟨f26_0, f26_1, f26_2, f26_3, f26_4, f26_5⟩ := fA6 BK269.out
   go_wp2
   go_ret
   exact ⟨by first | rfl | (simp [errW_none, errW_some] <;> rfl) | (simp [*, errW_none, errW_some] <;> rfl), by repeat (first | (with_reducible first | exact HB.out | apply YA | apply YB | apply YC | refine below_set ?_ GE269.out) | exact HB.out)⟩
end Go.Proofs.Ytclbempnhelmoaa.P
namespace Go.Proofs.Ytclbempnhelmoaa.P
open Go.RowKit YtclbempnhelmoaaW.PrintWords YtclbempnhelmoaaW.PrintLast YtclbempnhelmoaaW.PrintMore
open YtclbempnhelmoaaW.PrintWords renaming below_alloc → YA, pw_below_drewN → YB, below_drew1 → YC, below_step → YD, below_size → YE, blk_cell → YF, blk_frozen → YG
open YtclbempnhelmoaaW.PrintWords.Aside0 renaming mk → YH
attribute [local go_sem] max2_int min2_int max_two min_two max_three min_three max_four min_four
def thalwegref02_Told.f (k : Nat) (a0_0 : Bool) (a0_1 : Int) (a0_2 : Int) (a0_3 : Int) (a0_4 : Int) (a0_5 : Int) : Option (Bool) := (thalwegref02_Right.f k a0_0 a0_1 a0_2 a0_3 a0_4 a0_5).bind fun t271 => (if t271 = true then (some (!a0_0)) else (some false))
theorem thalwegref02_Told.calls (k : Nat) (a0_0 : Bool) (a0_1 : Int) (a0_2 : Int) (a0_3 : Int) (a0_4 : Int) (a0_5 : Int) (r : Bool) (w : World) (h : thalwegref02_Told.f k a0_0 a0_1 a0_2 a0_3 a0_4 a0_5 = some r) :
  Calls Try.prog 60 #[.agg #[.bool a0_0, .int .i64 a0_1, .int .i64 a0_2, .int .i64 a0_3, .int .i64 a0_4, .int .i64 a0_5]] w fun e w' => e = .returned (.bool r) ∧ Below w.heap.size w w' := by
 have hu30 := Try.underlying30
 have HB := YH (Below.refl w.heap.size w)
 have H : ((thalwegref02_Right.f k a0_0 a0_1 a0_2 a0_3 a0_4 a0_5).bind fun t271 => (if t271 = true then (some (!a0_0)) else (some false))) = some r := h
 clear h; replace H := Option.bind_eq_some_iff.mp H; obtain ⟨t271, A20, H⟩ := H
 replace H : (if t271 = true then (some (!a0_0)) else (some false)) = some r := H
 have A2 := YH A20; clear A20
 by_cases c3 : t271 = true
 ·subst c3
  have H1 : (some (!a0_0)) = some r := by rw [if_pos rfl] at H; exact H
  clear H
  have H := H1
  clear H1
  obtain rfl := Option.some.inj H
  go_enter Try.func60, Try.ntmps60
  go_wp2_with (first | ((with_reducible refine gate_dst (N := 1) rfl ?_); refine box_event ?hg (N := 1) ?hd (cs := #[.bool a0_0, .int .i64 a0_1, .int .i64 a0_2, .int .i64 a0_3, .int .i64 a0_4, .int .i64 a0_5]) (t := 30) ?hr ?_; (case hd => rfl); (case hg => rfl); (case hr => first | (go_simp; done) | (go_simp; rfl)); intro gb270 hg w4 hbox hb; have n0_ := YH (YD (upB HB) hb); have n1_ := YH (hbox); have n2_ := YH ((by rw [hg]; exact (YE (upB HB)) : w.heap.size ≤ gb270)); have n3_ := YH ((by rw [hg]; exact (YE (upB HB)) : w.heap.size ≤ gb270)); clear HB; have HB := n0_; have BK270 := n1_; have GW270 := n2_; have GE270 := n3_; clear n0_ n1_ n2_ n3_; clear hb hbox hg; obtain ⟨q5_0, q5_1, q5_2, q5_3, q5_4, q5_5⟩ := cA6 BK270.out; obtain ⟨f5_0, f5_1, f5_2, f5_3, f5_4, f5_5⟩ := fA6 BK270.out) | ((with_reducible refine gate_callee (f := 59) rfl ?_); refine goesA (some 4) Try.func59 #[.agg #[.bool a0_0, .int .i64 a0_1, .int .i64 a0_2, .int .i64 a0_3, .int .i64 a0_4, .int .i64 a0_5]] ?_; (with_reducible refine (thalwegref02_Right.calls k a0_0 a0_1 a0_2 a0_3 a0_4 a0_5 true _ A2.out).mono ?_); rintro e w6 ⟨rfl, hb⟩; refine ⟨_, rfl, ?_⟩; have n0_ := YH (blk_below (g := gb270) (o := .cells #[.bool a0_0, .int .i64 a0_1, .int .i64 a0_2, .int .i64 a0_3, .int .i64 a0_4, .int .i64 a0_5] 30 (0, 0)) (upK BK270) hb); have n1_ := YH (YD (upB HB) hb); clear BK270; clear HB; have BK270 := n0_; have HB := n1_; clear n0_ n1_; (try clear hb); (try clear hb2); (try clear hk); (try clear hi); obtain ⟨q7_0, q7_1, q7_2, q7_3, q7_4, q7_5⟩ := cA6 BK270.out; obtain ⟨f7_0, f7_1, f7_2, f7_3, f7_4, f7_5⟩ := fA6 BK270.out))
  go_ret
  exact ⟨by first | rfl | (simp [errW_none, errW_some] <;> rfl) | (simp [*, errW_none, errW_some] <;> rfl), by repeat (first | (with_reducible first | exact HB.out | apply YA | apply YB | apply YC | refine below_set ?_ GE270.out) | exact HB.out)⟩
 replace c3 := Bool.eq_false_iff.mpr c3
 subst c3
 have H1 : (some false) = some r := by rw [if_neg (show ¬ (false = true) by decide)] at H; exact H
 clear H
 have H := H1
 clear H1
 obtain rfl := Option.some.inj H
 go_enter Try.func60, Try.ntmps60
 go_wp2_with (first | ((with_reducible refine gate_dst (N := 1) rfl ?_); refine box_event ?hg (N := 1) ?hd (cs := #[.bool a0_0, .int .i64 a0_1, .int .i64 a0_2, .int .i64 a0_3, .int .i64 a0_4, .int .i64 a0_5]) (t := 30) ?hr ?_; (case hd => rfl); (case hg => rfl); (case hr => first | (go_simp; done) | (go_simp; rfl)); intro gb270 hg w8 hbox hb; have n0_ := YH (YD (upB HB) hb); have n1_ := YH (hbox); have n2_ := YH ((by rw [hg]; exact (YE (upB HB)) : w.heap.size ≤ gb270)); have n3_ := YH ((by rw [hg]; exact (YE (upB HB)) : w.heap.size ≤ gb270)); clear HB; have HB := n0_; have BK270 := n1_; have GW270 := n2_; have GE270 := n3_; clear n0_ n1_ n2_ n3_; clear hb hbox hg; obtain ⟨q9_0, q9_1, q9_2, q9_3, q9_4, q9_5⟩ := cA6 BK270.out; obtain ⟨f9_0, f9_1, f9_2, f9_3, f9_4, f9_5⟩ := fA6 BK270.out) | ((with_reducible refine gate_callee (f := 59) rfl ?_); refine goesA (some 4) Try.func59 #[.agg #[.bool a0_0, .int .i64 a0_1, .int .i64 a0_2, .int .i64 a0_3, .int .i64 a0_4, .int .i64 a0_5]] ?_; (with_reducible refine (thalwegref02_Right.calls k a0_0 a0_1 a0_2 a0_3 a0_4 a0_5 false _ A2.out).mono ?_); rintro e w10 ⟨rfl, hb⟩; refine ⟨_, rfl, ?_⟩; have n0_ := YH (blk_below (g := gb270) (o := .cells #[.bool a0_0, .int .i64 a0_1, .int .i64 a0_2, .int .i64 a0_3, .int .i64 a0_4, .int .i64 a0_5] 30 (0, 0)) (upK BK270) hb); have n1_ := YH (YD (upB HB) hb); clear BK270; clear HB; have BK270 := n0_; have HB := n1_; clear n0_ n1_; (try clear hb); (try clear hb2); (try clear hk); (try clear hi)))
 go_ret
 exact ⟨by first | rfl | (simp [errW_none, errW_some] <;> rfl) | (simp [*, errW_none, errW_some] <;> rfl), by repeat (first | (with_reducible first | exact HB.out | apply YA | apply YB | apply YC | refine below_set ?_ GE270.out) | exact HB.out)⟩
end Go.Proofs.Ytclbempnhelmoaa.P
namespace Go.Proofs.Ytclbempnhelmoaa.P
open Go.RowKit YtclbempnhelmoaaW.PrintWords YtclbempnhelmoaaW.PrintLast YtclbempnhelmoaaW.PrintMore
open YtclbempnhelmoaaW.PrintWords renaming below_alloc → YA, pw_below_drewN → YB, below_drew1 → YC, below_step → YD, below_size → YE, blk_drewN → YF, blk_drew → YG, blk_alloc → YH, blk_cell → YI, blk_frozen → YJ, blk_below → YK
open YtclbempnhelmoaaW.PrintWords.Aside0 renaming mk → YL
open List renaming setIfInBounds_toArray → YM, set_cons_zero → YN, set_cons_succ → YO, map_toArray → YP
open YtclbempnhelmoaaW.PrintWords.Kd renaming R_alloc → YQ, R_drewN → YR, R_drew → YS
attribute [local go_sem] max2_int min2_int max_two min_two max_three min_three max_four min_four
def thalwegref02_Bytes.f (k : Nat) (a0_0 : Bool) (a0_1 : Int) (a0_2 : Int) (a0_3 : Int) (a0_4 : Int) (a0_5 : Int) : Option (List Int × Int) := (thalwegref02_Right.f k a0_0 a0_1 a0_2 a0_3 a0_4 a0_5).bind fun t290 => (if t290 = true then (if a0_0 = true then (some ((([0, (a0_5) % 256] : List Int)), 0)) else ((thalwegref01_Int.f k a0_1).bind fun t297 => ((thalwegref01_Int.f k a0_4).bind fun t303 => ((thalwegref01_Both.f k (([(([1] : List Int)), t297, (([(a0_2) % 256, (a0_3) % 256] : List Int)), t303, (([(a0_5) % 256] : List Int))] : List (List Int)))).bind fun t312 => (some (t312, 0)))))) else (some (([] : List Int), 1)))
def thalwegref02_Bytes.T5 : Bool × List (List Nat × List Nat) := (true, [([], []), ([], []), ([1], [1]), ([2], [2]), ([], []), ([4], [4]), ([5], [5]), ([], []), ([7], [7]), ([8], [8]), ([6, 9], [6, 9]), ([], []), ([11], [11]), ([12, 3], [12]), ([], []), ([14], [14]), ([15], [15]), ([16], [16]), ([0, 3, 10, 13, 17], [0, 3, 10, 13, 17]), ([18, 13], [18]), ([19, 19, 0, 1, 2, 3, 4, 5, 6, 7, 8, 9, 10, 11, 12, 13, 14, 15, 16, 17, 18, 19], [19]), ([20, 0, 1, 2, 3, 4, 5, 6, 7, 8, 9, 10, 11, 12, 13, 14, 15, 16, 17, 18, 19, 20], [])])
def thalwegref02_Bytes.B5 : List Nat := [0, 0, 2, 6, 0, 16, 48, 0, 128, 384, 1008, 0, 2048, 6158, 0, 16384, 49152, 114688, 262143, 524287, 1048575, 2097151]
theorem thalwegref02_Bytes.tab5 : rtab .any (opsOf Try.f71 5) = thalwegref02_Bytes.T5 := by kernel_rfl
theorem thalwegref02_Bytes.bits5 : waitsOk thalwegref02_Bytes.T5.2 thalwegref02_Bytes.B5 = true := by kernel_rfl
theorem thalwegref02_Bytes.calls (k : Nat) (a0_0 : Bool) (a0_1 : Int) (a0_2 : Int) (a0_3 : Int) (a0_4 : Int) (a0_5 : Int) (r1 : List Int) (r2 : Int) (w : World) (h : thalwegref02_Bytes.f k a0_0 a0_1 a0_2 a0_3 a0_4 a0_5 = some (r1, r2)) :
  Calls Try.prog 71 #[.agg #[.bool a0_0, .int .i64 a0_1, .int .i64 a0_2, .int .i64 a0_3, .int .i64 a0_4, .int .i64 a0_5]] w fun e w' => ∃ v0_ : Value, e = .returned (.tuple #[v0_, .int .i64 r2]) ∧ Kd.R (Kd.int .u8) 5 w' w.heap.size (fun _ => True) v0_ r1 ∧ Below w.heap.size w w' := by
 have hu30 := Try.underlying30
 have HB := YL (Below.refl w.heap.size w)
 have H : ((thalwegref02_Right.f k a0_0 a0_1 a0_2 a0_3 a0_4 a0_5).bind fun t290 => (if t290 = true then (if a0_0 = true then (some ((([0, (a0_5) % 256] : List Int)), 0)) else ((thalwegref01_Int.f k a0_1).bind fun t297 => ((thalwegref01_Int.f k a0_4).bind fun t303 => ((thalwegref01_Both.f k (([(([1] : List Int)), t297, (([(a0_2) % 256, (a0_3) % 256] : List Int)), t303, (([(a0_5) % 256] : List Int))] : List (List Int)))).bind fun t312 => (some (t312, 0)))))) else (some (([] : List Int), 1)))) = some (r1, r2) := h
 clear h; replace H := Option.bind_eq_some_iff.mp H; obtain ⟨t290, A20, H⟩ := H
 replace H : (if t290 = true then (if a0_0 = true then (some ((([0, (a0_5) % 256] : List Int)), 0)) else ((thalwegref01_Int.f k a0_1).bind fun t297 => ((thalwegref01_Int.f k a0_4).bind fun t303 => ((thalwegref01_Both.f k (([(([1] : List Int)), t297, (([(a0_2) % 256, (a0_3) % 256] : List Int)), t303, (([(a0_5) % 256] : List Int))] : List (List Int)))).bind fun t312 => (some (t312, 0)))))) else (some (([] : List Int), 1))) = some (r1, r2) := H
 have A2 := YL A20; clear A20
 by_cases c3 : t290 = true
 ·subst c3
  have H1 : (if a0_0 = true then (some ((([0, (a0_5) % 256] : List Int)), 0)) else ((thalwegref01_Int.f k a0_1).bind fun t297 => ((thalwegref01_Int.f k a0_4).bind fun t303 => ((thalwegref01_Both.f k (([(([1] : List Int)), t297, (([(a0_2) % 256, (a0_3) % 256] : List Int)), t303, (([(a0_5) % 256] : List Int))] : List (List Int)))).bind fun t312 => (some (t312, 0)))))) = some (r1, r2) := by rw [if_pos rfl] at H; exact H
  clear H
  have H := H1
  clear H1
  by_cases c4 : a0_0 = true
  ·subst c4
   have H1 : (some ((([0, (a0_5) % 256] : List Int)), 0)) = some (r1, r2) := by rw [if_pos rfl] at H; exact H
   clear H
   have H := H1
   clear H1
   obtain ⟨y291, hy291⟩ : ∃ y_ : List Int, y_ = (([0, (a0_5) % 256] : List Int)) := ⟨_, rfl⟩
   replace H : (some (y291, 0)) = some (r1, r2) := by first | (rw [hy291]; with_reducible exact H) | (have H2_ := (Option.bind_some _ _).symm.trans H; rw [hy291]; with_reducible exact H2_) | (have H2_ := (Option.bind_some _ _).symm.trans H; with_reducible exact H2_) | with_reducible exact H | (rw [hy291]; exact H) | exact H
   have Ny291 := YL hy291; clear hy291
   simp only [Option.some.injEq, Prod.mk.injEq] at H
   obtain ⟨rfl, rfl⟩ := H
   go_enter Try.func71, Try.ntmps71
   go_wp2_with (first | ((with_reducible refine gate_dst (N := 1) rfl ?_); refine box_event ?hg (N := 1) ?hd (cs := #[.bool true, .int .i64 a0_1, .int .i64 a0_2, .int .i64 a0_3, .int .i64 a0_4, .int .i64 a0_5]) (t := 30) ?hr ?_; (case hd => rfl); (case hg => rfl); (case hr => first | (go_simp; done) | (go_simp; rfl)); intro gb289 hg w5 hbox hb; have n0_ := YL (YD (upB HB) hb); have n1_ := YL (hbox); have n2_ := YL ((by rw [hg]; exact (YE (upB HB)) : w.heap.size ≤ gb289)); have n3_ := YL ((by rw [hg]; exact (YE (upB HB)) : w.heap.size ≤ gb289)); clear HB; have HB := n0_; have BK289 := n1_; have GW289 := n2_; have GE289 := n3_; clear n0_ n1_ n2_ n3_; clear hb hbox hg; obtain ⟨q6_0, q6_1, q6_2, q6_3, q6_4, q6_5⟩ := cA6 BK289.out; obtain ⟨f6_0, f6_1, f6_2, f6_3, f6_4, f6_5⟩ := fA6 BK289.out) | ((with_reducible refine gate_callee (f := 59) rfl ?_); refine goesA (some 5) Try.func59 #[.agg #[.bool true, .int .i64 a0_1, .int .i64 a0_2, .int .i64 a0_3, .int .i64 a0_4, .int .i64 a0_5]] ?_; (with_reducible refine (thalwegref02_Right.calls k true a0_1 a0_2 a0_3 a0_4 a0_5 true _ A2.out).mono ?_); rintro e w7 ⟨rfl, hb⟩; refine ⟨_, rfl, ?_⟩; have n0_ := YL (YK (g := gb289) (o := .cells #[.bool true, .int .i64 a0_1, .int .i64 a0_2, .int .i64 a0_3, .int .i64 a0_4, .int .i64 a0_5] 30 (0, 0)) (upK BK289) hb); have n1_ := YL (YD (upB HB) hb); clear BK289; clear HB; have BK289 := n0_; have HB := n1_; clear n0_ n1_; (try clear hb); (try clear hb2); (try clear hk); (try clear hi); obtain ⟨q8_0, q8_1, q8_2, q8_3, q8_4, q8_5⟩ := cA6 BK289.out; obtain ⟨f8_0, f8_1, f8_2, f8_3, f8_4, f8_5⟩ := fA6 BK289.out) | ((with_reducible refine gate_dst (N := 12) rfl ?_); refine Kd.R_lit (Kd.int .u8) _ 5 ?hg (N := 12) ?hd (xs := ([0, (a0_5) % 256] : List Int)) (inner := [.int .u8 0, .int .u8 ((a0_5) % 256)]) (ok := fun _ => True) (okp := fun _ => True) ?hr ?hp (fun _ hk => hk) trivial (Below.refl _ _) (Nat.le_refl _) (by simp) ?_; (case hd => rfl); (case hg => rfl); (case hr => first | (go_simp; done) | (go_simp; rfl)); (case hp => exact (Reps.one (show Kd.M (Kd.int .u8) _ _ _ 0 [.int .u8 0] from rfl) (Reps.one (show Kd.M (Kd.int .u8) _ _ _ ((a0_5) % 256) [.int .u8 ((a0_5) % 256)] from rfl) (Reps.none _ _)))); intro v292 w9 ho10 hb hg_ hnew_; clear hg_ hnew_; (first | rw [← Ny291.out] at ho10 | (simp only [Int.reduceToNat] at ho10; rw [← Ny291.out] at ho10)); have n0_ := YL (Kd.R_lower ho10 (YE (upB HB))); have n1_ := YL (YK (g := gb289) (o := .cells #[.bool true, .int .i64 a0_1, .int .i64 a0_2, .int .i64 a0_3, .int .i64 a0_4, .int .i64 a0_5] 30 (0, 0)) (upK BK289) hb); have n2_ := YL (YD (upB HB) hb); clear BK289; clear HB; have HO293 := n0_; have BK289 := n1_; have HB := n2_; clear n0_ n1_ n2_; clear hb ho10))
   go_ret2
   exact ⟨_, by first | rfl | (simp [errW_none, errW_some] <;> rfl) | (simp [*, errW_none, errW_some] <;> rfl), by (with_reducible repeat (first | apply YQ | apply YR | apply YS)); exact HO293.out, by repeat (first | (with_reducible first | exact HB.out | apply YA | apply YB | apply YC | refine below_set ?_ GE289.out) | exact HB.out)⟩
  replace c4 := Bool.eq_false_iff.mpr c4
  subst c4
  have H1 : ((thalwegref01_Int.f k a0_1).bind fun t297 => ((thalwegref01_Int.f k a0_4).bind fun t303 => ((thalwegref01_Both.f k (([(([1] : List Int)), t297, (([(a0_2) % 256, (a0_3) % 256] : List Int)), t303, (([(a0_5) % 256] : List Int))] : List (List Int)))).bind fun t312 => (some (t312, 0))))) = some (r1, r2) := by rw [if_neg (show ¬ (false = true) by decide)] at H; exact H
  clear H
  have H := H1
  clear H1
  obtain ⟨y294, hy294⟩ : ∃ y_ : List Int, y_ = (([1] : List Int)) := ⟨_, rfl⟩
  replace H : ((thalwegref01_Int.f k a0_1).bind fun t297 => ((thalwegref01_Int.f k a0_4).bind fun t303 => ((thalwegref01_Both.f k (([y294, t297, (([(a0_2) % 256, (a0_3) % 256] : List Int)), t303, (([(a0_5) % 256] : List Int))] : List (List Int)))).bind fun t312 => (some (t312, 0))))) = some (r1, r2) := by first | (rw [hy294]; with_reducible exact H) | (have H2_ := (Option.bind_some _ _).symm.trans H; rw [hy294]; with_reducible exact H2_) | (have H2_ := (Option.bind_some _ _).symm.trans H; with_reducible exact H2_) | with_reducible exact H | (rw [hy294]; exact H) | exact H
  have Ny294 := YL hy294; clear hy294; replace H := Option.bind_eq_some_iff.mp H; obtain ⟨t297, A110, H⟩ := H
  replace H : ((thalwegref01_Int.f k a0_4).bind fun t303 => ((thalwegref01_Both.f k (([y294, t297, (([(a0_2) % 256, (a0_3) % 256] : List Int)), t303, (([(a0_5) % 256] : List Int))] : List (List Int)))).bind fun t312 => (some (t312, 0)))) = some (r1, r2) := H
  have A11 := YL A110; clear A110
  obtain ⟨y300, hy300⟩ : ∃ y_ : List Int, y_ = (([(a0_2) % 256, (a0_3) % 256] : List Int)) := ⟨_, rfl⟩
  replace H : ((thalwegref01_Int.f k a0_4).bind fun t303 => ((thalwegref01_Both.f k (([y294, t297, y300, t303, (([(a0_5) % 256] : List Int))] : List (List Int)))).bind fun t312 => (some (t312, 0)))) = some (r1, r2) := by first | (rw [hy300]; with_reducible exact H) | (have H2_ := (Option.bind_some _ _).symm.trans H; rw [hy300]; with_reducible exact H2_) | (have H2_ := (Option.bind_some _ _).symm.trans H; with_reducible exact H2_) | with_reducible exact H | (rw [hy300]; exact H) | exact H
  have Ny300 := YL hy300; clear hy300; replace H := Option.bind_eq_some_iff.mp H; obtain ⟨t303, A120, H⟩ := H
  replace H : ((thalwegref01_Both.f k (([y294, t297, y300, t303, (([(a0_5) % 256] : List Int))] : List (List Int)))).bind fun t312 => (some (t312, 0))) = some (r1, r2) := H
  have A12 := YL A120; clear A120
  obtain ⟨y306, hy306⟩ : ∃ y_ : List Int, y_ = (([(a0_5) % 256] : List Int)) := ⟨_, rfl⟩
  replace H : ((thalwegref01_Both.f k (([y294, t297, y300, t303, y306] : List (List Int)))).bind fun t312 => (some (t312, 0))) = some (r1, r2) := by first | (rw [hy306]; with_reducible exact H) | (have H2_ := (Option.bind_some _ _).symm.trans H; rw [hy306]; with_reducible exact H2_) | (have H2_ := (Option.bind_some _ _).symm.trans H; with_reducible exact H2_) | with_reducible exact H | (rw [hy306]; exact H) | exact H
  have Ny306 := YL hy306; clear hy306
  obtain ⟨y309, hy309⟩ : ∃ y_ : List (List Int), y_ = (([y294, t297, y300, t303, y306] : List (List Int))) := ⟨_, rfl⟩
  replace H : ((thalwegref01_Both.f k y309).bind fun t312 => (some (t312, 0))) = some (r1, r2) := by first | (rw [hy309]; with_reducible exact H) | (have H2_ := (Option.bind_some _ _).symm.trans H; rw [hy309]; with_reducible exact H2_) | (have H2_ := (Option.bind_some _ _).symm.trans H; with_reducible exact H2_) | with_reducible exact H | (rw [hy309]; exact H) | exact H
  have Ny309 := YL hy309; clear hy309; replace H := Option.bind_eq_some_iff.mp H; obtain ⟨t312, A130, H⟩ := H
  replace H : (some (t312, 0)) = some (r1, r2) := H
  have A13 := YL A130; clear A130
  simp only [Option.some.injEq, Prod.mk.injEq] at H
  obtain ⟨rfl, rfl⟩ := H
  go_enter Try.func71, Try.ntmps71
  try go_wp2_with (first | ((with_reducible refine gate_dst (N := 1) rfl ?_); refine box_event ?hg (N := 1) ?hd (cs := #[.bool false, .int .i64 a0_1, .int .i64 a0_2, .int .i64 a0_3, .int .i64 a0_4, .int .i64 a0_5]) (t := 30) ?hr ?_; (case hd => rfl); (case hg => rfl); (case hr => first | (go_simp; done) | (go_simp; rfl)); intro gb289 hg w14 hbox hb; have n0_ := YL (YD (upB HB) hb); have n1_ := YL (hbox); have n2_ := YL ((by rw [hg]; exact (YE (upB HB)) : w.heap.size ≤ gb289)); have n3_ := YL ((by rw [hg]; exact (YE (upB HB)) : w.heap.size ≤ gb289)); clear HB; have HB := n0_; have BK289 := n1_; have GW289 := n2_; have GE289 := n3_; clear n0_ n1_ n2_ n3_; clear hb hbox hg; obtain ⟨q15_0, q15_1, q15_2, q15_3, q15_4, q15_5⟩ := cA6 BK289.out; obtain ⟨f15_0, f15_1, f15_2, f15_3, f15_4, f15_5⟩ := fA6 BK289.out) | ((with_reducible refine gate_callee (f := 59) rfl ?_); refine goesA (some 5) Try.func59 #[.agg #[.bool false, .int .i64 a0_1, .int .i64 a0_2, .int .i64 a0_3, .int .i64 a0_4, .int .i64 a0_5]] ?_; (with_reducible refine (thalwegref02_Right.calls k false a0_1 a0_2 a0_3 a0_4 a0_5 true _ A2.out).mono ?_); rintro e w16 ⟨rfl, hb⟩; refine ⟨_, rfl, ?_⟩; have n0_ := YL (YK (g := gb289) (o := .cells #[.bool false, .int .i64 a0_1, .int .i64 a0_2, .int .i64 a0_3, .int .i64 a0_4, .int .i64 a0_5] 30 (0, 0)) (upK BK289) hb); have n1_ := YL (YD (upB HB) hb); clear BK289; clear HB; have BK289 := n0_; have HB := n1_; clear n0_ n1_; (try clear hb); (try clear hb2); (try clear hk); (try clear hi); obtain ⟨q17_0, q17_1, q17_2, q17_3, q17_4, q17_5⟩ := cA6 BK289.out; obtain ⟨f17_0, f17_1, f17_2, f17_3, f17_4, f17_5⟩ := fA6 BK289.out))
  have n0_ := YL (YG BK289.out)
  have n1_ := YL (YC HB.out)
  clear BK289; clear HB; have BK289 := n0_; have HB := n1_; clear n0_ n1_
  refine start_ (n := 22) (S := fun w' => True) (ds := []) #[false, false, false, false, false, false, false, false, false, false, false, false, false, false, false, false, false, false, false, false, false, false] (by kernel_rfl) rfl rfl trivial (fun hHeld => ?_); refine with_tabW thalwegref02_Bytes.tab5 thalwegref02_Bytes.bits5 (fun HT_ HW_ => ?_)
  generalize w16.drew = w18 at BK289 HB hHeld ⊢
  refine pure_ (i := 1) (N := some 14) (v := ?_) (a' := ?_) #[false, true, false, false, false, false, false, false, false, false, false, false, false, false, false, false, false, false, false, false, false, false] rfl rfl (any_of HT_.out (by kernel_rfl)) (fun _ _ _ h => h) (Or.inl ⟨by rfl, ?_⟩) ?_ ?_
  rotate_left
  ·intro w'
   go_simp; with_reducible rfl
  rotate_left
  ·simp only [Act.put, YM, YN, YO, i64_w, i32_w]
   rfl
  refine pure_ (i := 4) (N := some 17) (v := ?_) (a' := ?_) #[false, true, false, false, true, false, false, false, false, false, false, false, false, false, false, false, false, false, false, false, false, false] rfl rfl (any_of HT_.out (by kernel_rfl)) (fun _ _ _ h => h) (Or.inl ⟨by rfl, ?_⟩) ?_ ?_
  rotate_left
  ·intro w'
   go_simp; with_reducible rfl
  rotate_left
  ·simp only [Act.put, YM, YN, YO, i64_w, i32_w]
   rfl
  refine pure_ (i := 7) (N := some 20) (v := ?_) (a' := ?_) #[false, true, false, false, true, false, false, true, false, false, false, false, false, false, false, false, false, false, false, false, false, false] rfl rfl (any_of HT_.out (by kernel_rfl)) (fun _ _ _ h => h) (Or.inl ⟨by rfl, ?_⟩) ?_ ?_
  rotate_left
  ·intro w'
   go_simp; with_reducible rfl
  rotate_left
  ·simp only [Act.put, YM, YN, YO, i64_w, i32_w]
   rfl
  refine pure_ (i := 11) (N := some 24) (v := ?_) (a' := ?_) #[false, true, false, false, true, false, false, true, false, false, false, true, false, false, false, false, false, false, false, false, false, false] rfl rfl (any_of HT_.out (by kernel_rfl)) (fun _ _ _ h => h) (Or.inl ⟨by rfl, ?_⟩) ?_ ?_
  rotate_left
  ·intro w'
   go_simp; with_reducible rfl
  rotate_left
  ·simp only [Act.put, YM, YN, YO, i64_w, i32_w]
   rfl
  refine pure_ (i := 14) (N := some 27) (v := ?_) (a' := ?_) #[false, true, false, false, true, false, false, true, false, false, false, true, false, false, true, false, false, false, false, false, false, false] rfl rfl (any_of HT_.out (by kernel_rfl)) (fun _ _ _ h => h) (Or.inl ⟨by rfl, ?_⟩) ?_ ?_
  rotate_left
  ·intro w'
   go_simp; with_reducible rfl
  rotate_left
  ·simp only [Act.put, YM, YN, YO, i64_w, i32_w]
   rfl
  refine inv_at [0, 2, 3, 5, 6, 8, 9, 10, 12, 13, 15, 16, 17, 18, 19, 20, 21] (fun a0_ b a w' => ∃ (v295 : Value) (v298 : Value) (v301 : Value) (v304 : Value) (v307 : Value) (v310 : Value) (v313 : Value) (m20_ : Value), a = putSel a0_ b [(0, 13, v295), (2, 15, .int .i64 a0_1), (3, 16, v298), (5, 18, .int .i64 a0_2), (6, 19, .int .u8 ((a0_2) % 256)), (8, 21, .int .i64 a0_3), (9, 22, .int .u8 ((a0_3) % 256)), (10, 23, v301), (12, 25, .int .i64 a0_4), (13, 26, v304), (15, 28, .int .i64 a0_5), (16, 29, .int .u8 ((a0_5) % 256)), (17, 30, v307), (18, 31, v310), (19, 32, v313), (20, 2, m20_), (21, 3, .int .i64 0)] ∧ (w'.heap[gb289]? = some (.cells #[.bool false, .int .i64 a0_1, .int .i64 a0_2, .int .i64 a0_3, .int .i64 a0_4, .int .i64 a0_5] 30 (0, 0))) ∧ (Below w.heap.size w w') ∧ (b 0 = true → b 18 = false → Kd.R (Kd.int .u8) 5 w' w.heap.size (fun _ => True) v295 y294) ∧ (b 3 = true → b 18 = false → Kd.R (Kd.int .u8) 5 w' w.heap.size (fun _ => True) v298 t297) ∧ (b 10 = true → b 18 = false → Kd.R (Kd.int .u8) 5 w' w.heap.size (fun _ => True) v301 y300) ∧ (b 13 = true → b 18 = false → Kd.R (Kd.int .u8) 5 w' w.heap.size (fun _ => True) v304 t303) ∧ (b 17 = true → b 18 = false → Kd.R (Kd.int .u8) 5 w' w.heap.size (fun _ => True) v307 y306) ∧ (b 18 = true → Kd.N (Kd.slice 5 (Kd.int .u8)) 107 w' w.heap.size (fun k_ => k_ ≠ gb289) v310 y309) ∧ (b 19 = true → Kd.R (Kd.int .u8) 5 w' w.heap.size (fun _ => True) v313 t312) ∧ (b 20 = true → (m20_ : Value) = v313)) HT_.out HW_.out (by kernel_rfl) (by kernel_rfl) ?_ ?_ ?_
  ·exact ⟨.bool false, .bool false, .bool false, .bool false, .bool false, .bool false, .bool false, .bool false, by simp only [putSel, Bool.false_eq_true, if_false], BK289.out, HB.out, fun h_ => absurd h_ (by decide), fun h_ => absurd h_ (by decide), fun h_ => absurd h_ (by decide), fun h_ => absurd h_ (by decide), fun h_ => absurd h_ (by decide), fun h_ => absurd h_ (by decide), fun h_ => absurd h_ (by decide), fun h_ => absurd h_ (by decide)⟩
  ·skip
   clear BK289 HB
   refine steps_cons ?_ ?_
   ·rintro b a w' ⟨v295, v298, v301, v304, v307, v310, v313, m20_, ha, Q_BK289, Q_HB, Q_HO296, Q_HO299, Q_HO302, Q_HO305, Q_HO308, Q_HO311, Q_HO314, Q_X20_⟩ hb_ hon hoff
    refine ⟨_, rfl, fun K hK => ?_⟩
    replace ha := YL ha
    have BK289 := YL Q_BK289; have HB := YL Q_HB
    refine Kd.R_lit_step (Kd.int .u8) _ 5 ?hg (N := 13) ?hd (xs := ([1] : List Int)) (inner := [.int .u8 1]) (ok := fun _ => True) (okp := fun _ => True) ?hr ?hp (fun _ hk => hk) trivial (Below.refl _ _) (Nat.le_refl _) (by simp) ?_; (case hd => rfl); (case hg => rfl); (case hr => first | (go_simp; done) | (go_simp; rfl)); (case hp => exact (Reps.one (show Kd.M (Kd.int .u8) _ _ _ 1 [.int .u8 1] from rfl) (Reps.none _ _)))
    intro v295 w19 ho20 hb hg_ hnew_
    clear hg_ hnew_
    (first | rw [← Ny294.out] at ho20 | (simp only [Int.reduceToNat] at ho20; rw [← Ny294.out] at ho20))
    have n0_ := YL (Kd.R_lower ho20 (YE (upB HB)))
    have n1_ := YL (YK (g := gb289) (o := .cells #[.bool false, .int .i64 a0_1, .int .i64 a0_2, .int .i64 a0_3, .int .i64 a0_4, .int .i64 a0_5] 30 (0, 0)) (upK BK289) hb)
    have n2_ := YL (YD (upB HB) hb)
    have z_HO299 := fun (h0_ : b 3 = true) (h1_ : b 18 = false) => (show Kd.R (Kd.int .u8) 5 w19 w.heap.size (fun _ => True) v298 t297 from by first | exact (Kd.R_elder' (by (with_reducible repeat (first | apply YQ | apply YR | apply YS)); exact (Q_HO299 h0_ h1_)) (Kd.R_base ho20) hb) | exact Kd.R_mono (Kd.R_elder' (by (with_reducible repeat (first | apply YQ | apply YR | apply YS)); exact (Q_HO299 h0_ h1_)) (Kd.R_base ho20) hb) (fun _ h_ => by first | trivial | exact h_ | exact h_.1))
    have z_HO302 := fun (h0_ : b 10 = true) (h1_ : b 18 = false) => (show Kd.R (Kd.int .u8) 5 w19 w.heap.size (fun _ => True) v301 y300 from by first | exact (Kd.R_elder' (by (with_reducible repeat (first | apply YQ | apply YR | apply YS)); exact (Q_HO302 h0_ h1_)) (Kd.R_base ho20) hb) | exact Kd.R_mono (Kd.R_elder' (by (with_reducible repeat (first | apply YQ | apply YR | apply YS)); exact (Q_HO302 h0_ h1_)) (Kd.R_base ho20) hb) (fun _ h_ => by first | trivial | exact h_ | exact h_.1))
    have z_HO305 := fun (h0_ : b 13 = true) (h1_ : b 18 = false) => (show Kd.R (Kd.int .u8) 5 w19 w.heap.size (fun _ => True) v304 t303 from by first | exact (Kd.R_elder' (by (with_reducible repeat (first | apply YQ | apply YR | apply YS)); exact (Q_HO305 h0_ h1_)) (Kd.R_base ho20) hb) | exact Kd.R_mono (Kd.R_elder' (by (with_reducible repeat (first | apply YQ | apply YR | apply YS)); exact (Q_HO305 h0_ h1_)) (Kd.R_base ho20) hb) (fun _ h_ => by first | trivial | exact h_ | exact h_.1))
    have z_HO308 := fun (h0_ : b 17 = true) (h1_ : b 18 = false) => (show Kd.R (Kd.int .u8) 5 w19 w.heap.size (fun _ => True) v307 y306 from by first | exact (Kd.R_elder' (by (with_reducible repeat (first | apply YQ | apply YR | apply YS)); exact (Q_HO308 h0_ h1_)) (Kd.R_base ho20) hb) | exact Kd.R_mono (Kd.R_elder' (by (with_reducible repeat (first | apply YQ | apply YR | apply YS)); exact (Q_HO308 h0_ h1_)) (Kd.R_base ho20) hb) (fun _ h_ => by first | trivial | exact h_ | exact h_.1))
    clear BK289; clear HB; have HO296 := n0_; have BK289 := n1_; have HB := n2_; clear n0_ n1_ n2_; clear hb ho20
    refine hK.out _ _ ⟨v295, v298, v301, v304, v307, v310, v313, m20_, (by rw [ha.out]; exact putSel_upk 0 hb_ rfl rfl rfl), (upK BK289), (upB HB), fun _ _ => (upR HO296), z_HO299, z_HO302, z_HO305, z_HO308, fun h0_ => absurd ((hoff 18 (by kernel_rfl)).symm.trans h0_) (by decide), fun h0_ => absurd ((hoff 19 (by kernel_rfl)).symm.trans h0_) (by decide), fun h0_ => absurd ((hoff 20 (by kernel_rfl)).symm.trans h0_) (by decide)⟩
   refine steps_cons ?_ ?_
   ·rintro b a w' ⟨v295, v298, v301, v304, v307, v310, v313, m20_, ha, Q_BK289, Q_HB, Q_HO296, Q_HO299, Q_HO302, Q_HO305, Q_HO308, Q_HO311, Q_HO314, Q_X20_⟩ hb_ hon hoff
    refine ⟨_, rfl, fun K hK => ?_⟩
    have e14 : a.tmps[14]? = some (.pointer (some ⟨gb289, 1, none⟩)) := by rw [ha]; exact (putSel_off rfl).trans rfl
    replace ha := YL ha
    have BK289 := YL Q_BK289; have HB := YL Q_HB
    have hc0_ : w'.cell? ⟨gb289, 0, none⟩ = some (.bool false) := (YI BK289.out 0).trans rfl
    have hc1_ : w'.cell? ⟨gb289, 1, none⟩ = some (.int .i64 a0_1) := (YI BK289.out 1).trans rfl
    have hc2_ : w'.cell? ⟨gb289, 2, none⟩ = some (.int .i64 a0_2) := (YI BK289.out 2).trans rfl
    have hc3_ : w'.cell? ⟨gb289, 3, none⟩ = some (.int .i64 a0_3) := (YI BK289.out 3).trans rfl
    have hc4_ : w'.cell? ⟨gb289, 4, none⟩ = some (.int .i64 a0_4) := (YI BK289.out 4).trans rfl
    have hc5_ : w'.cell? ⟨gb289, 5, none⟩ = some (.int .i64 a0_5) := (YI BK289.out 5).trans rfl
    refine value_ (w1 := w') (v := .int .i64 a0_1) (by rfl) rfl ?_ ?_
    ·go_simp
     (try simp only [i64_w])
     try rfl
    refine hK.out _ _ ⟨v295, v298, v301, v304, v307, v310, v313, m20_, (by rw [ha.out]; exact putSel_upk 1 hb_ rfl rfl rfl), Q_BK289, Q_HB, Q_HO296, fun h0_ _ => absurd ((hoff 3 (by kernel_rfl)).symm.trans h0_) (by decide), Q_HO302, fun h0_ _ => absurd ((hoff 13 (by kernel_rfl)).symm.trans h0_) (by decide), Q_HO308, fun h0_ => absurd ((hoff 18 (by kernel_rfl)).symm.trans h0_) (by decide), fun h0_ => absurd ((hoff 19 (by kernel_rfl)).symm.trans h0_) (by decide), fun h0_ => absurd ((hoff 20 (by kernel_rfl)).symm.trans h0_) (by decide)⟩
   refine steps_cons ?_ ?_
   ·rintro b a w' ⟨v295, v298, v301, v304, v307, v310, v313, m20_, ha, Q_BK289, Q_HB, Q_HO296, Q_HO299, Q_HO302, Q_HO305, Q_HO308, Q_HO311, Q_HO314, Q_X20_⟩ hb_ hon hoff
    refine ⟨_, rfl, fun K hK => ?_⟩
    have e15 : a.tmps[15]? = some (.int .i64 a0_1) := by rw [ha]; exact putSel_on (e := (2, 15, .int .i64 a0_1)) 1 rfl rfl (hon 2 (by kernel_rfl)) rfl
    replace ha := YL ha
    have BK289 := YL Q_BK289; have HB := YL Q_HB
    refine goes_ Try.func72 (by kernel_rfl) rfl #[.int .i64 a0_1] (by rfl) rfl rfl (by first | (simp only [YP, List.map_cons, List.map_nil, Act.eval, Array.getD_eq_getD_getElem?, Option.getD_some, e15]; done) | (simp only [YP, List.map_cons, List.map_nil, Act.eval, Array.getD_eq_getD_getElem?, Option.getD_some, e15]; rfl)) ?_
    with_reducible refine (thalwegref01_Int.calls k a0_1 t297 _ A11.out).mono ?_
    rintro e w19 ⟨v298, rfl, ho0, hb⟩
    refine ⟨_, rfl, ?_⟩
    have n0_ := YL (Kd.R_lower ho0 (YE (upB HB)))
    have n1_ := YL (YK (g := gb289) (o := .cells #[.bool false, .int .i64 a0_1, .int .i64 a0_2, .int .i64 a0_3, .int .i64 a0_4, .int .i64 a0_5] 30 (0, 0)) (upK BK289) hb)
    have n2_ := YL (YD (upB HB) hb)
    have z_HO296 := fun (h0_ : b 0 = true) (h1_ : b 18 = false) => (show Kd.R (Kd.int .u8) 5 w19 w.heap.size (fun _ => True) v295 y294 from by first | exact (Kd.R_elder' (by (with_reducible repeat (first | apply YQ | apply YR | apply YS)); exact (Q_HO296 h0_ h1_)) (Kd.R_base ho0) hb) | exact Kd.R_mono (Kd.R_elder' (by (with_reducible repeat (first | apply YQ | apply YR | apply YS)); exact (Q_HO296 h0_ h1_)) (Kd.R_base ho0) hb) (fun _ h_ => by first | trivial | exact h_ | exact h_.1))
    have z_HO302 := fun (h0_ : b 10 = true) (h1_ : b 18 = false) => (show Kd.R (Kd.int .u8) 5 w19 w.heap.size (fun _ => True) v301 y300 from by first | exact (Kd.R_elder' (by (with_reducible repeat (first | apply YQ | apply YR | apply YS)); exact (Q_HO302 h0_ h1_)) (Kd.R_base ho0) hb) | exact Kd.R_mono (Kd.R_elder' (by (with_reducible repeat (first | apply YQ | apply YR | apply YS)); exact (Q_HO302 h0_ h1_)) (Kd.R_base ho0) hb) (fun _ h_ => by first | trivial | exact h_ | exact h_.1))
    have z_HO308 := fun (h0_ : b 17 = true) (h1_ : b 18 = false) => (show Kd.R (Kd.int .u8) 5 w19 w.heap.size (fun _ => True) v307 y306 from by first | exact (Kd.R_elder' (by (with_reducible repeat (first | apply YQ | apply YR | apply YS)); exact (Q_HO308 h0_ h1_)) (Kd.R_base ho0) hb) | exact Kd.R_mono (Kd.R_elder' (by (with_reducible repeat (first | apply YQ | apply YR | apply YS)); exact (Q_HO308 h0_ h1_)) (Kd.R_base ho0) hb) (fun _ h_ => by first | trivial | exact h_ | exact h_.1))
    clear BK289; clear HB; have HO299 := n0_; have BK289 := n1_; have HB := n2_; clear n0_ n1_ n2_; (try clear hb); (try clear hb2); (try clear hk); (try clear hi); (try clear ho0)
    refine hK.out _ _ ⟨v295, v298, v301, v304, v307, v310, v313, m20_, (by rw [ha.out]; exact putSel_upk 2 hb_ rfl rfl rfl), (upK BK289), (upB HB), z_HO296, fun _ _ => (upR HO299), z_HO302, fun h0_ _ => absurd ((hoff 13 (by kernel_rfl)).symm.trans h0_) (by decide), z_HO308, fun h0_ => absurd ((hoff 18 (by kernel_rfl)).symm.trans h0_) (by decide), fun h0_ => absurd ((hoff 19 (by kernel_rfl)).symm.trans h0_) (by decide), fun h0_ => absurd ((hoff 20 (by kernel_rfl)).symm.trans h0_) (by decide)⟩
   refine steps_cons ?_ ?_
   ·rintro b a w' ⟨v295, v298, v301, v304, v307, v310, v313, m20_, ha, Q_BK289, Q_HB, Q_HO296, Q_HO299, Q_HO302, Q_HO305, Q_HO308, Q_HO311, Q_HO314, Q_X20_⟩ hb_ hon hoff
    refine ⟨_, rfl, fun K hK => ?_⟩
    have e17 : a.tmps[17]? = some (.pointer (some ⟨gb289, 2, none⟩)) := by rw [ha]; exact (putSel_off rfl).trans rfl
    replace ha := YL ha
    have BK289 := YL Q_BK289; have HB := YL Q_HB
    have hc0_ : w'.cell? ⟨gb289, 0, none⟩ = some (.bool false) := (YI BK289.out 0).trans rfl
    have hc1_ : w'.cell? ⟨gb289, 1, none⟩ = some (.int .i64 a0_1) := (YI BK289.out 1).trans rfl
    have hc2_ : w'.cell? ⟨gb289, 2, none⟩ = some (.int .i64 a0_2) := (YI BK289.out 2).trans rfl
    have hc3_ : w'.cell? ⟨gb289, 3, none⟩ = some (.int .i64 a0_3) := (YI BK289.out 3).trans rfl
    have hc4_ : w'.cell? ⟨gb289, 4, none⟩ = some (.int .i64 a0_4) := (YI BK289.out 4).trans rfl
    have hc5_ : w'.cell? ⟨gb289, 5, none⟩ = some (.int .i64 a0_5) := (YI BK289.out 5).trans rfl
    refine value_ (w1 := w') (v := .int .i64 a0_2) (by rfl) rfl ?_ ?_
    ·go_simp
     (try simp only [i64_w])
     try rfl
    refine hK.out _ _ ⟨v295, v298, v301, v304, v307, v310, v313, m20_, (by rw [ha.out]; exact putSel_upk 3 hb_ rfl rfl rfl), Q_BK289, Q_HB, Q_HO296, Q_HO299, fun h0_ _ => absurd ((hoff 10 (by kernel_rfl)).symm.trans h0_) (by decide), Q_HO305, Q_HO308, fun h0_ => absurd ((hoff 18 (by kernel_rfl)).symm.trans h0_) (by decide), fun h0_ => absurd ((hoff 19 (by kernel_rfl)).symm.trans h0_) (by decide), fun h0_ => absurd ((hoff 20 (by kernel_rfl)).symm.trans h0_) (by decide)⟩
   refine steps_cons ?_ ?_
   ·rintro b a w' ⟨v295, v298, v301, v304, v307, v310, v313, m20_, ha, Q_BK289, Q_HB, Q_HO296, Q_HO299, Q_HO302, Q_HO305, Q_HO308, Q_HO311, Q_HO314, Q_X20_⟩ hb_ hon hoff
    refine ⟨_, rfl, fun K hK => ?_⟩
    have e18 : a.tmps[18]? = some (.int .i64 a0_2) := by rw [ha]; exact putSel_on (e := (5, 18, .int .i64 a0_2)) 3 rfl rfl (hon 5 (by kernel_rfl)) rfl
    replace ha := YL ha
    have BK289 := YL Q_BK289; have HB := YL Q_HB
    refine value_ (w1 := w') (v := .int .u8 ((a0_2) % 256)) (by rfl) rfl ?_ ?_
    ·go_simp
     (try simp only [i64_w])
     try rfl
    refine hK.out _ _ ⟨v295, v298, v301, v304, v307, v310, v313, m20_, (by rw [ha.out]; exact putSel_upk 4 hb_ rfl rfl rfl), Q_BK289, Q_HB, Q_HO296, Q_HO299, fun h0_ _ => absurd ((hoff 10 (by kernel_rfl)).symm.trans h0_) (by decide), Q_HO305, Q_HO308, fun h0_ => absurd ((hoff 18 (by kernel_rfl)).symm.trans h0_) (by decide), fun h0_ => absurd ((hoff 19 (by kernel_rfl)).symm.trans h0_) (by decide), fun h0_ => absurd ((hoff 20 (by kernel_rfl)).symm.trans h0_) (by decide)⟩
   refine steps_cons ?_ ?_
   ·rintro b a w' ⟨v295, v298, v301, v304, v307, v310, v313, m20_, ha, Q_BK289, Q_HB, Q_HO296, Q_HO299, Q_HO302, Q_HO305, Q_HO308, Q_HO311, Q_HO314, Q_X20_⟩ hb_ hon hoff
    refine ⟨_, rfl, fun K hK => ?_⟩
    have e20 : a.tmps[20]? = some (.pointer (some ⟨gb289, 3, none⟩)) := by rw [ha]; exact (putSel_off rfl).trans rfl
    replace ha := YL ha
    have BK289 := YL Q_BK289; have HB := YL Q_HB
    have hc0_ : w'.cell? ⟨gb289, 0, none⟩ = some (.bool false) := (YI BK289.out 0).trans rfl
    have hc1_ : w'.cell? ⟨gb289, 1, none⟩ = some (.int .i64 a0_1) := (YI BK289.out 1).trans rfl
    have hc2_ : w'.cell? ⟨gb289, 2, none⟩ = some (.int .i64 a0_2) := (YI BK289.out 2).trans rfl
    have hc3_ : w'.cell? ⟨gb289, 3, none⟩ = some (.int .i64 a0_3) := (YI BK289.out 3).trans rfl
    have hc4_ : w'.cell? ⟨gb289, 4, none⟩ = some (.int .i64 a0_4) := (YI BK289.out 4).trans rfl
    have hc5_ : w'.cell? ⟨gb289, 5, none⟩ = some (.int .i64 a0_5) := (YI BK289.out 5).trans rfl
    refine value_ (w1 := w') (v := .int .i64 a0_3) (by rfl) rfl ?_ ?_
    ·go_simp
     (try simp only [i64_w])
     try rfl
    refine hK.out _ _ ⟨v295, v298, v301, v304, v307, v310, v313, m20_, (by rw [ha.out]; exact putSel_upk 5 hb_ rfl rfl rfl), Q_BK289, Q_HB, Q_HO296, Q_HO299, fun h0_ _ => absurd ((hoff 10 (by kernel_rfl)).symm.trans h0_) (by decide), Q_HO305, Q_HO308, fun h0_ => absurd ((hoff 18 (by kernel_rfl)).symm.trans h0_) (by decide), fun h0_ => absurd ((hoff 19 (by kernel_rfl)).symm.trans h0_) (by decide), fun h0_ => absurd ((hoff 20 (by kernel_rfl)).symm.trans h0_) (by decide)⟩
   refine steps_cons ?_ ?_
   ·rintro b a w' ⟨v295, v298, v301, v304, v307, v310, v313, m20_, ha, Q_BK289, Q_HB, Q_HO296, Q_HO299, Q_HO302, Q_HO305, Q_HO308, Q_HO311, Q_HO314, Q_X20_⟩ hb_ hon hoff
    refine ⟨_, rfl, fun K hK => ?_⟩
    have e21 : a.tmps[21]? = some (.int .i64 a0_3) := by rw [ha]; exact putSel_on (e := (8, 21, .int .i64 a0_3)) 5 rfl rfl (hon 8 (by kernel_rfl)) rfl
    replace ha := YL ha
    have BK289 := YL Q_BK289; have HB := YL Q_HB
    refine value_ (w1 := w') (v := .int .u8 ((a0_3) % 256)) (by rfl) rfl ?_ ?_
    ·go_simp
     (try simp only [i64_w])
     try rfl
    refine hK.out _ _ ⟨v295, v298, v301, v304, v307, v310, v313, m20_, (by rw [ha.out]; exact putSel_upk 6 hb_ rfl rfl rfl), Q_BK289, Q_HB, Q_HO296, Q_HO299, fun h0_ _ => absurd ((hoff 10 (by kernel_rfl)).symm.trans h0_) (by decide), Q_HO305, Q_HO308, fun h0_ => absurd ((hoff 18 (by kernel_rfl)).symm.trans h0_) (by decide), fun h0_ => absurd ((hoff 19 (by kernel_rfl)).symm.trans h0_) (by decide), fun h0_ => absurd ((hoff 20 (by kernel_rfl)).symm.trans h0_) (by decide)⟩
   refine steps_cons ?_ ?_
   ·rintro b a w' ⟨v295, v298, v301, v304, v307, v310, v313, m20_, ha, Q_BK289, Q_HB, Q_HO296, Q_HO299, Q_HO302, Q_HO305, Q_HO308, Q_HO311, Q_HO314, Q_X20_⟩ hb_ hon hoff
    refine ⟨_, rfl, fun K hK => ?_⟩
    have e19 : a.tmps[19]? = some (.int .u8 ((a0_2) % 256)) := by rw [ha]; exact putSel_on (e := (6, 19, .int .u8 ((a0_2) % 256))) 4 rfl rfl (hon 6 (by kernel_rfl)) rfl
    have e22 : a.tmps[22]? = some (.int .u8 ((a0_3) % 256)) := by rw [ha]; exact putSel_on (e := (9, 22, .int .u8 ((a0_3) % 256))) 6 rfl rfl (hon 9 (by kernel_rfl)) rfl
    replace ha := YL ha
    have BK289 := YL Q_BK289; have HB := YL Q_HB
    refine Kd.R_lit_step (Kd.int .u8) _ 5 ?hg (N := 23) ?hd (xs := ([(a0_2) % 256, (a0_3) % 256] : List Int)) (inner := [.int .u8 ((a0_2) % 256), .int .u8 ((a0_3) % 256)]) (ok := fun _ => True) (okp := fun _ => True) ?hr ?hp (fun _ hk => hk) trivial (Below.refl _ _) (Nat.le_refl _) (by simp) ?_; (case hd => rfl); (case hg => rfl); (case hr => first | (go_simp; done) | (go_simp; rfl)); (case hp => exact (Reps.one (show Kd.M (Kd.int .u8) _ _ _ ((a0_2) % 256) [.int .u8 ((a0_2) % 256)] from rfl) (Reps.one (show Kd.M (Kd.int .u8) _ _ _ ((a0_3) % 256) [.int .u8 ((a0_3) % 256)] from rfl) (Reps.none _ _))))
    intro v301 w19 ho20 hb hg_ hnew_
    clear hg_ hnew_
    (first | rw [← Ny300.out] at ho20 | (simp only [Int.reduceToNat] at ho20; rw [← Ny300.out] at ho20))
    have n0_ := YL (Kd.R_lower ho20 (YE (upB HB)))
    have n1_ := YL (YK (g := gb289) (o := .cells #[.bool false, .int .i64 a0_1, .int .i64 a0_2, .int .i64 a0_3, .int .i64 a0_4, .int .i64 a0_5] 30 (0, 0)) (upK BK289) hb)
    have n2_ := YL (YD (upB HB) hb)
    have z_HO296 := fun (h0_ : b 0 = true) (h1_ : b 18 = false) => (show Kd.R (Kd.int .u8) 5 w19 w.heap.size (fun _ => True) v295 y294 from by first | exact (Kd.R_elder' (by (with_reducible repeat (first | apply YQ | apply YR | apply YS)); exact (Q_HO296 h0_ h1_)) (Kd.R_base ho20) hb) | exact Kd.R_mono (Kd.R_elder' (by (with_reducible repeat (first | apply YQ | apply YR | apply YS)); exact (Q_HO296 h0_ h1_)) (Kd.R_base ho20) hb) (fun _ h_ => by first | trivial | exact h_ | exact h_.1))
    have z_HO299 := fun (h0_ : b 3 = true) (h1_ : b 18 = false) => (show Kd.R (Kd.int .u8) 5 w19 w.heap.size (fun _ => True) v298 t297 from by first | exact (Kd.R_elder' (by (with_reducible repeat (first | apply YQ | apply YR | apply YS)); exact (Q_HO299 h0_ h1_)) (Kd.R_base ho20) hb) | exact Kd.R_mono (Kd.R_elder' (by (with_reducible repeat (first | apply YQ | apply YR | apply YS)); exact (Q_HO299 h0_ h1_)) (Kd.R_base ho20) hb) (fun _ h_ => by first | trivial | exact h_ | exact h_.1))
    have z_HO305 := fun (h0_ : b 13 = true) (h1_ : b 18 = false) => (show Kd.R (Kd.int .u8) 5 w19 w.heap.size (fun _ => True) v304 t303 from by first | exact (Kd.R_elder' (by (with_reducible repeat (first | apply YQ | apply YR | apply YS)); exact (Q_HO305 h0_ h1_)) (Kd.R_base ho20) hb) | exact Kd.R_mono (Kd.R_elder' (by (with_reducible repeat (first | apply YQ | apply YR | apply YS)); exact (Q_HO305 h0_ h1_)) (Kd.R_base ho20) hb) (fun _ h_ => by first | trivial | exact h_ | exact h_.1))
    have z_HO308 := fun (h0_ : b 17 = true) (h1_ : b 18 = false) => (show Kd.R (Kd.int .u8) 5 w19 w.heap.size (fun _ => True) v307 y306 from by first | exact (Kd.R_elder' (by (with_reducible repeat (first | apply YQ | apply YR | apply YS)); exact (Q_HO308 h0_ h1_)) (Kd.R_base ho20) hb) | exact Kd.R_mono (Kd.R_elder' (by (with_reducible repeat (first | apply YQ | apply YR | apply YS)); exact (Q_HO308 h0_ h1_)) (Kd.R_base ho20) hb) (fun _ h_ => by first | trivial | exact h_ | exact h_.1))
    clear BK289; clear HB; have HO302 := n0_; have BK289 := n1_; have HB := n2_; clear n0_ n1_ n2_; clear hb ho20
    refine hK.out _ _ ⟨v295, v298, v301, v304, v307, v310, v313, m20_, (by rw [ha.out]; exact putSel_upk 7 hb_ rfl rfl rfl), (upK BK289), (upB HB), z_HO296, z_HO299, fun _ _ => (upR HO302), z_HO305, z_HO308, fun h0_ => absurd ((hoff 18 (by kernel_rfl)).symm.trans h0_) (by decide), fun h0_ => absurd ((hoff 19 (by kernel_rfl)).symm.trans h0_) (by decide), fun h0_ => absurd ((hoff 20 (by kernel_rfl)).symm.trans h0_) (by decide)⟩
   refine steps_cons ?_ ?_
   ·rintro b a w' ⟨v295, v298, v301, v304, v307, v310, v313, m20_, ha, Q_BK289, Q_HB, Q_HO296, Q_HO299, Q_HO302, Q_HO305, Q_HO308, Q_HO311, Q_HO314, Q_X20_⟩ hb_ hon hoff
    refine ⟨_, rfl, fun K hK => ?_⟩
    have e24 : a.tmps[24]? = some (.pointer (some ⟨gb289, 4, none⟩)) := by rw [ha]; exact (putSel_off rfl).trans rfl
    replace ha := YL ha
    have BK289 := YL Q_BK289; have HB := YL Q_HB
    have hc0_ : w'.cell? ⟨gb289, 0, none⟩ = some (.bool false) := (YI BK289.out 0).trans rfl
    have hc1_ : w'.cell? ⟨gb289, 1, none⟩ = some (.int .i64 a0_1) := (YI BK289.out 1).trans rfl
    have hc2_ : w'.cell? ⟨gb289, 2, none⟩ = some (.int .i64 a0_2) := (YI BK289.out 2).trans rfl
    have hc3_ : w'.cell? ⟨gb289, 3, none⟩ = some (.int .i64 a0_3) := (YI BK289.out 3).trans rfl
    have hc4_ : w'.cell? ⟨gb289, 4, none⟩ = some (.int .i64 a0_4) := (YI BK289.out 4).trans rfl
    have hc5_ : w'.cell? ⟨gb289, 5, none⟩ = some (.int .i64 a0_5) := (YI BK289.out 5).trans rfl
    refine value_ (w1 := w') (v := .int .i64 a0_4) (by rfl) rfl ?_ ?_
    ·go_simp
     (try simp only [i64_w])
     try rfl
    refine hK.out _ _ ⟨v295, v298, v301, v304, v307, v310, v313, m20_, (by rw [ha.out]; exact putSel_upk 8 hb_ rfl rfl rfl), Q_BK289, Q_HB, Q_HO296, Q_HO299, Q_HO302, fun h0_ _ => absurd ((hoff 13 (by kernel_rfl)).symm.trans h0_) (by decide), Q_HO308, fun h0_ => absurd ((hoff 18 (by kernel_rfl)).symm.trans h0_) (by decide), fun h0_ => absurd ((hoff 19 (by kernel_rfl)).symm.trans h0_) (by decide), fun h0_ => absurd ((hoff 20 (by kernel_rfl)).symm.trans h0_) (by decide)⟩
   refine steps_cons ?_ ?_
   ·rintro b a w' ⟨v295, v298, v301, v304, v307, v310, v313, m20_, ha, Q_BK289, Q_HB, Q_HO296, Q_HO299, Q_HO302, Q_HO305, Q_HO308, Q_HO311, Q_HO314, Q_X20_⟩ hb_ hon hoff
    refine ⟨_, rfl, fun K hK => ?_⟩
    have e25 : a.tmps[25]? = some (.int .i64 a0_4) := by rw [ha]; exact putSel_on (e := (12, 25, .int .i64 a0_4)) 8 rfl rfl (hon 12 (by kernel_rfl)) rfl
    replace ha := YL ha
    have BK289 := YL Q_BK289; have HB := YL Q_HB
    have HO299 := YL (Q_HO299 (hon 3 (by kernel_rfl)) (hoff 18 (by kernel_rfl)))
    refine goes_ Try.func72 (by kernel_rfl) rfl #[.int .i64 a0_4] (by rfl) rfl rfl (by first | (simp only [YP, List.map_cons, List.map_nil, Act.eval, Array.getD_eq_getD_getElem?, Option.getD_some, e25]; done) | (simp only [YP, List.map_cons, List.map_nil, Act.eval, Array.getD_eq_getD_getElem?, Option.getD_some, e25]; rfl)) ?_
    with_reducible refine (thalwegref01_Int.calls k a0_4 t303 _ A12.out).mono ?_
    rintro e w21 ⟨v304, rfl, ho0, hb⟩
    refine ⟨_, rfl, ?_⟩
    have n0_ := YL (Kd.R_elder' (upR HO299) (Kd.R_base ho0) hb)
    have n1_ := YL (Kd.R_lower (Kd.R_new' ho0 (Kd.R_lt (upR HO299))) (YE (upB HB)))
    have n2_ := YL (YK (g := gb289) (o := .cells #[.bool false, .int .i64 a0_1, .int .i64 a0_2, .int .i64 a0_3, .int .i64 a0_4, .int .i64 a0_5] 30 (0, 0)) (upK BK289) hb)
    have n3_ := YL (YD (upB HB) hb)
    have z_HO296 := fun (h0_ : b 0 = true) (h1_ : b 18 = false) => (show Kd.R (Kd.int .u8) 5 w21 w.heap.size (fun _ => True) v295 y294 from by first | exact (Kd.R_elder' (by (with_reducible repeat (first | apply YQ | apply YR | apply YS)); exact (Q_HO296 h0_ h1_)) (Kd.R_base ho0) hb) | exact Kd.R_mono (Kd.R_elder' (by (with_reducible repeat (first | apply YQ | apply YR | apply YS)); exact (Q_HO296 h0_ h1_)) (Kd.R_base ho0) hb) (fun _ h_ => by first | trivial | exact h_ | exact h_.1))
    have z_HO302 := fun (h0_ : b 10 = true) (h1_ : b 18 = false) => (show Kd.R (Kd.int .u8) 5 w21 w.heap.size (fun _ => True) v301 y300 from by first | exact (Kd.R_elder' (by (with_reducible repeat (first | apply YQ | apply YR | apply YS)); exact (Q_HO302 h0_ h1_)) (Kd.R_base ho0) hb) | exact Kd.R_mono (Kd.R_elder' (by (with_reducible repeat (first | apply YQ | apply YR | apply YS)); exact (Q_HO302 h0_ h1_)) (Kd.R_base ho0) hb) (fun _ h_ => by first | trivial | exact h_ | exact h_.1))
    have z_HO308 := fun (h0_ : b 17 = true) (h1_ : b 18 = false) => (show Kd.R (Kd.int .u8) 5 w21 w.heap.size (fun _ => True) v307 y306 from by first | exact (Kd.R_elder' (by (with_reducible repeat (first | apply YQ | apply YR | apply YS)); exact (Q_HO308 h0_ h1_)) (Kd.R_base ho0) hb) | exact Kd.R_mono (Kd.R_elder' (by (with_reducible repeat (first | apply YQ | apply YR | apply YS)); exact (Q_HO308 h0_ h1_)) (Kd.R_base ho0) hb) (fun _ h_ => by first | trivial | exact h_ | exact h_.1))
    clear HO299; clear BK289; clear HB; have HO299 := n0_; have HO305 := n1_; have BK289 := n2_; have HB := n3_; clear n0_ n1_ n2_ n3_; (try clear hb); (try clear hb2); (try clear hk); (try clear hi); (try clear ho0)
    refine hK.out _ _ ⟨v295, v298, v301, v304, v307, v310, v313, m20_, (by rw [ha.out]; exact putSel_upk 9 hb_ rfl rfl rfl), (upK BK289), (upB HB), z_HO296, fun _ _ => (by (with_reducible repeat (first | apply YQ | apply YR | apply YS)); exact Kd.R_mono HO299.out (fun _ hk => by first | exact hk.2 | exact trivial | (simp [hk]; done) | simp_all)), z_HO302, fun _ _ => (by (with_reducible repeat (first | apply YQ | apply YR | apply YS)); exact Kd.R_mono HO305.out (fun _ hk => by first | exact hk.2 | exact trivial | (simp [hk]; done) | simp_all)), z_HO308, fun h0_ => absurd ((hoff 18 (by kernel_rfl)).symm.trans h0_) (by decide), fun h0_ => absurd ((hoff 19 (by kernel_rfl)).symm.trans h0_) (by decide), fun h0_ => absurd ((hoff 20 (by kernel_rfl)).symm.trans h0_) (by decide)⟩
   refine steps_cons ?_ ?_
   ·rintro b a w' ⟨v295, v298, v301, v304, v307, v310, v313, m20_, ha, Q_BK289, Q_HB, Q_HO296, Q_HO299, Q_HO302, Q_HO305, Q_HO308, Q_HO311, Q_HO314, Q_X20_⟩ hb_ hon hoff
    refine ⟨_, rfl, fun K hK => ?_⟩
    have e27 : a.tmps[27]? = some (.pointer (some ⟨gb289, 5, none⟩)) := by rw [ha]; exact (putSel_off rfl).trans rfl
    replace ha := YL ha
    have BK289 := YL Q_BK289; have HB := YL Q_HB
    have hc0_ : w'.cell? ⟨gb289, 0, none⟩ = some (.bool false) := (YI BK289.out 0).trans rfl
    have hc1_ : w'.cell? ⟨gb289, 1, none⟩ = some (.int .i64 a0_1) := (YI BK289.out 1).trans rfl
    have hc2_ : w'.cell? ⟨gb289, 2, none⟩ = some (.int .i64 a0_2) := (YI BK289.out 2).trans rfl
    have hc3_ : w'.cell? ⟨gb289, 3, none⟩ = some (.int .i64 a0_3) := (YI BK289.out 3).trans rfl
    have hc4_ : w'.cell? ⟨gb289, 4, none⟩ = some (.int .i64 a0_4) := (YI BK289.out 4).trans rfl
    have hc5_ : w'.cell? ⟨gb289, 5, none⟩ = some (.int .i64 a0_5) := (YI BK289.out 5).trans rfl
    refine value_ (w1 := w') (v := .int .i64 a0_5) (by rfl) rfl ?_ ?_
    ·go_simp
     (try simp only [i64_w])
     try rfl
    refine hK.out _ _ ⟨v295, v298, v301, v304, v307, v310, v313, m20_, (by rw [ha.out]; exact putSel_upk 10 hb_ rfl rfl rfl), Q_BK289, Q_HB, Q_HO296, Q_HO299, Q_HO302, Q_HO305, fun h0_ _ => absurd ((hoff 17 (by kernel_rfl)).symm.trans h0_) (by decide), fun h0_ => absurd ((hoff 18 (by kernel_rfl)).symm.trans h0_) (by decide), fun h0_ => absurd ((hoff 19 (by kernel_rfl)).symm.trans h0_) (by decide), fun h0_ => absurd ((hoff 20 (by kernel_rfl)).symm.trans h0_) (by decide)⟩
   refine steps_cons ?_ ?_
   ·rintro b a w' ⟨v295, v298, v301, v304, v307, v310, v313, m20_, ha, Q_BK289, Q_HB, Q_HO296, Q_HO299, Q_HO302, Q_HO305, Q_HO308, Q_HO311, Q_HO314, Q_X20_⟩ hb_ hon hoff
    refine ⟨_, rfl, fun K hK => ?_⟩
    have e28 : a.tmps[28]? = some (.int .i64 a0_5) := by rw [ha]; exact putSel_on (e := (15, 28, .int .i64 a0_5)) 10 rfl rfl (hon 15 (by kernel_rfl)) rfl
    replace ha := YL ha
    have BK289 := YL Q_BK289; have HB := YL Q_HB
    refine value_ (w1 := w') (v := .int .u8 ((a0_5) % 256)) (by rfl) rfl ?_ ?_
    ·go_simp
     (try simp only [i64_w])
     try rfl
    refine hK.out _ _ ⟨v295, v298, v301, v304, v307, v310, v313, m20_, (by rw [ha.out]; exact putSel_upk 11 hb_ rfl rfl rfl), Q_BK289, Q_HB, Q_HO296, Q_HO299, Q_HO302, Q_HO305, fun h0_ _ => absurd ((hoff 17 (by kernel_rfl)).symm.trans h0_) (by decide), fun h0_ => absurd ((hoff 18 (by kernel_rfl)).symm.trans h0_) (by decide), fun h0_ => absurd ((hoff 19 (by kernel_rfl)).symm.trans h0_) (by decide), fun h0_ => absurd ((hoff 20 (by kernel_rfl)).symm.trans h0_) (by decide)⟩
   refine steps_cons ?_ ?_
   ·rintro b a w' ⟨v295, v298, v301, v304, v307, v310, v313, m20_, ha, Q_BK289, Q_HB, Q_HO296, Q_HO299, Q_HO302, Q_HO305, Q_HO308, Q_HO311, Q_HO314, Q_X20_⟩ hb_ hon hoff
    refine ⟨_, rfl, fun K hK => ?_⟩
    have e29 : a.tmps[29]? = some (.int .u8 ((a0_5) % 256)) := by rw [ha]; exact putSel_on (e := (16, 29, .int .u8 ((a0_5) % 256))) 11 rfl rfl (hon 16 (by kernel_rfl)) rfl
    replace ha := YL ha
    have BK289 := YL Q_BK289; have HB := YL Q_HB
    refine Kd.R_lit_step (Kd.int .u8) _ 5 ?hg (N := 30) ?hd (xs := ([(a0_5) % 256] : List Int)) (inner := [.int .u8 ((a0_5) % 256)]) (ok := fun _ => True) (okp := fun _ => True) ?hr ?hp (fun _ hk => hk) trivial (Below.refl _ _) (Nat.le_refl _) (by simp) ?_; (case hd => rfl); (case hg => rfl); (case hr => first | (go_simp; done) | (go_simp; rfl)); (case hp => exact (Reps.one (show Kd.M (Kd.int .u8) _ _ _ ((a0_5) % 256) [.int .u8 ((a0_5) % 256)] from rfl) (Reps.none _ _)))
    intro v307 w19 ho20 hb hg_ hnew_
    clear hg_ hnew_
    (first | rw [← Ny306.out] at ho20 | (simp only [Int.reduceToNat] at ho20; rw [← Ny306.out] at ho20))
    have n0_ := YL (Kd.R_lower ho20 (YE (upB HB)))
    have n1_ := YL (YK (g := gb289) (o := .cells #[.bool false, .int .i64 a0_1, .int .i64 a0_2, .int .i64 a0_3, .int .i64 a0_4, .int .i64 a0_5] 30 (0, 0)) (upK BK289) hb)
    have n2_ := YL (YD (upB HB) hb)
    have z_HO296 := fun (h0_ : b 0 = true) (h1_ : b 18 = false) => (show Kd.R (Kd.int .u8) 5 w19 w.heap.size (fun _ => True) v295 y294 from by first | exact (Kd.R_elder' (by (with_reducible repeat (first | apply YQ | apply YR | apply YS)); exact (Q_HO296 h0_ h1_)) (Kd.R_base ho20) hb) | exact Kd.R_mono (Kd.R_elder' (by (with_reducible repeat (first | apply YQ | apply YR | apply YS)); exact (Q_HO296 h0_ h1_)) (Kd.R_base ho20) hb) (fun _ h_ => by first | trivial | exact h_ | exact h_.1))
    have z_HO299 := fun (h0_ : b 3 = true) (h1_ : b 18 = false) => (show Kd.R (Kd.int .u8) 5 w19 w.heap.size (fun _ => True) v298 t297 from by first | exact (Kd.R_elder' (by (with_reducible repeat (first | apply YQ | apply YR | apply YS)); exact (Q_HO299 h0_ h1_)) (Kd.R_base ho20) hb) | exact Kd.R_mono (Kd.R_elder' (by (with_reducible repeat (first | apply YQ | apply YR | apply YS)); exact (Q_HO299 h0_ h1_)) (Kd.R_base ho20) hb) (fun _ h_ => by first | trivial | exact h_ | exact h_.1))
    have z_HO302 := fun (h0_ : b 10 = true) (h1_ : b 18 = false) => (show Kd.R (Kd.int .u8) 5 w19 w.heap.size (fun _ => True) v301 y300 from by first | exact (Kd.R_elder' (by (with_reducible repeat (first | apply YQ | apply YR | apply YS)); exact (Q_HO302 h0_ h1_)) (Kd.R_base ho20) hb) | exact Kd.R_mono (Kd.R_elder' (by (with_reducible repeat (first | apply YQ | apply YR | apply YS)); exact (Q_HO302 h0_ h1_)) (Kd.R_base ho20) hb) (fun _ h_ => by first | trivial | exact h_ | exact h_.1))
    have z_HO305 := fun (h0_ : b 13 = true) (h1_ : b 18 = false) => (show Kd.R (Kd.int .u8) 5 w19 w.heap.size (fun _ => True) v304 t303 from by first | exact (Kd.R_elder' (by (with_reducible repeat (first | apply YQ | apply YR | apply YS)); exact (Q_HO305 h0_ h1_)) (Kd.R_base ho20) hb) | exact Kd.R_mono (Kd.R_elder' (by (with_reducible repeat (first | apply YQ | apply YR | apply YS)); exact (Q_HO305 h0_ h1_)) (Kd.R_base ho20) hb) (fun _ h_ => by first | trivial | exact h_ | exact h_.1))
    clear BK289; clear HB; have HO308 := n0_; have BK289 := n1_; have HB := n2_; clear n0_ n1_ n2_; clear hb ho20
    refine hK.out _ _ ⟨v295, v298, v301, v304, v307, v310, v313, m20_, (by rw [ha.out]; exact putSel_upk 12 hb_ rfl rfl rfl), (upK BK289), (upB HB), z_HO296, z_HO299, z_HO302, z_HO305, fun _ _ => (upR HO308), fun h0_ => absurd ((hoff 18 (by kernel_rfl)).symm.trans h0_) (by decide), fun h0_ => absurd ((hoff 19 (by kernel_rfl)).symm.trans h0_) (by decide), fun h0_ => absurd ((hoff 20 (by kernel_rfl)).symm.trans h0_) (by decide)⟩
   refine steps_cons ?_ ?_
   ·rintro b a w' ⟨v295, v298, v301, v304, v307, v310, v313, m20_, ha, Q_BK289, Q_HB, Q_HO296, Q_HO299, Q_HO302, Q_HO305, Q_HO308, Q_HO311, Q_HO314, Q_X20_⟩ hb_ hon hoff
    refine ⟨_, rfl, fun K hK => ?_⟩
    have e13 : a.tmps[13]? = some (v295) := by rw [ha]; exact putSel_on (e := (0, 13, v295)) 0 rfl rfl (hon 0 (by kernel_rfl)) rfl
    have e16 : a.tmps[16]? = some (v298) := by rw [ha]; exact putSel_on (e := (3, 16, v298)) 2 rfl rfl (hon 3 (by kernel_rfl)) rfl
    have e23 : a.tmps[23]? = some (v301) := by rw [ha]; exact putSel_on (e := (10, 23, v301)) 7 rfl rfl (hon 10 (by kernel_rfl)) rfl
    have e26 : a.tmps[26]? = some (v304) := by rw [ha]; exact putSel_on (e := (13, 26, v304)) 9 rfl rfl (hon 13 (by kernel_rfl)) rfl
    have e30 : a.tmps[30]? = some (v307) := by rw [ha]; exact putSel_on (e := (17, 30, v307)) 12 rfl rfl (hon 17 (by kernel_rfl)) rfl
    replace ha := YL ha
    have BK289 := YL Q_BK289; have HB := YL Q_HB
    have HO296 := YL (Q_HO296 (hon 0 (by kernel_rfl)) hb_)
    have HO299 := YL (Q_HO299 (hon 3 (by kernel_rfl)) hb_)
    have HO302 := YL (Q_HO302 (hon 10 (by kernel_rfl)) hb_)
    have HO305 := YL (Q_HO305 (hon 13 (by kernel_rfl)) hb_)
    have HO308 := YL (Q_HO308 (hon 17 (by kernel_rfl)) hb_)
    obtain ⟨Ao28, co28, eo28⟩ := Kd.R_slice HO296.out
    (first | subst eo28 | (injection eo28 with f1_ f2_ f3_; have f4_ := f1_.symm; have f5_ := f3_.symm; clear f1_ f2_ f3_; subst f4_; subst f5_))
    obtain ⟨Ao29, co29, eo29⟩ := Kd.R_slice HO299.out
    (first | subst eo29 | (injection eo29 with f1_ f2_ f3_; have f4_ := f1_.symm; have f5_ := f3_.symm; clear f1_ f2_ f3_; subst f4_; subst f5_))
    obtain ⟨Ao30, co30, eo30⟩ := Kd.R_slice HO302.out
    (first | subst eo30 | (injection eo30 with f1_ f2_ f3_; have f4_ := f1_.symm; have f5_ := f3_.symm; clear f1_ f2_ f3_; subst f4_; subst f5_))
    obtain ⟨Ao31, co31, eo31⟩ := Kd.R_slice HO305.out
    (first | subst eo31 | (injection eo31 with f1_ f2_ f3_; have f4_ := f1_.symm; have f5_ := f3_.symm; clear f1_ f2_ f3_; subst f4_; subst f5_))
    obtain ⟨Ao32, co32, eo32⟩ := Kd.R_slice HO308.out
    (first | subst eo32 | (injection eo32 with f1_ f2_ f3_; have f4_ := f1_.symm; have f5_ := f3_.symm; clear f1_ f2_ f3_; subst f4_; subst f5_))
    refine Kd.N_lit_step (Kd.slice 5 (Kd.int .u8)) _ 107 ?hg (N' := 31) ?hd (xs := ([y294, t297, y300, t303, y306] : List (List Int))) (inner := [.slice Ao28 y294.length co28, .slice Ao29 t297.length co29, .slice Ao30 y300.length co30, .slice Ao31 t303.length co31, .slice Ao32 y306.length co32]) (ok := (fun k_ => k_ ≠ gb289)) (okp := (fun k_ => k_ ≠ gb289)) ?hr ?hp (fun _ hk => hk) ((show ∀ k_, w'.heap.size ≤ k_ → (fun k_ => k_ ≠ gb289) k_ from fun k_ hk => Kd.freshB (g := gb289) (o := .cells #[.bool false, .int .i64 a0_1, .int .i64 a0_2, .int .i64 a0_3, .int .i64 a0_4, .int .i64 a0_5] 30 (0, 0)) (upK BK289) k_ hk) _ (Nat.le_refl _)) (Below.refl _ _) (Nat.le_refl _) (by simp) ?_; (case hd => rfl); (case hg => rfl); (case hr => first | (go_simp; done) | (go_simp; rfl)); (case hp => exact (Reps.one (show Kd.FK (Kd.slice 5 (Kd.int .u8)) _ _ y294 [.slice Ao28 y294.length co28] from (Kd.FK_slice_mk (Kd.R_reads' (Kd.R_mono (ok' := (fun k_ => k_ ≠ gb289)) (Kd.R_types (HO296.out) BK289.out (by decide)) (fun k_ hk => hk.2))).2.1 (Kd.R_F (Kd.R_mono (ok' := (fun k_ => k_ ≠ gb289)) (Kd.R_types (HO296.out) BK289.out (by decide)) (fun k_ hk => hk.2))))) (Reps.one (show Kd.FK (Kd.slice 5 (Kd.int .u8)) _ _ t297 [.slice Ao29 t297.length co29] from (Kd.FK_slice_mk (Kd.R_reads' (Kd.R_mono (ok' := (fun k_ => k_ ≠ gb289)) (Kd.R_types (HO299.out) BK289.out (by decide)) (fun k_ hk => hk.2))).2.1 (Kd.R_F (Kd.R_mono (ok' := (fun k_ => k_ ≠ gb289)) (Kd.R_types (HO299.out) BK289.out (by decide)) (fun k_ hk => hk.2))))) (Reps.one (show Kd.FK (Kd.slice 5 (Kd.int .u8)) _ _ y300 [.slice Ao30 y300.length co30] from (Kd.FK_slice_mk (Kd.R_reads' (Kd.R_mono (ok' := (fun k_ => k_ ≠ gb289)) (Kd.R_types (HO302.out) BK289.out (by decide)) (fun k_ hk => hk.2))).2.1 (Kd.R_F (Kd.R_mono (ok' := (fun k_ => k_ ≠ gb289)) (Kd.R_types (HO302.out) BK289.out (by decide)) (fun k_ hk => hk.2))))) (Reps.one (show Kd.FK (Kd.slice 5 (Kd.int .u8)) _ _ t303 [.slice Ao31 t303.length co31] from (Kd.FK_slice_mk (Kd.R_reads' (Kd.R_mono (ok' := (fun k_ => k_ ≠ gb289)) (Kd.R_types (HO305.out) BK289.out (by decide)) (fun k_ hk => hk.2))).2.1 (Kd.R_F (Kd.R_mono (ok' := (fun k_ => k_ ≠ gb289)) (Kd.R_types (HO305.out) BK289.out (by decide)) (fun k_ hk => hk.2))))) (Reps.one (show Kd.FK (Kd.slice 5 (Kd.int .u8)) _ _ y306 [.slice Ao32 y306.length co32] from (Kd.FK_slice_mk (Kd.R_reads' (Kd.R_mono (ok' := (fun k_ => k_ ≠ gb289)) (Kd.R_types (HO308.out) BK289.out (by decide)) (fun k_ hk => hk.2))).2.1 (Kd.R_F (Kd.R_mono (ok' := (fun k_ => k_ ≠ gb289)) (Kd.R_types (HO308.out) BK289.out (by decide)) (fun k_ hk => hk.2))))) (Reps.none _ _)))))))
    intro v310 w33 ho34 hb hg_ hnew_
    clear hg_ hnew_
    (first | rw [← Ny309.out] at ho34 | (simp only [Int.reduceToNat] at ho34; rw [← Ny309.out] at ho34))
    have n0_ := YL (Kd.N_lower ho34 (YE (upB HB)))
    have n1_ := YL (YK (g := gb289) (o := .cells #[.bool false, .int .i64 a0_1, .int .i64 a0_2, .int .i64 a0_3, .int .i64 a0_4, .int .i64 a0_5] 30 (0, 0)) (upK BK289) hb)
    have n2_ := YL (YD (upB HB) hb)
    clear BK289; clear HB; clear HO296; clear HO299; clear HO302; clear HO305; clear HO308; have HO311 := n0_; have BK289 := n1_; have HB := n2_; clear n0_ n1_ n2_; clear hb ho34
    refine hK.out _ _ ⟨.slice Ao28 y294.length co28, .slice Ao29 t297.length co29, .slice Ao30 y300.length co30, .slice Ao31 t303.length co31, .slice Ao32 y306.length co32, v310, v313, m20_, (by rw [ha.out]; exact putSel_upk 13 hb_ rfl rfl rfl), (upK BK289), (upB HB), fun _ h1_ => absurd ((up_self b 18).symm.trans h1_) (by decide), fun _ h1_ => absurd ((up_self b 18).symm.trans h1_) (by decide), fun _ h1_ => absurd ((up_self b 18).symm.trans h1_) (by decide), fun _ h1_ => absurd ((up_self b 18).symm.trans h1_) (by decide), fun _ h1_ => absurd ((up_self b 18).symm.trans h1_) (by decide), fun _ => (upN HO311), fun h0_ => absurd ((hoff 19 (by kernel_rfl)).symm.trans h0_) (by decide), fun h0_ => absurd ((hoff 20 (by kernel_rfl)).symm.trans h0_) (by decide)⟩
   refine steps_cons ?_ ?_
   ·rintro b a w' ⟨v295, v298, v301, v304, v307, v310, v313, m20_, ha, Q_BK289, Q_HB, Q_HO296, Q_HO299, Q_HO302, Q_HO305, Q_HO308, Q_HO311, Q_HO314, Q_X20_⟩ hb_ hon hoff
    refine ⟨_, rfl, fun K hK => ?_⟩
    have e31 : a.tmps[31]? = some (v310) := by rw [ha]; exact putSel_on (e := (18, 31, v310)) 13 rfl rfl (hon 18 (by kernel_rfl)) rfl
    replace ha := YL ha
    have BK289 := YL Q_BK289; have HB := YL Q_HB
    have HO311 := YL (Q_HO311 (hon 18 (by kernel_rfl)))
    obtain ⟨Ao35, co35, eo35⟩ := Kd.N_slice HO311.out
    (first | subst eo35 | (injection eo35 with f1_ f2_ f3_; have f4_ := f1_.symm; have f5_ := f3_.symm; clear f1_ f2_ f3_; subst f4_; subst f5_))
    refine goes_ Try.func74 (by kernel_rfl) rfl #[.slice Ao35 y309.length co35] (by rfl) rfl rfl (by first | (simp only [YP, List.map_cons, List.map_nil, Act.eval, Array.getD_eq_getD_getElem?, Option.getD_some, e31]; done) | (simp only [YP, List.map_cons, List.map_nil, Act.eval, Array.getD_eq_getD_getElem?, Option.getD_some, e31]; rfl)) ?_
    with_reducible refine (thalwegref01_Both.calls k _ _ y309 t312 _ ?side1 ?side2 A13.out).mono ?_
    (case side1 => repeat (first | exact (Kd.N_reads' HO311.out).2.2 | (with_reducible refine Kd.C_alloc ?_ _) | (with_reducible refine Kd.C_drewN ?_ _) | (with_reducible refine Kd.C_drew ?_)))
    (case side2 => exact (Kd.N_reads' HO311.out).2.1)
    rintro e w36 ⟨v313, rfl, ho0, hb⟩
    refine ⟨_, rfl, ?_⟩
    have n0_ := YL (Kd.N_elder' (upN HO311) (Kd.R_base ho0) hb)
    have n1_ := YL (Kd.R_lower ho0 (YE (upB HB)))
    have n2_ := YL (YK (g := gb289) (o := .cells #[.bool false, .int .i64 a0_1, .int .i64 a0_2, .int .i64 a0_3, .int .i64 a0_4, .int .i64 a0_5] 30 (0, 0)) (upK BK289) hb)
    have n3_ := YL (YD (upB HB) hb)
    clear HO311; clear BK289; clear HB; have HO311 := n0_; have HO314 := n1_; have BK289 := n2_; have HB := n3_; clear n0_ n1_ n2_ n3_; (try clear hb); (try clear hb2); (try clear hk); (try clear hi); (try clear ho0)
    refine hK.out _ _ ⟨v295, v298, v301, v304, v307, .slice Ao35 y309.length co35, v313, m20_, (by rw [ha.out]; exact putSel_upk 14 hb_ rfl rfl rfl), (upK BK289), (upB HB), fun _ h1_ => absurd ((hon 18 (by kernel_rfl)).symm.trans h1_) (by decide), fun _ h1_ => absurd ((hon 18 (by kernel_rfl)).symm.trans h1_) (by decide), fun _ h1_ => absurd ((hon 18 (by kernel_rfl)).symm.trans h1_) (by decide), fun _ h1_ => absurd ((hon 18 (by kernel_rfl)).symm.trans h1_) (by decide), fun _ h1_ => absurd ((hon 18 (by kernel_rfl)).symm.trans h1_) (by decide), fun _ => (by (with_reducible repeat (first | apply Kd.N_alloc | apply Kd.N_drewN | apply Kd.N_drew)); exact Kd.N_mono HO311.out (fun _ hk => by first | exact ⟨hk.2, hk.1⟩ | exact trivial | (simp [hk]; done) | simp_all)), fun _ => (upR HO314), fun h0_ => absurd ((hoff 20 (by kernel_rfl)).symm.trans h0_) (by decide)⟩
   refine steps_cons ?_ ?_
   ·rintro b a w' ⟨v295, v298, v301, v304, v307, v310, v313, m20_, ha, Q_BK289, Q_HB, Q_HO296, Q_HO299, Q_HO302, Q_HO305, Q_HO308, Q_HO311, Q_HO314, Q_X20_⟩ hb_ hon hoff
    refine ⟨_, rfl, fun K hK => ?_⟩
    have e32 : a.tmps[32]? = some (v313) := by rw [ha]; exact putSel_on (e := (19, 32, v313)) 14 rfl rfl (hon 19 (by kernel_rfl)) rfl
    replace ha := YL ha
    have BK289 := YL Q_BK289; have HB := YL Q_HB
    have HO311 := YL (Q_HO311 (hon 18 (by kernel_rfl)))
    have HO314 := YL (Q_HO314 (hon 19 (by kernel_rfl)))
    refine value_ (w1 := w') (v := v313) (by rfl) rfl ?_ ?_
    ·go_simp
     (try simp only [i64_w])
     try rfl
    refine hK.out _ _ ⟨v295, v298, v301, v304, v307, v310, v313, (v313), (by rw [ha.out]; exact putSel_upk 15 hb_ rfl rfl rfl), Q_BK289, Q_HB, fun _ h1_ => absurd ((hon 18 (by kernel_rfl)).symm.trans h1_) (by decide), fun _ h1_ => absurd ((hon 18 (by kernel_rfl)).symm.trans h1_) (by decide), fun _ h1_ => absurd ((hon 18 (by kernel_rfl)).symm.trans h1_) (by decide), fun _ h1_ => absurd ((hon 18 (by kernel_rfl)).symm.trans h1_) (by decide), fun _ h1_ => absurd ((hon 18 (by kernel_rfl)).symm.trans h1_) (by decide), Q_HO311, Q_HO314, fun _ => rfl⟩
   refine steps_cons ?_ ?_
   ·rintro b a w' ⟨v295, v298, v301, v304, v307, v310, v313, m20_, ha, Q_BK289, Q_HB, Q_HO296, Q_HO299, Q_HO302, Q_HO305, Q_HO308, Q_HO311, Q_HO314, Q_X20_⟩ hb_ hon hoff
    refine ⟨_, rfl, fun K hK => ?_⟩
    replace ha := YL ha
    have BK289 := YL Q_BK289; have HB := YL Q_HB
    have HO311 := YL (Q_HO311 (hon 18 (by kernel_rfl)))
    have HO314 := YL (Q_HO314 (hon 19 (by kernel_rfl)))
    refine value_ (w1 := w') (v := .int .i64 0) (by rfl) rfl ?_ ?_
    ·go_simp
     (try simp only [i64_w])
     try rfl
    refine hK.out _ _ ⟨v295, v298, v301, v304, v307, v310, v313, m20_, (by rw [ha.out]; exact putSel_upk 16 hb_ rfl rfl rfl), Q_BK289, Q_HB, fun _ h1_ => absurd ((hon 18 (by kernel_rfl)).symm.trans h1_) (by decide), fun _ h1_ => absurd ((hon 18 (by kernel_rfl)).symm.trans h1_) (by decide), fun _ h1_ => absurd ((hon 18 (by kernel_rfl)).symm.trans h1_) (by decide), fun _ h1_ => absurd ((hon 18 (by kernel_rfl)).symm.trans h1_) (by decide), fun _ h1_ => absurd ((hon 18 (by kernel_rfl)).symm.trans h1_) (by decide), Q_HO311, Q_HO314, Q_X20_⟩
   exact steps_nil
  rintro b a w36 hall ⟨v295, v298, v301, v304, v307, v310, v313, m20_, ha, Q_BK289, Q_HB, Q_HO296, Q_HO299, Q_HO302, Q_HO305, Q_HO308, Q_HO311, Q_HO314, Q_X20_⟩
  clear BK289 HB
  have hb0_ := hall 0 (by kernel_rfl)
  have hb2_ := hall 2 (by kernel_rfl)
  have hb3_ := hall 3 (by kernel_rfl)
  have hb5_ := hall 5 (by kernel_rfl)
  have hb6_ := hall 6 (by kernel_rfl)
  have hb8_ := hall 8 (by kernel_rfl)
  have hb9_ := hall 9 (by kernel_rfl)
  have hb10_ := hall 10 (by kernel_rfl)
  have hb12_ := hall 12 (by kernel_rfl)
  have hb13_ := hall 13 (by kernel_rfl)
  have hb15_ := hall 15 (by kernel_rfl)
  have hb16_ := hall 16 (by kernel_rfl)
  have hb17_ := hall 17 (by kernel_rfl)
  have hb18_ := hall 18 (by kernel_rfl)
  have hb19_ := hall 19 (by kernel_rfl)
  have hb20_ := hall 20 (by kernel_rfl)
  have hb21_ := hall 21 (by kernel_rfl)
  subst ha
  obtain rfl := Q_X20_ hb20_
  simp only [putSel, hb0_, hb2_, hb3_, hb5_, hb6_, hb8_, hb9_, hb10_, hb12_, hb13_, hb15_, hb16_, hb17_, hb18_, hb19_, hb20_, hb21_, if_true, Act.put, YM, YN, YO]
  have BK289 := YL Q_BK289; clear Q_BK289; have HB := YL Q_HB; clear Q_HB; clear Q_HO296; clear Q_HO299; clear Q_HO302; clear Q_HO305; clear Q_HO308
  have HO311 := YL (Q_HO311 hb18_)
  clear Q_HO311
  have HO314 := YL (Q_HO314 hb19_)
  clear Q_HO314; clear hall hb0_ hb2_ hb3_ hb5_ hb6_ hb8_ hb9_ hb10_ hb12_ hb13_ hb15_ hb16_ hb17_ hb18_ hb19_ hb20_ hb21_
  try go_wp2
  go_ret2
  exact ⟨_, by first | rfl | (simp [errW_none, errW_some] <;> rfl) | (simp [*, errW_none, errW_some] <;> rfl), by (with_reducible repeat (first | apply YQ | apply YR | apply YS)); exact HO314.out, by repeat (first | (with_reducible first | exact HB.out | apply YA | apply YB | apply YC | refine below_set ?_ GE289.out) | exact HB.out)⟩
 replace c3 := Bool.eq_false_iff.mpr c3
 subst c3
 have H1 : (some (([] : List Int), 1)) = some (r1, r2) := by rw [if_neg (show ¬ (false = true) by decide)] at H; exact H
 clear H
 have H := H1
 clear H1
 simp only [Option.some.injEq, Prod.mk.injEq] at H
 obtain ⟨rfl, rfl⟩ := H
 go_enter Try.func71, Try.ntmps71
 go_wp2_with (first | ((with_reducible refine gate_dst (N := 1) rfl ?_); refine box_event ?hg (N := 1) ?hd (cs := #[.bool a0_0, .int .i64 a0_1, .int .i64 a0_2, .int .i64 a0_3, .int .i64 a0_4, .int .i64 a0_5]) (t := 30) ?hr ?_; (case hd => rfl); (case hg => rfl); (case hr => first | (go_simp; done) | (go_simp; rfl)); intro gb289 hg w37 hbox hb; have n0_ := YL (YD (upB HB) hb); have n1_ := YL (hbox); have n2_ := YL ((by rw [hg]; exact (YE (upB HB)) : w.heap.size ≤ gb289)); have n3_ := YL ((by rw [hg]; exact (YE (upB HB)) : w.heap.size ≤ gb289)); clear HB; have HB := n0_; have BK289 := n1_; have GW289 := n2_; have GE289 := n3_; clear n0_ n1_ n2_ n3_; clear hb hbox hg; obtain ⟨q38_0, q38_1, q38_2, q38_3, q38_4, q38_5⟩ := cA6 BK289.out; obtain ⟨f38_0, f38_1, f38_2, f38_3, f38_4, f38_5⟩ := fA6 BK289.out) | ((with_reducible refine gate_callee (f := 59) rfl ?_); refine goesA (some 5) Try.func59 #[.agg #[.bool a0_0, .int .i64 a0_1, .int .i64 a0_2, .int .i64 a0_3, .int .i64 a0_4, .int .i64 a0_5]] ?_; (with_reducible refine (thalwegref02_Right.calls k a0_0 a0_1 a0_2 a0_3 a0_4 a0_5 false _ A2.out).mono ?_); rintro e w39 ⟨rfl, hb⟩; refine ⟨_, rfl, ?_⟩; have n0_ := YL (YK (g := gb289) (o := .cells #[.bool a0_0, .int .i64 a0_1, .int .i64 a0_2, .int .i64 a0_3, .int .i64 a0_4, .int .i64 a0_5] 30 (0, 0)) (upK BK289) hb); have n1_ := YL (YD (upB HB) hb); clear BK289; clear HB; have BK289 := n0_; have HB := n1_; clear n0_ n1_; (try clear hb); (try clear hb2); (try clear hk); (try clear hi)))
 go_ret2
 exact ⟨_, by first | rfl | (simp [errW_none, errW_some] <;> rfl) | (simp [*, errW_none, errW_some] <;> rfl), by first | exact Kd.R_nil _ _ _ _ _ | exact Kd.N_nil _ _ _ _ _ | exact Kd.V_nil _ _ _ _ _ | exact Kd.Q_nil _ _ _ _ _ | exact Kd.S_nil _ _ _ _ _, by repeat (first | (with_reducible first | exact HB.out | apply YA | apply YB | apply YC | refine below_set ?_ GE289.out) | exact HB.out)⟩
end Go.Proofs.Ytclbempnhelmoaa.P
namespace Go.Proofs.Ytclbempnhelmoaa.P
open Go.RowKit YtclbempnhelmoaaW.PrintWords YtclbempnhelmoaaW.PrintLast YtclbempnhelmoaaW.PrintMore
open YtclbempnhelmoaaW.PrintWords renaming below_alloc → YA, pw_below_drewN → YB, below_drew1 → YC, below_step → YD, blk_drewN → YE, blk_drew → YF, blk_alloc → YG, blk_cell → YH, blk_frozen → YI
open YtclbempnhelmoaaW.PrintWords.Aside0 renaming mk → YJ
attribute [local go_sem] max2_int min2_int max_two min_two max_three min_three max_four min_four
attribute [local go_sem high] eqA30 eqA32
def thalwegref04_Right.j0 : Nat → Bool → Int → Int → Bool → Int → Int → Int → Int → Int → Int → Int → Int → Int → Option (Bool)
 | 0, _, _, _, _, _, _, _, _, _, _, _, _, _ => none
 | k + 1, x12, x273000, x273001, x273002, x273003, x273004, x273005, x273006, x273007, x273008, x273009, x273010, x273011 => if x12 = true then (some false) else (if x273000 = 1 then (if (x273008 == 0 && (x273009 == 0 && (x273010 == 0))) = true then (if (!x273002 && (x273003 == 0 && (x273004 == 0 && (x273005 == 0 && (x273006 == 0 && (x273007 == 0)))))) = true then (some (x273011 == 0)) else (some false)) else (some false)) else (if x273000 = 2 then (if (x273008 == 0 && (x273009 == 0 && (x273010 == 0))) = true then (if x273011 = 0 then ((thalwegref02_Right.f k x273002 x273003 x273004 x273005 x273006 x273007).bind fun t273 => (some t273)) else (some false)) else (some false)) else (if x273000 = 3 then (if (!x273002 && (x273003 == 0 && (x273004 == 0 && (x273005 == 0 && (x273006 == 0 && (x273007 == 0)))))) = true then (if x273011 = 0 then ((thalwegref02_Right.f k false x273008 x273009 x273010 0 0).bind fun t274 => (some t274)) else (some false)) else (some false)) else (if x273000 = 4 then (if (x273008 == 0 && (x273009 == 0 && (x273010 == 0))) = true then (if x273011 ≥ 0 then (if x273011 ≤ 65535 then ((thalwegref02_Told.f k x273002 x273003 x273004 x273005 x273006 x273007).bind fun t275 => (some t275)) else (some false)) else (some false)) else (some false)) else (some false)))))
def thalwegref04_Right.f (k : Nat) (a0_0 : Int) (a0_1 : Int) (a0_2 : Bool) (a0_3 : Int) (a0_4 : Int) (a0_5 : Int) (a0_6 : Int) (a0_7 : Int) (a0_8 : Int) (a0_9 : Int) (a0_10 : Int) (a0_11 : Int) : Option (Bool) := if a0_1 < 0 then (thalwegref04_Right.j0 k true a0_0 a0_1 a0_2 a0_3 a0_4 a0_5 a0_6 a0_7 a0_8 a0_9 a0_10 a0_11) else (thalwegref04_Right.j0 k (decide (a0_1 ≥ 64)) a0_0 a0_1 a0_2 a0_3 a0_4 a0_5 a0_6 a0_7 a0_8 a0_9 a0_10 a0_11)
theorem thalwegref04_Right.calls (k : Nat) (a0_0 : Int) (a0_1 : Int) (a0_2 : Bool) (a0_3 : Int) (a0_4 : Int) (a0_5 : Int) (a0_6 : Int) (a0_7 : Int) (a0_8 : Int) (a0_9 : Int) (a0_10 : Int) (a0_11 : Int) (r : Bool) (w : World) (h : thalwegref04_Right.f k a0_0 a0_1 a0_2 a0_3 a0_4 a0_5 a0_6 a0_7 a0_8 a0_9 a0_10 a0_11 = some r) :
  Calls Try.prog 39 #[.agg #[.int .i64 a0_0, .int .i64 a0_1, .bool a0_2, .int .i64 a0_3, .int .i64 a0_4, .int .i64 a0_5, .int .i64 a0_6, .int .i64 a0_7, .int .i64 a0_8, .int .i64 a0_9, .int .i64 a0_10, .int .i64 a0_11]] w fun e w' => e = .returned (.bool r) ∧ Below w.heap.size w w' := by
 have hu34 := Try.underlying34
 have hu32 := Try.underlying32
 have hu30 := Try.underlying30
 have HB := YJ (Below.refl w.heap.size w)
 have H : (if a0_1 < 0 then (thalwegref04_Right.j0 k true a0_0 a0_1 a0_2 a0_3 a0_4 a0_5 a0_6 a0_7 a0_8 a0_9 a0_10 a0_11) else (thalwegref04_Right.j0 k (decide (a0_1 ≥ 64)) a0_0 a0_1 a0_2 a0_3 a0_4 a0_5 a0_6 a0_7 a0_8 a0_9 a0_10 a0_11)) = some r := h
 clear h; have HC2 := YJ H; clear H
 go_enter Try.func39, Try.ntmps39
 go_upto_region 1 with (first | ((with_reducible refine gate_dst (N := 1) rfl ?_); refine box_event ?hg (N := 1) ?hd (cs := #[.int .i64 a0_0, .int .i64 a0_1, .bool a0_2, .int .i64 a0_3, .int .i64 a0_4, .int .i64 a0_5, .int .i64 a0_6, .int .i64 a0_7, .int .i64 a0_8, .int .i64 a0_9, .int .i64 a0_10, .int .i64 a0_11]) (t := 34) ?hr ?_; (case hd => rfl); (case hg => rfl); (case hr => first | (go_simp; done) | (go_simp; rfl)); intro gb272 hg w3 hbox hb; have n0_ := YJ (YD (upB HB) hb); have n1_ := YJ (hbox); have n2_ := YJ ((by rw [hg]; exact (below_size (upB HB)) : w.heap.size ≤ gb272)); have n3_ := YJ ((by rw [hg]; exact (below_size (upB HB)) : w.heap.size ≤ gb272)); clear HB; have HB := n0_; have BK272 := n1_; have GW272 := n2_; have GE272 := n3_; clear n0_ n1_ n2_ n3_; clear hb hbox hg))
 (try simp only [Act.put, List.setIfInBounds_toArray, List.set_cons_zero, List.set_cons_succ])
 go_cut [12] (fun v12 wc => ∃ (kq : Nat) (x12_1 : Bool), v12 = .bool x12_1 ∧ Aside0 (thalwegref04_Right.j0 kq x12_1 a0_0 a0_1 a0_2 a0_3 a0_4 a0_5 a0_6 a0_7 a0_8 a0_9 a0_10 a0_11 = some r) ∧ Aside0 (kq ≤ k) ∧ Aside0 (wc.heap[gb272]? = some (.cells #[.int .i64 a0_0, .int .i64 a0_1, .bool a0_2, .int .i64 a0_3, .int .i64 a0_4, .int .i64 a0_5, .int .i64 a0_6, .int .i64 a0_7, .int .i64 a0_8, .int .i64 a0_9, .int .i64 a0_10, .int .i64 a0_11] 34 (0, 0))) ∧ Aside0 (Below w.heap.size w wc))
 case first =>
  have H := HC2.out
  clear HC2
  by_cases c4 : a0_1 < 0
  ·rw [if_pos c4] at H
   have c4b0 : decide (a0_1 < 0) = true := decide_eq_true c4; clear c4
   (first | rw [c4b0] | (simp only [i64_w, i32_w]; rw [c4b0]) | rw [c4b1] | skip)
   have H' := YJ H
   clear H
   obtain ⟨q5_0, q5_1, q5_2, q5_3, q5_4, q5_5, q5_6, q5_7, q5_8, q5_9, q5_10, q5_11⟩ := cA12 BK272.out
   obtain ⟨f5_0, f5_1, f5_2, f5_3, f5_4, f5_5, f5_6, f5_7, f5_8, f5_9, f5_10, f5_11⟩ := fA12 BK272.out
   go_wp2
   go_meet
   case rel => exact ⟨_, (true), (by first | rfl | (simp; done) | (simp [*]; done)), H', ⟨by first | omega | exact Nat.le_refl _⟩, ⟨by (with_reducible repeat (first | refine YE ?_ _ | refine YF ?_ | refine YG ?_ _)); exact BK272.out⟩, ⟨by repeat (first | (with_reducible first | exact HB.out | apply YA | apply YB | apply YC | refine below_set ?_ GE272.out) | exact HB.out)⟩⟩
  rw [if_neg c4] at H; have c4b0 : decide (a0_1 < 0) = false := decide_eq_false c4; clear c4
  (first | rw [c4b0] | (simp only [i64_w, i32_w]; rw [c4b0]) | rw [c4b1] | skip)
  have H' := YJ H
  clear H
  obtain ⟨q6_0, q6_1, q6_2, q6_3, q6_4, q6_5, q6_6, q6_7, q6_8, q6_9, q6_10, q6_11⟩ := cA12 BK272.out
  obtain ⟨f6_0, f6_1, f6_2, f6_3, f6_4, f6_5, f6_6, f6_7, f6_8, f6_9, f6_10, f6_11⟩ := fA12 BK272.out
  go_wp2
  go_meet
  case rel => exact ⟨_, (decide (a0_1 ≥ 64)), (by first | rfl | (simp; done) | (simp [*]; done)), H', ⟨by first | omega | exact Nat.le_refl _⟩, ⟨by (with_reducible repeat (first | refine YE ?_ _ | refine YF ?_ | refine YG ?_ _)); exact BK272.out⟩, ⟨by repeat (first | (with_reducible first | exact HB.out | apply YA | apply YB | apply YC | refine below_set ?_ GE272.out) | exact HB.out)⟩⟩
 case rest =>
  clear HC2
  try clear p2; try clear c3
  try clear c4; try clear c4b0
  try clear q5_0; try clear q5_1
  try clear q5_10; try clear q5_11
  try clear q5_2; try clear q5_3
  try clear q5_4; try clear q5_5
  try clear q5_6; try clear q5_7
  try clear q5_8; try clear q5_9
  try clear q6_0; try clear q6_1
  try clear q6_10; try clear q6_11
  try clear q6_2; try clear q6_3
  try clear q6_4; try clear q6_5
  try clear q6_6; try clear q6_7
  try clear q6_8; try clear q6_9
  try clear f5_0; try clear f5_1
  try clear f5_10; try clear f5_11
  try clear f5_2; try clear f5_3
  try clear f5_4; try clear f5_5
  try clear f5_6; try clear f5_7
  try clear f5_8; try clear f5_9
  try clear f6_0; try clear f6_1
  try clear f6_10; try clear f6_11
  try clear f6_2; try clear f6_3
  try clear f6_4; try clear f6_5
  try clear f6_6; try clear f6_7
  try clear f6_8; try clear f6_9
  obtain ⟨kq, x12_1, rfl, HA, HJ1, BK272, HB⟩ := hcut
  cases kq with
  | zero => exact absurd HA.out (by simp [thalwegref04_Right.j0])
  | succ kj1 =>
   have H := HA.out
   clear HA
   simp only [thalwegref04_Right.j0] at H
   by_cases c7 : x12_1 = true
   ·subst c7
    have H1 : (some false) = some r := by rw [if_pos rfl] at H; exact H
    clear H
    have H := H1
    clear H1
    obtain rfl := Option.some.inj H
    go_wp2
    go_ret
    exact ⟨by first | rfl | (simp [errW_none, errW_some] <;> rfl) | (simp [*, errW_none, errW_some] <;> rfl), by repeat (first | (with_reducible first | exact HB.out | apply YA | apply YB | apply YC | refine below_set ?_ GE272.out) | exact HB.out)⟩
   replace c7 := Bool.eq_false_iff.mpr c7
   subst c7
   have H1 : (if a0_0 = 1 then (if (a0_8 == 0 && (a0_9 == 0 && (a0_10 == 0))) = true then (if (!a0_2 && (a0_3 == 0 && (a0_4 == 0 && (a0_5 == 0 && (a0_6 == 0 && (a0_7 == 0)))))) = true then (some (a0_11 == 0)) else (some false)) else (some false)) else (if a0_0 = 2 then (if (a0_8 == 0 && (a0_9 == 0 && (a0_10 == 0))) = true then (if a0_11 = 0 then ((thalwegref02_Right.f kj1 a0_2 a0_3 a0_4 a0_5 a0_6 a0_7).bind fun t273 => (some t273)) else (some false)) else (some false)) else (if a0_0 = 3 then (if (!a0_2 && (a0_3 == 0 && (a0_4 == 0 && (a0_5 == 0 && (a0_6 == 0 && (a0_7 == 0)))))) = true then (if a0_11 = 0 then ((thalwegref02_Right.f kj1 false a0_8 a0_9 a0_10 0 0).bind fun t274 => (some t274)) else (some false)) else (some false)) else (if a0_0 = 4 then (if (a0_8 == 0 && (a0_9 == 0 && (a0_10 == 0))) = true then (if a0_11 ≥ 0 then (if a0_11 ≤ 65535 then ((thalwegref02_Told.f kj1 a0_2 a0_3 a0_4 a0_5 a0_6 a0_7).bind fun t275 => (some t275)) else (some false)) else (some false)) else (some false)) else (some false))))) = some r := by rw [if_neg (show ¬ (false = true) by decide)] at H; exact H
   clear H
   have H := H1
   clear H1
   by_cases c8 : a0_0 = 1
   ·rw [if_pos c8] at H
    have c8b0 : (a0_0 == 1) = true := beq_iff_eq.mpr c8
    have c8b1 : (a0_0 != 1) = false := bne_eq_false_iff_eq.mpr c8
    clear c8
    by_cases c9 : (a0_8 == 0 && (a0_9 == 0 && (a0_10 == 0))) = true
    ·rw [if_pos c9] at H
     have c9b0 : (a0_8 == 0 && (a0_9 == 0 && (a0_10 == 0))) = true := c9
     (try (have c9b1 : decide (a0_8 = 0 && (a0_9 == 0 && (a0_10 == 0))) = true := by simpa using c9))
     (try (have c9b2 : (a0_8 == 0 && (a0_9 == 0 && (a0_10 == 0))) = true := by simpa using c9))
     clear c9
     by_cases c10 : (!a0_2 && (a0_3 == 0 && (a0_4 == 0 && (a0_5 == 0 && (a0_6 == 0 && (a0_7 == 0)))))) = true
     ·rw [if_pos c10] at H
      have c10b0 : (!a0_2 && (a0_3 == 0 && (a0_4 == 0 && (a0_5 == 0 && (a0_6 == 0 && (a0_7 == 0)))))) = true := c10
      clear c10
      obtain rfl := Option.some.inj H
      obtain ⟨q11_0, q11_1, q11_2, q11_3, q11_4, q11_5, q11_6, q11_7, q11_8, q11_9, q11_10, q11_11⟩ := cA12 BK272.out
      obtain ⟨f11_0, f11_1, f11_2, f11_3, f11_4, f11_5, f11_6, f11_7, f11_8, f11_9, f11_10, f11_11⟩ := fA12 BK272.out
      go_wp2
      go_ret
      exact ⟨by first | rfl | (simp [errW_none, errW_some] <;> rfl) | (simp [*, errW_none, errW_some] <;> rfl), by repeat (first | (with_reducible first | exact HB.out | apply YA | apply YB | apply YC | refine below_set ?_ GE272.out) | exact HB.out)⟩
     rw [if_neg c10] at H
     have c10b0 : (!a0_2 && (a0_3 == 0 && (a0_4 == 0 && (a0_5 == 0 && (a0_6 == 0 && (a0_7 == 0)))))) = false := by simpa using c10
     clear c10
     obtain rfl := Option.some.inj H
     obtain ⟨q12_0, q12_1, q12_2, q12_3, q12_4, q12_5, q12_6, q12_7, q12_8, q12_9, q12_10, q12_11⟩ := cA12 BK272.out
     obtain ⟨f12_0, f12_1, f12_2, f12_3, f12_4, f12_5, f12_6, f12_7, f12_8, f12_9, f12_10, f12_11⟩ := fA12 BK272.out
     go_wp2
     go_ret
     exact ⟨by first | rfl | (simp [errW_none, errW_some] <;> rfl) | (simp [*, errW_none, errW_some] <;> rfl), by repeat (first | (with_reducible first | exact HB.out | apply YA | apply YB | apply YC | refine below_set ?_ GE272.out) | exact HB.out)⟩
    rw [if_neg c9] at H
    have c9b0 : (a0_8 == 0 && (a0_9 == 0 && (a0_10 == 0))) = false := by simpa using c9
    (try (have c9b1 : decide (a0_8 = 0 && (a0_9 == 0 && (a0_10 == 0))) = false := by simpa using c9))
    (try (have c9b2 : (a0_8 == 0 && (a0_9 == 0 && (a0_10 == 0))) = false := by simpa using c9))
    (try (have c9b3 : ¬ (a0_8 = 0 && (a0_9 == 0 && (a0_10 == 0))) := by simpa using c9))
    clear c9
    obtain rfl := Option.some.inj H
    obtain ⟨q13_0, q13_1, q13_2, q13_3, q13_4, q13_5, q13_6, q13_7, q13_8, q13_9, q13_10, q13_11⟩ := cA12 BK272.out
    obtain ⟨f13_0, f13_1, f13_2, f13_3, f13_4, f13_5, f13_6, f13_7, f13_8, f13_9, f13_10, f13_11⟩ := fA12 BK272.out
    go_wp2
    go_ret
    exact ⟨by first | rfl | (simp [errW_none, errW_some] <;> rfl) | (simp [*, errW_none, errW_some] <;> rfl), by repeat (first | (with_reducible first | exact HB.out | apply YA | apply YB | apply YC | refine below_set ?_ GE272.out) | exact HB.out)⟩
   rw [if_neg c8] at H
   have c8b0 : (a0_0 == 1) = false := beq_eq_false_iff_ne.mpr c8
   have c8b1 : (a0_0 != 1) = true := bne_iff_ne.mpr c8
   by_cases c14 : a0_0 = 2
   ·rw [if_pos c14] at H
    have c14b0 : (a0_0 == 2) = true := beq_iff_eq.mpr c14
    have c14b1 : (a0_0 != 2) = false := bne_eq_false_iff_eq.mpr c14
    clear c14
    by_cases c15 : (a0_8 == 0 && (a0_9 == 0 && (a0_10 == 0))) = true
    ·rw [if_pos c15] at H
     have c15b0 : (a0_8 == 0 && (a0_9 == 0 && (a0_10 == 0))) = true := c15
     (try (have c15b1 : decide (a0_8 = 0 && (a0_9 == 0 && (a0_10 == 0))) = true := by simpa using c15))
     (try (have c15b2 : (a0_8 == 0 && (a0_9 == 0 && (a0_10 == 0))) = true := by simpa using c15))
     clear c15
     by_cases c16 : a0_11 = 0
     ·rw [if_pos c16] at H
      have c16b0 : (a0_11 == 0) = true := beq_iff_eq.mpr c16
      have c16b1 : (a0_11 != 0) = false := bne_eq_false_iff_eq.mpr c16
      clear c16; replace H := Option.bind_eq_some_iff.mp H; obtain ⟨t273, A170, H⟩ := H
      replace H : (some t273) = some r := H
      have A17 := YJ A170; clear A170
      obtain rfl := Option.some.inj H
      obtain ⟨q18_0, q18_1, q18_2, q18_3, q18_4, q18_5, q18_6, q18_7, q18_8, q18_9, q18_10, q18_11⟩ := cA12 BK272.out
      obtain ⟨f18_0, f18_1, f18_2, f18_3, f18_4, f18_5, f18_6, f18_7, f18_8, f18_9, f18_10, f18_11⟩ := fA12 BK272.out
      go_wp2_with (first | (go_at_call 59; (with_reducible refine (thalwegref02_Right.calls kj1 a0_2 a0_3 a0_4 a0_5 a0_6 a0_7 t273 _ A17.out).mono ?_); rintro e w19 ⟨rfl, hb⟩; have n0_ := YJ (blk_below (g := gb272) (o := .cells #[.int .i64 a0_0, .int .i64 a0_1, .bool a0_2, .int .i64 a0_3, .int .i64 a0_4, .int .i64 a0_5, .int .i64 a0_6, .int .i64 a0_7, .int .i64 a0_8, .int .i64 a0_9, .int .i64 a0_10, .int .i64 a0_11] 34 (0, 0)) (upK BK272) hb); have n1_ := YJ (YD (upB HB) hb); clear BK272; clear HB; have BK272 := n0_; have HB := n1_; clear n0_ n1_; (try clear hb); (try clear hb2); (try clear hk); (try clear hi)))
      go_ret
      exact ⟨by first | rfl | (simp [errW_none, errW_some] <;> rfl) | (simp [*, errW_none, errW_some] <;> rfl), by repeat (first | (with_reducible first | exact HB.out | apply YA | apply YB | apply YC | refine below_set ?_ GE272.out) | exact HB.out)⟩
     rw [if_neg c16] at H
     have c16b0 : (a0_11 == 0) = false := beq_eq_false_iff_ne.mpr c16
     have c16b1 : (a0_11 != 0) = true := bne_iff_ne.mpr c16
     obtain rfl := Option.some.inj H
     obtain ⟨q20_0, q20_1, q20_2, q20_3, q20_4, q20_5, q20_6, q20_7, q20_8, q20_9, q20_10, q20_11⟩ := cA12 BK272.out
     obtain ⟨f20_0, f20_1, f20_2, f20_3, f20_4, f20_5, f20_6, f20_7, f20_8, f20_9, f20_10, f20_11⟩ := fA12 BK272.out
     go_wp2
     go_ret
     exact ⟨by first | rfl | (simp [errW_none, errW_some] <;> rfl) | (simp [*, errW_none, errW_some] <;> rfl), by repeat (first | (with_reducible first | exact HB.out | apply YA | apply YB | apply YC | refine below_set ?_ GE272.out) | exact HB.out)⟩
    rw [if_neg c15] at H
    have c15b0 : (a0_8 == 0 && (a0_9 == 0 && (a0_10 == 0))) = false := by simpa using c15
    (try (have c15b1 : decide (a0_8 = 0 && (a0_9 == 0 && (a0_10 == 0))) = false := by simpa using c15))
    (try (have c15b2 : (a0_8 == 0 && (a0_9 == 0 && (a0_10 == 0))) = false := by simpa using c15))
    (try (have c15b3 : ¬ (a0_8 = 0 && (a0_9 == 0 && (a0_10 == 0))) := by simpa using c15))
    clear c15
    obtain rfl := Option.some.inj H
    obtain ⟨q21_0, q21_1, q21_2, q21_3, q21_4, q21_5, q21_6, q21_7, q21_8, q21_9, q21_10, q21_11⟩ := cA12 BK272.out
    obtain ⟨f21_0, f21_1, f21_2, f21_3, f21_4, f21_5, f21_6, f21_7, f21_8, f21_9, f21_10, f21_11⟩ := fA12 BK272.out
    go_wp2
    go_ret
    exact ⟨by first | rfl | (simp [errW_none, errW_some] <;> rfl) | (simp [*, errW_none, errW_some] <;> rfl), by repeat (first | (with_reducible first | exact HB.out | apply YA | apply YB | apply YC | refine below_set ?_ GE272.out) | exact HB.out)⟩
   rw [if_neg c14] at H
   have c14b0 : (a0_0 == 2) = false := beq_eq_false_iff_ne.mpr c14
   have c14b1 : (a0_0 != 2) = true := bne_iff_ne.mpr c14
   by_cases c22 : a0_0 = 3
   ·rw [if_pos c22] at H
    have c22b0 : (a0_0 == 3) = true := beq_iff_eq.mpr c22
    have c22b1 : (a0_0 != 3) = false := bne_eq_false_iff_eq.mpr c22
    clear c22
    by_cases c23 : (!a0_2 && (a0_3 == 0 && (a0_4 == 0 && (a0_5 == 0 && (a0_6 == 0 && (a0_7 == 0)))))) = true
    ·rw [if_pos c23] at H
     have c23b0 : (!a0_2 && (a0_3 == 0 && (a0_4 == 0 && (a0_5 == 0 && (a0_6 == 0 && (a0_7 == 0)))))) = true := c23
     clear c23
     by_cases c24 : a0_11 = 0
     ·rw [if_pos c24] at H
      have c24b0 : (a0_11 == 0) = true := beq_iff_eq.mpr c24
      have c24b1 : (a0_11 != 0) = false := bne_eq_false_iff_eq.mpr c24
      clear c24; replace H := Option.bind_eq_some_iff.mp H; obtain ⟨t274, A250, H⟩ := H
      replace H : (some t274) = some r := H
      have A25 := YJ A250; clear A250
      obtain rfl := Option.some.inj H
      obtain ⟨q26_0, q26_1, q26_2, q26_3, q26_4, q26_5, q26_6, q26_7, q26_8, q26_9, q26_10, q26_11⟩ := cA12 BK272.out
      obtain ⟨f26_0, f26_1, f26_2, f26_3, f26_4, f26_5, f26_6, f26_7, f26_8, f26_9, f26_10, f26_11⟩ := fA12 BK272.out
      go_wp2_with (first | (go_at_call 59; (with_reducible refine (thalwegref02_Right.calls kj1 false a0_8 a0_9 a0_10 0 0 t274 _ A25.out).mono ?_); rintro e w27 ⟨rfl, hb⟩; have n0_ := YJ (blk_below (g := gb272) (o := .cells #[.int .i64 a0_0, .int .i64 a0_1, .bool a0_2, .int .i64 a0_3, .int .i64 a0_4, .int .i64 a0_5, .int .i64 a0_6, .int .i64 a0_7, .int .i64 a0_8, .int .i64 a0_9, .int .i64 a0_10, .int .i64 a0_11] 34 (0, 0)) (upK BK272) hb); have n1_ := YJ (YD (upB HB) hb); clear BK272; clear HB; have BK272 := n0_; have HB := n1_; clear n0_ n1_; (try clear hb); (try clear hb2); (try clear hk); (try clear hi)))
      go_ret
      exact ⟨by first | rfl | (simp [errW_none, errW_some] <;> rfl) | (simp [*, errW_none, errW_some] <;> rfl), by repeat (first | (with_reducible first | exact HB.out | apply YA | apply YB | apply YC | refine below_set ?_ GE272.out) | exact HB.out)⟩
     rw [if_neg c24] at H
     have c24b0 : (a0_11 == 0) = false := beq_eq_false_iff_ne.mpr c24
     have c24b1 : (a0_11 != 0) = true := bne_iff_ne.mpr c24
     obtain rfl := Option.some.inj H
     obtain ⟨q28_0, q28_1, q28_2, q28_3, q28_4, q28_5, q28_6, q28_7, q28_8, q28_9, q28_10, q28_11⟩ := cA12 BK272.out
     obtain ⟨f28_0, f28_1, f28_2, f28_3, f28_4, f28_5, f28_6, f28_7, f28_8, f28_9, f28_10, f28_11⟩ := fA12 BK272.out
     go_wp2
     go_ret
     exact ⟨by first | rfl | (simp [errW_none, errW_some] <;> rfl) | (simp [*, errW_none, errW_some] <;> rfl), by repeat (first | (with_reducible first | exact HB.out | apply YA | apply YB | apply YC | refine below_set ?_ GE272.out) | exact HB.out)⟩
    rw [if_neg c23] at H
    have c23b0 : (!a0_2 && (a0_3 == 0 && (a0_4 == 0 && (a0_5 == 0 && (a0_6 == 0 && (a0_7 == 0)))))) = false := by simpa using c23
    clear c23
    obtain rfl := Option.some.inj H
    obtain ⟨q29_0, q29_1, q29_2, q29_3, q29_4, q29_5, q29_6, q29_7, q29_8, q29_9, q29_10, q29_11⟩ := cA12 BK272.out
    obtain ⟨f29_0, f29_1, f29_2, f29_3, f29_4, f29_5, f29_6, f29_7, f29_8, f29_9, f29_10, f29_11⟩ := fA12 BK272.out
    go_wp2
    go_ret
    exact ⟨by first | rfl | (simp [errW_none, errW_some] <;> rfl) | (simp [*, errW_none, errW_some] <;> rfl), by repeat (first | (with_reducible first | exact HB.out | apply YA | apply YB | apply YC | refine below_set ?_ GE272.out) | exact HB.out)⟩
   rw [if_neg c22] at H
   have c22b0 : (a0_0 == 3) = false := beq_eq_false_iff_ne.mpr c22
   have c22b1 : (a0_0 != 3) = true := bne_iff_ne.mpr c22
   by_cases c30 : a0_0 = 4
   ·rw [if_pos c30] at H
    have c30b0 : (a0_0 == 4) = true := beq_iff_eq.mpr c30
    have c30b1 : (a0_0 != 4) = false := bne_eq_false_iff_eq.mpr c30
    clear c30
    by_cases c31 : (a0_8 == 0 && (a0_9 == 0 && (a0_10 == 0))) = true
    ·rw [if_pos c31] at H
     have c31b0 : (a0_8 == 0 && (a0_9 == 0 && (a0_10 == 0))) = true := c31
     (try (have c31b1 : decide (a0_8 = 0 && (a0_9 == 0 && (a0_10 == 0))) = true := by simpa using c31))
     (try (have c31b2 : (a0_8 == 0 && (a0_9 == 0 && (a0_10 == 0))) = true := by simpa using c31))
     clear c31
     by_cases c32 : a0_11 ≥ 0
     ·rw [if_pos c32] at H
      have c32b0 : decide (0 ≤ a0_11) = true := decide_eq_true c32; clear c32
      by_cases c33 : a0_11 ≤ 65535
      ·rw [if_pos c33] at H
       have c33b0 : decide (a0_11 ≤ 65535) = true := decide_eq_true c33; clear c33; replace H := Option.bind_eq_some_iff.mp H; obtain ⟨t275, A340, H⟩ := H
       replace H : (some t275) = some r := H
       have A34 := YJ A340; clear A340
       obtain rfl := Option.some.inj H
       obtain ⟨q35_0, q35_1, q35_2, q35_3, q35_4, q35_5, q35_6, q35_7, q35_8, q35_9, q35_10, q35_11⟩ := cA12 BK272.out
       obtain ⟨f35_0, f35_1, f35_2, f35_3, f35_4, f35_5, f35_6, f35_7, f35_8, f35_9, f35_10, f35_11⟩ := fA12 BK272.out
       go_wp2_with (first | (go_at_call 60; (with_reducible refine (thalwegref02_Told.calls kj1 a0_2 a0_3 a0_4 a0_5 a0_6 a0_7 t275 _ A34.out).mono ?_); rintro e w36 ⟨rfl, hb⟩; have n0_ := YJ (blk_below (g := gb272) (o := .cells #[.int .i64 a0_0, .int .i64 a0_1, .bool a0_2, .int .i64 a0_3, .int .i64 a0_4, .int .i64 a0_5, .int .i64 a0_6, .int .i64 a0_7, .int .i64 a0_8, .int .i64 a0_9, .int .i64 a0_10, .int .i64 a0_11] 34 (0, 0)) (upK BK272) hb); have n1_ := YJ (YD (upB HB) hb); clear BK272; clear HB; have BK272 := n0_; have HB := n1_; clear n0_ n1_; (try clear hb); (try clear hb2); (try clear hk); (try clear hi)))
       go_ret
       exact ⟨by first | rfl | (simp [errW_none, errW_some] <;> rfl) | (simp [*, errW_none, errW_some] <;> rfl), by repeat (first | (with_reducible first | exact HB.out | apply YA | apply YB | apply YC | refine below_set ?_ GE272.out) | exact HB.out)⟩
      rw [if_neg c33] at H; have c33b0 : decide (a0_11 ≤ 65535) = false := decide_eq_false c33; clear c33
      obtain rfl := Option.some.inj H
      obtain ⟨q37_0, q37_1, q37_2, q37_3, q37_4, q37_5, q37_6, q37_7, q37_8, q37_9, q37_10, q37_11⟩ := cA12 BK272.out
      obtain ⟨f37_0, f37_1, f37_2, f37_3, f37_4, f37_5, f37_6, f37_7, f37_8, f37_9, f37_10, f37_11⟩ := fA12 BK272.out
      go_wp2
      go_ret
      exact ⟨by first | rfl | (simp [errW_none, errW_some] <;> rfl) | (simp [*, errW_none, errW_some] <;> rfl), by repeat (first | (with_reducible first | exact HB.out | apply YA | apply YB | apply YC | refine below_set ?_ GE272.out) | exact HB.out)⟩
     rw [if_neg c32] at H; have c32b0 : decide (0 ≤ a0_11) = false := decide_eq_false c32; clear c32
     obtain rfl := Option.some.inj H
     obtain ⟨q38_0, q38_1, q38_2, q38_3, q38_4, q38_5, q38_6, q38_7, q38_8, q38_9, q38_10, q38_11⟩ := cA12 BK272.out
     obtain ⟨f38_0, f38_1, f38_2, f38_3, f38_4, f38_5, f38_6, f38_7, f38_8, f38_9, f38_10, f38_11⟩ := fA12 BK272.out
     go_wp2
     go_ret
     exact ⟨by first | rfl | (simp [errW_none, errW_some] <;> rfl) | (simp [*, errW_none, errW_some] <;> rfl), by repeat (first | (with_reducible first | exact HB.out | apply YA | apply YB | apply YC | refine below_set ?_ GE272.out) | exact HB.out)⟩
    rw [if_neg c31] at H
    have c31b0 : (a0_8 == 0 && (a0_9 == 0 && (a0_10 == 0))) = false := by simpa using c31
    (try (have c31b1 : decide (a0_8 = 0 && (a0_9 == 0 && (a0_10 == 0))) = false := by simpa using c31))
    (try (have c31b2 : (a0_8 == 0 && (a0_9 == 0 && (a0_10 == 0))) = false := by simpa using c31))
    (try (have c31b3 : ¬ (a0_8 = 0 && (a0_9 == 0 && (a0_10 == 0))) := by simpa using c31))
    clear c31
    obtain rfl := Option.some.inj H
    obtain ⟨q39_0, q39_1, q39_2, q39_3, q39_4, q39_5, q39_6, q39_7, q39_8, q39_9, q39_10, q39_11⟩ := cA12 BK272.out
    obtain ⟨f39_0, f39_1, f39_2, f39_3, f39_4, f39_5, f39_6, f39_7, f39_8, f39_9, f39_10, f39_11⟩ := fA12 BK272.out
    go_wp2
    go_ret
    exact ⟨by first | rfl | (simp [errW_none, errW_some] <;> rfl) | (simp [*, errW_none, errW_some] <;> rfl), by repeat (first | (with_reducible first | exact HB.out | apply YA | apply YB | apply YC | refine below_set ?_ GE272.out) | exact HB.out)⟩
   rw [if_neg c30] at H
   have c30b0 : (a0_0 == 4) = false := beq_eq_false_iff_ne.mpr c30
   have c30b1 : (a0_0 != 4) = true := bne_iff_ne.mpr c30
   obtain rfl := Option.some.inj H
   obtain ⟨q40_0, q40_1, q40_2, q40_3, q40_4, q40_5, q40_6, q40_7, q40_8, q40_9, q40_10, q40_11⟩ := cA12 BK272.out
   obtain ⟨f40_0, f40_1, f40_2, f40_3, f40_4, f40_5, f40_6, f40_7, f40_8, f40_9, f40_10, f40_11⟩ := fA12 BK272.out
   go_wp2
   go_ret
   exact ⟨by first | rfl | (simp [errW_none, errW_some] <;> rfl) | (simp [*, errW_none, errW_some] <;> rfl), by repeat (first | (with_reducible first | exact HB.out | apply YA | apply YB | apply YC | refine below_set ?_ GE272.out) | exact HB.out)⟩
end Go.Proofs.Ytclbempnhelmoaa.P
namespace Go.Proofs.Ytclbempnhelmoaa.P
open Go.RowKit YtclbempnhelmoaaW.PrintWords YtclbempnhelmoaaW.PrintLast YtclbempnhelmoaaW.PrintMore
open YtclbempnhelmoaaW.PrintWords renaming below_alloc → YA, pw_below_drewN → YB, below_drew1 → YC, below_step → YD, below_size → YE, blk_drewN → YF, blk_drew → YG, blk_alloc → YH, blk_cell → YI, blk_frozen → YJ, blk_below → YK
open YtclbempnhelmoaaW.PrintWords.Aside0 renaming mk → YL
open List renaming map_toArray → YM, length_take → YN, length_drop → YO
open YtclbempnhelmoaaW.PrintWords.Kd renaming R_alloc → YP, R_drewN → YQ, R_drew → YR
attribute [local go_sem] max2_int min2_int max_two min_two max_three min_three max_four min_four
mutual
def thalwegref04_Bytes.j0 : Nat → List Int → Bool → Int → Int → Bool → Int → Int → Int → Int → Int → Int → Int → Int → Int → Option (List Int × Int)
 | 0, _, _, _, _, _, _, _, _, _, _, _, _, _, _ => none
 | k + 1, x4, x24, x316000, x316001, x316002, x316003, x316004, x316005, x316006, x316007, x316008, x316009, x316010, x316011 => if x24 = true then ((thalwegref02_Bytes.f k x316002 x316003 x316004 x316005 x316006 x316007).bind fun bt320 => (if x4.length + bt320.1.length < 140737488355328 then (thalwegref04_Bytes.j1 k (x4 ++ bt320.1) x316000 x316001 x316002 x316003 x316004 x316005 x316006 x316007 x316008 x316009 x316010 x316011) else (none))) else (thalwegref04_Bytes.j1 k x4 x316000 x316001 x316002 x316003 x316004 x316005 x316006 x316007 x316008 x316009 x316010 x316011)
def thalwegref04_Bytes.j1 : Nat → List Int → Int → Int → Bool → Int → Int → Int → Int → Int → Int → Int → Int → Int → Option (List Int × Int)
 | 0, _, _, _, _, _, _, _, _, _, _, _, _, _ => none
 | k + 1, x4, x316000, x316001, x316002, x316003, x316004, x316005, x316006, x316007, x316008, x316009, x316010, x316011 => if x316000 = 3 then ((thalwegref01_Int.f k x316008).bind fun t327 => (if x4.length + t327.length < 140737488355328 then ((some (x4 ++ t327 : List Int)).bind fun y330 => ((some (([(x316009) % 256, (x316010) % 256] : List Int) : List Int)).bind fun y333 => (if y330.length + y333.length < 140737488355328 then (if x316000 = 4 then (none) else (some ((y330 ++ y333), 0))) else (none)))) else (none))) else (if x316000 = 4 then ((some (([(wrap64 (Int.tdiv x316011 256)) % 256, (Int.tmod x316011 256) % 256] : List Int) : List Int)).bind fun y339 => (if x4.length + y339.length < 140737488355328 then (some ((x4 ++ y339), 0)) else (none))) else (some (x4, 0)))
end
def thalwegref04_Bytes.f (k : Nat) (a0_0 : Int) (a0_1 : Int) (a0_2 : Bool) (a0_3 : Int) (a0_4 : Int) (a0_5 : Int) (a0_6 : Int) (a0_7 : Int) (a0_8 : Int) (a0_9 : Int) (a0_10 : Int) (a0_11 : Int) : Option (List Int × Int) := (thalwegref04_Right.f k a0_0 a0_1 a0_2 a0_3 a0_4 a0_5 a0_6 a0_7 a0_8 a0_9 a0_10 a0_11).bind fun t316 => (if t316 = true then ((some (([(a0_0) % 256, (a0_1) % 256] : List Int) : List Int)).bind fun y317 => (if a0_0 = 2 then (thalwegref04_Bytes.j0 k y317 true a0_0 a0_1 a0_2 a0_3 a0_4 a0_5 a0_6 a0_7 a0_8 a0_9 a0_10 a0_11) else (thalwegref04_Bytes.j0 k y317 (a0_0 == 4) a0_0 a0_1 a0_2 a0_3 a0_4 a0_5 a0_6 a0_7 a0_8 a0_9 a0_10 a0_11))) else (some (([] : List Int), 1)))
theorem thalwegref04_Bytes.calls (k : Nat) (a0_0 : Int) (a0_1 : Int) (a0_2 : Bool) (a0_3 : Int) (a0_4 : Int) (a0_5 : Int) (a0_6 : Int) (a0_7 : Int) (a0_8 : Int) (a0_9 : Int) (a0_10 : Int) (a0_11 : Int) (r1 : List Int) (r2 : Int) (w : World) (h : thalwegref04_Bytes.f k a0_0 a0_1 a0_2 a0_3 a0_4 a0_5 a0_6 a0_7 a0_8 a0_9 a0_10 a0_11 = some (r1, r2)) :
  Calls Try.prog 68 #[.agg #[.int .i64 a0_0, .int .i64 a0_1, .bool a0_2, .int .i64 a0_3, .int .i64 a0_4, .int .i64 a0_5, .int .i64 a0_6, .int .i64 a0_7, .int .i64 a0_8, .int .i64 a0_9, .int .i64 a0_10, .int .i64 a0_11]] w fun e w' => ∃ v0_ : Value, e = .returned (.tuple #[v0_, .int .i64 r2]) ∧ Kd.R (Kd.int .u8) 5 w' w.heap.size (fun _ => True) v0_ r1 ∧ Below w.heap.size w w' := by
 have hu34 := Try.underlying34
 have hu30 := Try.underlying30
 have HB := YL (Below.refl w.heap.size w)
 have H : ((thalwegref04_Right.f k a0_0 a0_1 a0_2 a0_3 a0_4 a0_5 a0_6 a0_7 a0_8 a0_9 a0_10 a0_11).bind fun t316 => (if t316 = true then ((some (([(a0_0) % 256, (a0_1) % 256] : List Int) : List Int)).bind fun y317 => (if a0_0 = 2 then (thalwegref04_Bytes.j0 k y317 true a0_0 a0_1 a0_2 a0_3 a0_4 a0_5 a0_6 a0_7 a0_8 a0_9 a0_10 a0_11) else (thalwegref04_Bytes.j0 k y317 (a0_0 == 4) a0_0 a0_1 a0_2 a0_3 a0_4 a0_5 a0_6 a0_7 a0_8 a0_9 a0_10 a0_11))) else (some (([] : List Int), 1)))) = some (r1, r2) := h
 clear h; replace H := Option.bind_eq_some_iff.mp H; obtain ⟨t316, A20, H⟩ := H
 replace H : (if t316 = true then ((some (([(a0_0) % 256, (a0_1) % 256] : List Int) : List Int)).bind fun y317 => (if a0_0 = 2 then (thalwegref04_Bytes.j0 k y317 true a0_0 a0_1 a0_2 a0_3 a0_4 a0_5 a0_6 a0_7 a0_8 a0_9 a0_10 a0_11) else (thalwegref04_Bytes.j0 k y317 (a0_0 == 4) a0_0 a0_1 a0_2 a0_3 a0_4 a0_5 a0_6 a0_7 a0_8 a0_9 a0_10 a0_11))) else (some (([] : List Int), 1))) = some (r1, r2) := H
 have A2 := YL A20; clear A20
 by_cases c3 : t316 = true
 ·subst c3
  have H1 : ((some (([(a0_0) % 256, (a0_1) % 256] : List Int) : List Int)).bind fun y317 => (if a0_0 = 2 then (thalwegref04_Bytes.j0 k y317 true a0_0 a0_1 a0_2 a0_3 a0_4 a0_5 a0_6 a0_7 a0_8 a0_9 a0_10 a0_11) else (thalwegref04_Bytes.j0 k y317 (a0_0 == 4) a0_0 a0_1 a0_2 a0_3 a0_4 a0_5 a0_6 a0_7 a0_8 a0_9 a0_10 a0_11))) = some (r1, r2) := by rw [if_pos rfl] at H; exact H
  clear H
  have H := H1
  clear H1
  obtain ⟨y317, hy317⟩ : ∃ y_ : List Int, y_ = (([(a0_0) % 256, (a0_1) % 256] : List Int)) := ⟨_, rfl⟩
  replace H : (if a0_0 = 2 then (thalwegref04_Bytes.j0 k y317 true a0_0 a0_1 a0_2 a0_3 a0_4 a0_5 a0_6 a0_7 a0_8 a0_9 a0_10 a0_11) else (thalwegref04_Bytes.j0 k y317 (a0_0 == 4) a0_0 a0_1 a0_2 a0_3 a0_4 a0_5 a0_6 a0_7 a0_8 a0_9 a0_10 a0_11)) = some (r1, r2) := by first | (rw [hy317]; with_reducible exact H) | (have H2_ := (Option.bind_some _ _).symm.trans H; rw [hy317]; with_reducible exact H2_) | (have H2_ := (Option.bind_some _ _).symm.trans H; with_reducible exact H2_) | with_reducible exact H | (rw [hy317]; exact H) | exact H
  have Ny317 := YL hy317; clear hy317; have HC4 := YL H; clear H
  go_enter Try.func68, Try.ntmps68
  go_upto_region 4 with (first | ((with_reducible refine gate_dst (N := 1) rfl ?_); refine box_event ?hg (N := 1) ?hd (cs := #[.int .i64 a0_0, .int .i64 a0_1, .bool a0_2, .int .i64 a0_3, .int .i64 a0_4, .int .i64 a0_5, .int .i64 a0_6, .int .i64 a0_7, .int .i64 a0_8, .int .i64 a0_9, .int .i64 a0_10, .int .i64 a0_11]) (t := 34) ?hr ?_; (case hd => rfl); (case hg => rfl); (case hr => first | (go_simp; done) | (go_simp; rfl)); intro gb315 hg w5 hbox hb; have n0_ := YL (YD (upB HB) hb); have n1_ := YL (hbox); have n2_ := YL ((by rw [hg]; exact (YE (upB HB)) : w.heap.size ≤ gb315)); have n3_ := YL ((by rw [hg]; exact (YE (upB HB)) : w.heap.size ≤ gb315)); clear HB; have HB := n0_; have BK315 := n1_; have GW315 := n2_; have GE315 := n3_; clear n0_ n1_ n2_ n3_; clear hb hbox hg; obtain ⟨q6_0, q6_1, q6_2, q6_3, q6_4, q6_5, q6_6, q6_7, q6_8, q6_9, q6_10, q6_11⟩ := cA12 BK315.out; obtain ⟨f6_0, f6_1, f6_2, f6_3, f6_4, f6_5, f6_6, f6_7, f6_8, f6_9, f6_10, f6_11⟩ := fA12 BK315.out) | ((with_reducible refine gate_callee (f := 39) rfl ?_); refine goesA (some 8) Try.func39 #[.agg #[.int .i64 a0_0, .int .i64 a0_1, .bool a0_2, .int .i64 a0_3, .int .i64 a0_4, .int .i64 a0_5, .int .i64 a0_6, .int .i64 a0_7, .int .i64 a0_8, .int .i64 a0_9, .int .i64 a0_10, .int .i64 a0_11]] ?_; (with_reducible refine (thalwegref04_Right.calls k a0_0 a0_1 a0_2 a0_3 a0_4 a0_5 a0_6 a0_7 a0_8 a0_9 a0_10 a0_11 true _ A2.out).mono ?_); rintro e w7 ⟨rfl, hb⟩; refine ⟨_, rfl, ?_⟩; have n0_ := YL (YK (g := gb315) (o := .cells #[.int .i64 a0_0, .int .i64 a0_1, .bool a0_2, .int .i64 a0_3, .int .i64 a0_4, .int .i64 a0_5, .int .i64 a0_6, .int .i64 a0_7, .int .i64 a0_8, .int .i64 a0_9, .int .i64 a0_10, .int .i64 a0_11] 34 (0, 0)) (upK BK315) hb); have n1_ := YL (YD (upB HB) hb); clear BK315; clear HB; have BK315 := n0_; have HB := n1_; clear n0_ n1_; (try clear hb); (try clear hb2); (try clear hk); (try clear hi); obtain ⟨q8_0, q8_1, q8_2, q8_3, q8_4, q8_5, q8_6, q8_7, q8_8, q8_9, q8_10, q8_11⟩ := cA12 BK315.out; obtain ⟨f8_0, f8_1, f8_2, f8_3, f8_4, f8_5, f8_6, f8_7, f8_8, f8_9, f8_10, f8_11⟩ := fA12 BK315.out) | ((with_reducible refine gate_dst (N := 16) rfl ?_); refine Kd.R_lit (Kd.int .u8) _ 5 ?hg (N := 16) ?hd (xs := ([(a0_0) % 256, (a0_1) % 256] : List Int)) (inner := [.int .u8 ((a0_0) % 256), .int .u8 ((a0_1) % 256)]) (ok := fun _ => True) (okp := fun _ => True) ?hr ?hp (fun _ hk => hk) trivial (Below.refl _ _) (Nat.le_refl _) (by simp) ?_; (case hd => rfl); (case hg => rfl); (case hr => first | (go_simp; done) | (go_simp; rfl)); (case hp => exact (Reps.one (show Kd.M (Kd.int .u8) _ _ _ ((a0_0) % 256) [.int .u8 ((a0_0) % 256)] from rfl) (Reps.one (show Kd.M (Kd.int .u8) _ _ _ ((a0_1) % 256) [.int .u8 ((a0_1) % 256)] from rfl) (Reps.none _ _)))); intro v318 w9 ho10 hb hg_ hnew_; clear hg_ hnew_; (first | rw [← Ny317.out] at ho10 | (simp only [Int.reduceToNat] at ho10; rw [← Ny317.out] at ho10)); have n0_ := YL (Kd.R_lower ho10 (YE (upB HB))); have n1_ := YL (YK (g := gb315) (o := .cells #[.int .i64 a0_0, .int .i64 a0_1, .bool a0_2, .int .i64 a0_3, .int .i64 a0_4, .int .i64 a0_5, .int .i64 a0_6, .int .i64 a0_7, .int .i64 a0_8, .int .i64 a0_9, .int .i64 a0_10, .int .i64 a0_11] 34 (0, 0)) (upK BK315) hb); have n2_ := YL (YD (upB HB) hb); clear BK315; clear HB; have HO319 := n0_; have BK315 := n1_; have HB := n2_; clear n0_ n1_ n2_; clear hb ho10))
  (try simp only [Act.put, List.setIfInBounds_toArray, List.set_cons_zero, List.set_cons_succ])
  go_cut [24] (fun v24 wc => ∃ (kq : Nat) (x24_3 : Bool), v24 = .bool x24_3 ∧ Aside0 (thalwegref04_Bytes.j0 kq y317 x24_3 a0_0 a0_1 a0_2 a0_3 a0_4 a0_5 a0_6 a0_7 a0_8 a0_9 a0_10 a0_11 = some (r1, r2)) ∧ Aside0 (kq ≤ k) ∧ Aside0 (Kd.R (Kd.int .u8) 5 wc w.heap.size (fun _ => True) v318 y317) ∧ Aside0 (wc.heap[gb315]? = some (.cells #[.int .i64 a0_0, .int .i64 a0_1, .bool a0_2, .int .i64 a0_3, .int .i64 a0_4, .int .i64 a0_5, .int .i64 a0_6, .int .i64 a0_7, .int .i64 a0_8, .int .i64 a0_9, .int .i64 a0_10, .int .i64 a0_11] 34 (0, 0))) ∧ Aside0 (Below w.heap.size w wc))
  case first =>
   have H := HC4.out
   clear HC4
   by_cases c11 : a0_0 = 2
   ·rw [if_pos c11] at H
    have c11b0 : (a0_0 == 2) = true := beq_iff_eq.mpr c11
    have c11b1 : (a0_0 != 2) = false := bne_eq_false_iff_eq.mpr c11
    clear c11
    (first | rw [c11b0] | (simp only [i64_w, i32_w]; rw [c11b0]) | rw [c11b1] | skip)
    have H' := YL H
    clear H
    obtain ⟨q12_0, q12_1, q12_2, q12_3, q12_4, q12_5, q12_6, q12_7, q12_8, q12_9, q12_10, q12_11⟩ := cA12 BK315.out
    obtain ⟨f12_0, f12_1, f12_2, f12_3, f12_4, f12_5, f12_6, f12_7, f12_8, f12_9, f12_10, f12_11⟩ := fA12 BK315.out
    go_wp2
    go_meet
    case rel => exact ⟨_, (true), (by first | rfl | (simp; done) | (simp [*]; done)), H', ⟨by first | omega | exact Nat.le_refl _⟩, ⟨by (with_reducible repeat (first | apply YP | apply YQ | apply YR)); exact HO319.out⟩, ⟨by (with_reducible repeat (first | refine YF ?_ _ | refine YG ?_ | refine YH ?_ _)); exact BK315.out⟩, ⟨by repeat (first | (with_reducible first | exact HB.out | apply YA | apply YB | apply YC | refine below_set ?_ GE315.out) | exact HB.out)⟩⟩
   rw [if_neg c11] at H
   have c11b0 : (a0_0 == 2) = false := beq_eq_false_iff_ne.mpr c11
   have c11b1 : (a0_0 != 2) = true := bne_iff_ne.mpr c11
   (first | rw [c11b0] | (simp only [i64_w, i32_w]; rw [c11b0]) | rw [c11b1] | skip)
   have H' := YL H
   clear H
   obtain ⟨q13_0, q13_1, q13_2, q13_3, q13_4, q13_5, q13_6, q13_7, q13_8, q13_9, q13_10, q13_11⟩ := cA12 BK315.out
   obtain ⟨f13_0, f13_1, f13_2, f13_3, f13_4, f13_5, f13_6, f13_7, f13_8, f13_9, f13_10, f13_11⟩ := fA12 BK315.out
   go_wp2
   go_meet
   case rel => exact ⟨_, ((a0_0 == 4)), (by first | rfl | (simp; done) | (simp [*]; done)), H', ⟨by first | omega | exact Nat.le_refl _⟩, ⟨by (with_reducible repeat (first | apply YP | apply YQ | apply YR)); exact HO319.out⟩, ⟨by (with_reducible repeat (first | refine YF ?_ _ | refine YG ?_ | refine YH ?_ _)); exact BK315.out⟩, ⟨by repeat (first | (with_reducible first | exact HB.out | apply YA | apply YB | apply YC | refine below_set ?_ GE315.out) | exact HB.out)⟩⟩
  case rest =>
   clear HC4
   try clear c1; try clear p2
   try clear c3; try clear c6
   try clear c11; try clear c11b0
   try clear c11b1; try clear q12_0
   try clear q12_1; try clear q12_10
   try clear q12_11; try clear q12_2
   try clear q12_3; try clear q12_4
   try clear q12_5; try clear q12_6
   try clear q12_7; try clear q12_8
   try clear q12_9; try clear q13_0
   try clear q13_1; try clear q13_10
   try clear q13_11; try clear q13_2
   try clear q13_3; try clear q13_4
   try clear q13_5; try clear q13_6
   try clear q13_7; try clear q13_8
   try clear q13_9; try clear q6_0
   try clear q6_1; try clear q6_10
   try clear q6_11; try clear q6_2
   try clear q6_3; try clear q6_4
   try clear q6_5; try clear q6_6
   try clear q6_7; try clear q6_8
   try clear q6_9; try clear q8_0
   try clear q8_1; try clear q8_10
   try clear q8_11; try clear q8_2
   try clear q8_3; try clear q8_4
   try clear q8_5; try clear q8_6
   try clear q8_7; try clear q8_8
   try clear q8_9; try clear f12_0
   try clear f12_1; try clear f12_10
   try clear f12_11; try clear f12_2
   try clear f12_3; try clear f12_4
   try clear f12_5; try clear f12_6
   try clear f12_7; try clear f12_8
   try clear f12_9; try clear f13_0
   try clear f13_1; try clear f13_10
   try clear f13_11; try clear f13_2
   try clear f13_3; try clear f13_4
   try clear f13_5; try clear f13_6
   try clear f13_7; try clear f13_8
   try clear f13_9; try clear f6_0
   try clear f6_1; try clear f6_10
   try clear f6_11; try clear f6_2
   try clear f6_3; try clear f6_4
   try clear f6_5; try clear f6_6
   try clear f6_7; try clear f6_8
   try clear f6_9; try clear f8_0
   try clear f8_1; try clear f8_10
   try clear f8_11; try clear f8_2
   try clear f8_3; try clear f8_4
   try clear f8_5; try clear f8_6
   try clear f8_7; try clear f8_8; try clear f8_9
   obtain ⟨kq, x24_3, rfl, HA, HJ3, HO_4, BK315, HB⟩ := hcut
   cases kq with
   | zero => exact absurd HA.out (by simp [thalwegref04_Bytes.j0])
   | succ kj3 =>
    have H := HA.out
    clear HA
    simp only [thalwegref04_Bytes.j0] at H
    have HC14 := YL H; clear H
    go_upto_if 24 with (fail)
    go_cut [4] (fun v4 wc => ∃ (kq : Nat) (x4_13 : List Int), Aside0 (thalwegref04_Bytes.j1 kq x4_13 a0_0 a0_1 a0_2 a0_3 a0_4 a0_5 a0_6 a0_7 a0_8 a0_9 a0_10 a0_11 = some (r1, r2)) ∧ Aside0 (kq ≤ kj3) ∧ Aside0 (Kd.R (Kd.int .u8) 5 wc w.heap.size (fun _ => True) v4 x4_13) ∧ Aside0 (wc.heap[gb315]? = some (.cells #[.int .i64 a0_0, .int .i64 a0_1, .bool a0_2, .int .i64 a0_3, .int .i64 a0_4, .int .i64 a0_5, .int .i64 a0_6, .int .i64 a0_7, .int .i64 a0_8, .int .i64 a0_9, .int .i64 a0_10, .int .i64 a0_11] 34 (0, 0))) ∧ Aside0 (Below w.heap.size w wc))
    case first =>
     have H := HC14.out
     clear HC14
     by_cases c15 : x24_3 = true
     ·subst c15
      have H1 : ((thalwegref02_Bytes.f kj3 a0_2 a0_3 a0_4 a0_5 a0_6 a0_7).bind fun bt320 => (if y317.length + bt320.1.length < 140737488355328 then (thalwegref04_Bytes.j1 kj3 (y317 ++ bt320.1) a0_0 a0_1 a0_2 a0_3 a0_4 a0_5 a0_6 a0_7 a0_8 a0_9 a0_10 a0_11) else (none))) = some (r1, r2) := by rw [if_pos rfl] at H; exact H
      clear H
      have H := H1
      clear H1; replace H := Option.bind_eq_some_iff.mp H
      obtain ⟨⟨t320, t323⟩, A160, H⟩ := H
      replace H : (if y317.length + t320.length < 140737488355328 then (thalwegref04_Bytes.j1 kj3 (y317 ++ t320) a0_0 a0_1 a0_2 a0_3 a0_4 a0_5 a0_6 a0_7 a0_8 a0_9 a0_10 a0_11) else (none)) = some (r1, r2) := H
      have A16 := YL A160; clear A160
      by_cases c17 : y317.length + t320.length < 140737488355328
      rotate_left
      ·rw [if_neg c17] at H
       exact absurd H (by simp)
      rw [if_pos c17] at H; have LMc17 := YL c17; clear c17
      obtain ⟨y324, hy324⟩ : ∃ y_ : List Int, y_ = (y317 ++ t320) := ⟨_, rfl⟩
      replace H : (thalwegref04_Bytes.j1 kj3 y324 a0_0 a0_1 a0_2 a0_3 a0_4 a0_5 a0_6 a0_7 a0_8 a0_9 a0_10 a0_11) = some (r1, r2) := by first | (rw [hy324]; with_reducible exact H) | (have H2_ := (Option.bind_some _ _).symm.trans H; rw [hy324]; with_reducible exact H2_) | (have H2_ := (Option.bind_some _ _).symm.trans H; with_reducible exact H2_) | with_reducible exact H | (rw [hy324]; exact H) | exact H
      have Ny324 := YL hy324; clear hy324
      have H' := YL H
      clear H
      obtain ⟨q18_0, q18_1, q18_2, q18_3, q18_4, q18_5, q18_6, q18_7, q18_8, q18_9, q18_10, q18_11⟩ := cA12 BK315.out
      obtain ⟨f18_0, f18_1, f18_2, f18_3, f18_4, f18_5, f18_6, f18_7, f18_8, f18_9, f18_10, f18_11⟩ := fA12 BK315.out
      go_wp2_with (first | ((with_reducible refine gate_callee (f := 71) rfl ?_); refine goesA (some 28) Try.func71 #[.agg #[.bool a0_2, .int .i64 a0_3, .int .i64 a0_4, .int .i64 a0_5, .int .i64 a0_6, .int .i64 a0_7]] ?_; (with_reducible refine (thalwegref02_Bytes.calls kj3 a0_2 a0_3 a0_4 a0_5 a0_6 a0_7 t320 t323 _ A16.out).mono ?_); rintro e w19 ⟨v321, rfl, ho0, hb⟩; refine ⟨_, rfl, ?_⟩; have n0_ := YL (Kd.R_elder' (upR HO_4) (Kd.R_base ho0) hb); have n1_ := YL (Kd.R_lower (Kd.R_new' ho0 (Kd.R_lt (upR HO_4))) (YE (upB HB))); have n2_ := YL (YK (g := gb315) (o := .cells #[.int .i64 a0_0, .int .i64 a0_1, .bool a0_2, .int .i64 a0_3, .int .i64 a0_4, .int .i64 a0_5, .int .i64 a0_6, .int .i64 a0_7, .int .i64 a0_8, .int .i64 a0_9, .int .i64 a0_10, .int .i64 a0_11] 34 (0, 0)) (upK BK315) hb); have n3_ := YL (YD (upB HB) hb); clear HO_4; clear BK315; clear HB; have HO_4 := n0_; have HO322 := n1_; have BK315 := n2_; have HB := n3_; clear n0_ n1_ n2_ n3_; (try clear hb); (try clear hb2); (try clear hk); (try clear hi); (try clear ho0); obtain ⟨Ao21, co21, eo21⟩ := Kd.R_slice HO322.out; subst eo21) | ((with_reducible refine gate_builtin (b := .append) (xs := #[.tmp 31, .tmp 32]) rfl ?_); at_builtin; refine Kd.R_append_rows (Kd.int .u8) (w0 := w) w.heap.size rfl (.tmp 31) (.tmp 32) 107 5 (.int .u8 0) 1 rfl Try.underlying107 info5 rfl (by decide) (by omega) v318 y317 t320 _ _ _ (fun k_ => some k_ ≠ (.slice Ao21 t320.length co21 : Value).ownBlock) (fun _ => False) rfl rfl ?aO ?aR (fun _ _ h => h) (fun _ h => h.elim) ?aF ?aB ?aS ?aL ?_; (case aR => repeat (first | exact (Kd.R_reads' HO322.out).2.2 | (with_reducible refine Kd.C_alloc ?_ _) | (with_reducible refine Kd.C_drewN ?_ _) | (with_reducible refine Kd.C_drew ?_))); (case aB => exact (upB HB)); (case aF => exact (fun k_ hk => Kd.fresh' (Kd.R_lt (upR HO322)) k_ hk)); (case aO => exact (by (with_reducible repeat (first | apply YP | apply YQ | apply YR)); exact Kd.R_mono HO_4.out (fun _ hk => by first | exact hk.2 | exact trivial | (simp [hk]; done) | simp_all))); (case aS => exact (YE (upB HB))); (case aL => have := LMc17.out; omega); intro v325 w20 ho hb hg hat; rw [← Ny324.out] at ho; have n0_ := YL (blk_grown (g := gb315) (o := .cells #[.int .i64 a0_0, .int .i64 a0_1, .bool a0_2, .int .i64 a0_3, .int .i64 a0_4, .int .i64 a0_5, .int .i64 a0_6, .int .i64 a0_7, .int .i64 a0_8, .int .i64 a0_9, .int .i64 a0_10, .int .i64 a0_11] 34 (0, 0)) (upK BK315) hg (Kd.R_ne HO_4.out BK315.out (by decide))); have n1_ := YL (Kd.R_after (ok := (fun _ => True)) (upR HO322) hg hat); have n2_ := YL (hb); have n3_ := YL (ho); clear BK315; clear HO322; clear HB; clear HO_4; have BK315 := n0_; have HO322 := n1_; have HB := n2_; have HO326 := n3_; clear n0_ n1_ n2_ n3_; clear ho hb hg hat))
      go_meet
      case rel => exact ⟨_, (y324), H', ⟨by have := HJ3.out; first | omega | exact Nat.le_refl _⟩, ⟨by (with_reducible repeat (first | apply YP | apply YQ | apply YR)); exact Kd.R_mono HO326.out (fun _ hk => trivial)⟩, ⟨by (with_reducible repeat (first | refine YF ?_ _ | refine YG ?_ | refine YH ?_ _)); exact BK315.out⟩, ⟨by repeat (first | (with_reducible first | exact HB.out | apply YA | apply YB | apply YC | refine below_set ?_ GE315.out) | exact HB.out)⟩⟩
     replace c15 := Bool.eq_false_iff.mpr c15
     subst c15
     have H1 : (thalwegref04_Bytes.j1 kj3 y317 a0_0 a0_1 a0_2 a0_3 a0_4 a0_5 a0_6 a0_7 a0_8 a0_9 a0_10 a0_11) = some (r1, r2) := by rw [if_neg (show ¬ (false = true) by decide)] at H; exact H
     clear H
     have H := H1
     clear H1
     have H' := YL H
     clear H
     go_wp2
     go_meet
     case rel => exact ⟨_, (y317), H', ⟨by have := HJ3.out; first | omega | exact Nat.le_refl _⟩, ⟨by (with_reducible repeat (first | apply YP | apply YQ | apply YR)); exact HO_4.out⟩, ⟨by (with_reducible repeat (first | refine YF ?_ _ | refine YG ?_ | refine YH ?_ _)); exact BK315.out⟩, ⟨by repeat (first | (with_reducible first | exact HB.out | apply YA | apply YB | apply YC | refine below_set ?_ GE315.out) | exact HB.out)⟩⟩
    case rest =>
     clear HC14
     try clear c1; try clear p2
     try clear c3; try clear c6
     try clear c7; try clear c11
     try clear c11b0; try clear c11b1
     try clear c15; try clear c17
     try clear q12_0; try clear q12_1
     try clear q12_10; try clear q12_11
     try clear q12_2; try clear q12_3
     try clear q12_4; try clear q12_5
     try clear q12_6; try clear q12_7
     try clear q12_8; try clear q12_9
     try clear q13_0; try clear q13_1
     try clear q13_10; try clear q13_11
     try clear q13_2; try clear q13_3
     try clear q13_4; try clear q13_5
     try clear q13_6; try clear q13_7
     try clear q13_8; try clear q13_9
     try clear q18_0; try clear q18_1
     try clear q18_10; try clear q18_11
     try clear q18_2; try clear q18_3
     try clear q18_4; try clear q18_5
     try clear q18_6; try clear q18_7
     try clear q18_8; try clear q18_9
     try clear q6_0; try clear q6_1
     try clear q6_10; try clear q6_11
     try clear q6_2; try clear q6_3
     try clear q6_4; try clear q6_5
     try clear q6_6; try clear q6_7
     try clear q6_8; try clear q6_9
     try clear q8_0; try clear q8_1
     try clear q8_10; try clear q8_11
     try clear q8_2; try clear q8_3
     try clear q8_4; try clear q8_5
     try clear q8_6; try clear q8_7
     try clear q8_8; try clear q8_9
     try clear f12_0; try clear f12_1
     try clear f12_10; try clear f12_11
     try clear f12_2; try clear f12_3
     try clear f12_4; try clear f12_5
     try clear f12_6; try clear f12_7
     try clear f12_8; try clear f12_9
     try clear f13_0; try clear f13_1
     try clear f13_10; try clear f13_11
     try clear f13_2; try clear f13_3
     try clear f13_4; try clear f13_5
     try clear f13_6; try clear f13_7
     try clear f13_8; try clear f13_9
     try clear f18_0; try clear f18_1
     try clear f18_10; try clear f18_11
     try clear f18_2; try clear f18_3
     try clear f18_4; try clear f18_5
     try clear f18_6; try clear f18_7
     try clear f18_8; try clear f18_9
     try clear f6_0; try clear f6_1
     try clear f6_10; try clear f6_11
     try clear f6_2; try clear f6_3
     try clear f6_4; try clear f6_5
     try clear f6_6; try clear f6_7
     try clear f6_8; try clear f6_9
     try clear f8_0; try clear f8_1
     try clear f8_10; try clear f8_11
     try clear f8_2; try clear f8_3
     try clear f8_4; try clear f8_5
     try clear f8_6; try clear f8_7
     try clear f8_8; try clear f8_9; try clear p2
     obtain ⟨kq, x4_13, HA, HJ13, HO_4, BK315, HB⟩ := hcut
     cases kq with
     | zero => exact absurd HA.out (by simp [thalwegref04_Bytes.j1])
     | succ kj13 =>
      have H := HA.out
      clear HA
      simp only [thalwegref04_Bytes.j1] at H
      by_cases c22 : a0_0 = 3
      ·rw [if_pos c22] at H
       have c22b0 : (a0_0 == 3) = true := beq_iff_eq.mpr c22
       have c22b1 : (a0_0 != 3) = false := bne_eq_false_iff_eq.mpr c22
       clear c22; replace H := Option.bind_eq_some_iff.mp H; obtain ⟨t327, A230, H⟩ := H
       replace H : (if x4_13.length + t327.length < 140737488355328 then ((some (x4_13 ++ t327 : List Int)).bind fun y330 => ((some (([(a0_9) % 256, (a0_10) % 256] : List Int) : List Int)).bind fun y333 => (if y330.length + y333.length < 140737488355328 then (if a0_0 = 4 then (none) else (some ((y330 ++ y333), 0))) else (none)))) else (none)) = some (r1, r2) := H
       have A23 := YL A230; clear A230
       by_cases c24 : x4_13.length + t327.length < 140737488355328
       rotate_left
       ·rw [if_neg c24] at H
        exact absurd H (by simp)
       rw [if_pos c24] at H; have LMc24 := YL c24; clear c24
       obtain ⟨y330, hy330⟩ : ∃ y_ : List Int, y_ = (x4_13 ++ t327) := ⟨_, rfl⟩
       replace H : ((some (([(a0_9) % 256, (a0_10) % 256] : List Int) : List Int)).bind fun y333 => (if y330.length + y333.length < 140737488355328 then (if a0_0 = 4 then (none) else (some ((y330 ++ y333), 0))) else (none))) = some (r1, r2) := by first | (rw [hy330]; with_reducible exact H) | (have H2_ := (Option.bind_some _ _).symm.trans H; rw [hy330]; with_reducible exact H2_) | (have H2_ := (Option.bind_some _ _).symm.trans H; with_reducible exact H2_) | with_reducible exact H | (rw [hy330]; exact H) | exact H
       have Ny330 := YL hy330; clear hy330
       obtain ⟨y333, hy333⟩ : ∃ y_ : List Int, y_ = (([(a0_9) % 256, (a0_10) % 256] : List Int)) := ⟨_, rfl⟩
       replace H : (if y330.length + y333.length < 140737488355328 then (if a0_0 = 4 then (none) else (some ((y330 ++ y333), 0))) else (none)) = some (r1, r2) := by first | (rw [hy333]; with_reducible exact H) | (have H2_ := (Option.bind_some _ _).symm.trans H; rw [hy333]; with_reducible exact H2_) | (have H2_ := (Option.bind_some _ _).symm.trans H; with_reducible exact H2_) | with_reducible exact H | (rw [hy333]; exact H) | exact H
       have Ny333 := YL hy333; clear hy333
       by_cases c25 : y330.length + y333.length < 140737488355328
       rotate_left
       ·rw [if_neg c25] at H
        exact absurd H (by simp)
       rw [if_pos c25] at H; have LMc25 := YL c25; clear c25
       obtain ⟨y336, hy336⟩ : ∃ y_ : List Int, y_ = (y330 ++ y333) := ⟨_, rfl⟩
       replace H : (if a0_0 = 4 then (none) else (some (y336, 0))) = some (r1, r2) := by first | (rw [hy336]; with_reducible exact H) | (have H2_ := (Option.bind_some _ _).symm.trans H; rw [hy336]; with_reducible exact H2_) | (have H2_ := (Option.bind_some _ _).symm.trans H; with_reducible exact H2_) | with_reducible exact H | (rw [hy336]; exact H) | exact H
       have Ny336 := YL hy336; clear hy336
       by_cases c26 : a0_0 = 4
       ·rw [if_pos c26] at H
        exact absurd H (by simp)
       rw [if_neg c26] at H
       have c26b0 : (a0_0 == 4) = false := beq_eq_false_iff_ne.mpr c26
       have c26b1 : (a0_0 != 4) = true := bne_iff_ne.mpr c26
       simp only [Option.some.injEq, Prod.mk.injEq] at H
       obtain ⟨rfl, rfl⟩ := H
       obtain ⟨q27_0, q27_1, q27_2, q27_3, q27_4, q27_5, q27_6, q27_7, q27_8, q27_9, q27_10, q27_11⟩ := cA12 BK315.out
       obtain ⟨f27_0, f27_1, f27_2, f27_3, f27_4, f27_5, f27_6, f27_7, f27_8, f27_9, f27_10, f27_11⟩ := fA12 BK315.out
       go_wp2_with (first | ((with_reducible refine gate_callee (f := 72) rfl ?_); refine goesA (some 41) Try.func72 #[.int .i64 a0_8] ?_; (with_reducible refine (thalwegref01_Int.calls kj13 a0_8 t327 _ A23.out).mono ?_); rintro e w28 ⟨v328, rfl, ho0, hb⟩; refine ⟨_, rfl, ?_⟩; have n0_ := YL (Kd.R_elder' (upR HO_4) (Kd.R_base ho0) hb); have n1_ := YL (Kd.R_lower (Kd.R_new' ho0 (Kd.R_lt (upR HO_4))) (YE (upB HB))); have n2_ := YL (YK (g := gb315) (o := .cells #[.int .i64 a0_0, .int .i64 a0_1, .bool a0_2, .int .i64 a0_3, .int .i64 a0_4, .int .i64 a0_5, .int .i64 a0_6, .int .i64 a0_7, .int .i64 a0_8, .int .i64 a0_9, .int .i64 a0_10, .int .i64 a0_11] 34 (0, 0)) (upK BK315) hb); have n3_ := YL (YD (upB HB) hb); clear HO_4; clear BK315; clear HB; have HO_4 := n0_; have HO329 := n1_; have BK315 := n2_; have HB := n3_; clear n0_ n1_ n2_ n3_; (try clear hb); (try clear hb2); (try clear hk); (try clear hi); (try clear ho0); obtain ⟨Ao30, co30, eo30⟩ := Kd.R_slice HO329.out; subst eo30) | ((with_reducible refine gate_builtin (b := .append) (xs := #[.tmp 37, .tmp 41]) rfl ?_); at_builtin; refine Kd.R_append_rows (Kd.int .u8) (w0 := w) w.heap.size rfl (.tmp 37) (.tmp 41) 107 5 (.int .u8 0) 1 rfl Try.underlying107 info5 rfl (by decide) (by omega) u4 x4_13 t327 _ _ _ (fun k_ => some k_ ≠ (.slice Ao30 t327.length co30 : Value).ownBlock) (fun _ => False) rfl rfl ?aO ?aR (fun _ _ h => h) (fun _ h => h.elim) ?aF ?aB ?aS ?aL ?_; (case aR => repeat (first | exact (Kd.R_reads' HO329.out).2.2 | (with_reducible refine Kd.C_alloc ?_ _) | (with_reducible refine Kd.C_drewN ?_ _) | (with_reducible refine Kd.C_drew ?_))); (case aB => exact (upB HB)); (case aF => exact (fun k_ hk => Kd.fresh' (Kd.R_lt (upR HO329)) k_ hk)); (case aO => exact (by (with_reducible repeat (first | apply YP | apply YQ | apply YR)); exact Kd.R_mono HO_4.out (fun _ hk => by first | exact hk.2 | exact trivial | (simp [hk]; done) | simp_all))); (case aS => exact (YE (upB HB))); (case aL => have := LMc24.out; omega); intro v331 w29 ho hb hg hat; rw [← Ny330.out] at ho; have n0_ := YL (blk_grown (g := gb315) (o := .cells #[.int .i64 a0_0, .int .i64 a0_1, .bool a0_2, .int .i64 a0_3, .int .i64 a0_4, .int .i64 a0_5, .int .i64 a0_6, .int .i64 a0_7, .int .i64 a0_8, .int .i64 a0_9, .int .i64 a0_10, .int .i64 a0_11] 34 (0, 0)) (upK BK315) hg (Kd.R_ne HO_4.out BK315.out (by decide))); have n1_ := YL (Kd.R_after (ok := (fun _ => True)) (upR HO329) hg hat); have n2_ := YL (hb); have n3_ := YL (ho); clear BK315; clear HO329; clear HB; clear HO_4; have BK315 := n0_; have HO329 := n1_; have HB := n2_; have HO332 := n3_; clear n0_ n1_ n2_ n3_; clear ho hb hg hat; obtain ⟨q31_0, q31_1, q31_2, q31_3, q31_4, q31_5, q31_6, q31_7, q31_8, q31_9, q31_10, q31_11⟩ := cA12 BK315.out; obtain ⟨f31_0, f31_1, f31_2, f31_3, f31_4, f31_5, f31_6, f31_7, f31_8, f31_9, f31_10, f31_11⟩ := fA12 BK315.out) | ((with_reducible refine gate_dst (N := 52) rfl ?_); refine Kd.R_lit (Kd.int .u8) _ 5 ?hg (N := 52) ?hd (xs := ([(a0_9) % 256, (a0_10) % 256] : List Int)) (inner := [.int .u8 ((a0_9) % 256), .int .u8 ((a0_10) % 256)]) (ok := fun _ => True) (okp := fun _ => True) ?hr ?hp (fun _ hk => hk) trivial (Below.refl _ _) (Nat.le_refl _) (by simp) ?_; (case hd => rfl); (case hg => rfl); (case hr => first | (go_simp; done) | (go_simp; rfl)); (case hp => exact (Reps.one (show Kd.M (Kd.int .u8) _ _ _ ((a0_9) % 256) [.int .u8 ((a0_9) % 256)] from rfl) (Reps.one (show Kd.M (Kd.int .u8) _ _ _ ((a0_10) % 256) [.int .u8 ((a0_10) % 256)] from rfl) (Reps.none _ _)))); intro v334 w32 ho33 hb hg_ hnew_; clear hg_ hnew_; (first | rw [← Ny333.out] at ho33 | (simp only [Int.reduceToNat] at ho33; rw [← Ny333.out] at ho33)); have n0_ := YL (Kd.R_elder' (upR HO329) (Kd.R_base ho33) hb); have n1_ := YL (Kd.R_elder' (upR HO332) (Kd.R_base ho33) hb); have n2_ := YL (Kd.R_lower (Kd.R_new' (Kd.R_new' ho33 (Kd.R_lt (upR HO329))) (Kd.R_lt (upR HO332))) (YE (upB HB))); have n3_ := YL (YK (g := gb315) (o := .cells #[.int .i64 a0_0, .int .i64 a0_1, .bool a0_2, .int .i64 a0_3, .int .i64 a0_4, .int .i64 a0_5, .int .i64 a0_6, .int .i64 a0_7, .int .i64 a0_8, .int .i64 a0_9, .int .i64 a0_10, .int .i64 a0_11] 34 (0, 0)) (upK BK315) hb); have n4_ := YL (YD (upB HB) hb); clear HO329; clear HO332; clear BK315; clear HB; have HO329 := n0_; have HO332 := n1_; have HO335 := n2_; have BK315 := n3_; have HB := n4_; clear n0_ n1_ n2_ n3_ n4_; clear hb ho33; obtain ⟨Ao35, co35, eo35⟩ := Kd.R_slice HO335.out; subst eo35) | ((with_reducible refine gate_builtin (b := .append) (xs := #[.tmp 43, .tmp 52]) rfl ?_); at_builtin; refine Kd.R_append_rows (Kd.int .u8) (w0 := w) w.heap.size rfl (.tmp 43) (.tmp 52) 107 5 (.int .u8 0) 1 rfl Try.underlying107 info5 rfl (by decide) (by omega) v331 y330 y333 _ _ _ (fun k_ => some k_ ≠ (.slice Ao30 t327.length co30 : Value).ownBlock ∧ some k_ ≠ (.slice Ao35 y333.length co35 : Value).ownBlock) (fun _ => False) rfl rfl ?aO ?aR (fun _ _ h => h) (fun _ h => h.elim) ?aF ?aB ?aS ?aL ?_; (case aR => repeat (first | exact (Kd.R_reads' HO335.out).2.2 | (with_reducible refine Kd.C_alloc ?_ _) | (with_reducible refine Kd.C_drewN ?_ _) | (with_reducible refine Kd.C_drew ?_))); (case aB => exact (upB HB)); (case aF => exact (fun k_ hk => ⟨Kd.fresh' (Kd.R_lt (upR HO329)) k_ hk, Kd.fresh' (Kd.R_lt (upR HO335)) k_ hk⟩)); (case aO => exact (upR HO332)); (case aS => exact (YE (upB HB))); (case aL => have := LMc25.out; omega); intro v337 w34 ho hb hg hat; rw [← Ny336.out] at ho; have n0_ := YL (blk_grown (g := gb315) (o := .cells #[.int .i64 a0_0, .int .i64 a0_1, .bool a0_2, .int .i64 a0_3, .int .i64 a0_4, .int .i64 a0_5, .int .i64 a0_6, .int .i64 a0_7, .int .i64 a0_8, .int .i64 a0_9, .int .i64 a0_10, .int .i64 a0_11] 34 (0, 0)) (upK BK315) hg (Kd.R_ne HO332.out BK315.out (by decide))); have n1_ := YL (Kd.R_after (ok := (fun k_ => some k_ ≠ (.slice Ao35 y333.length co35 : Value).ownBlock)) (by (with_reducible repeat (first | apply YP | apply YQ | apply YR)); exact Kd.R_mono HO329.out (fun _ hk => by first | exact ⟨hk.2, hk.1.2⟩ | exact trivial | (simp [hk]; done) | simp_all)) hg hat); have n2_ := YL (Kd.R_after (ok := (fun k_ => some k_ ≠ (.slice Ao30 t327.length co30 : Value).ownBlock)) (by (with_reducible repeat (first | apply YP | apply YQ | apply YR)); exact Kd.R_mono HO335.out (fun _ hk => by first | exact ⟨hk.1.2, hk.2⟩ | exact trivial | (simp [hk]; done) | simp_all)) hg hat); have n3_ := YL (hb); have n4_ := YL (ho); clear BK315; clear HO329; clear HO335; clear HB; clear HO332; have BK315 := n0_; have HO329 := n1_; have HO335 := n2_; have HB := n3_; have HO338 := n4_; clear n0_ n1_ n2_ n3_ n4_; clear ho hb hg hat; obtain ⟨q36_0, q36_1, q36_2, q36_3, q36_4, q36_5, q36_6, q36_7, q36_8, q36_9, q36_10, q36_11⟩ := cA12 BK315.out; obtain ⟨f36_0, f36_1, f36_2, f36_3, f36_4, f36_5, f36_6, f36_7, f36_8, f36_9, f36_10, f36_11⟩ := fA12 BK315.out))
       go_ret2
       exact ⟨_, by first | rfl | (simp [errW_none, errW_some] <;> rfl) | (simp [*, errW_none, errW_some] <;> rfl), by (with_reducible repeat (first | apply YP | apply YQ | apply YR)); exact Kd.R_mono HO338.out (fun _ hk => trivial), by repeat (first | (with_reducible first | exact HB.out | apply YA | apply YB | apply YC | refine below_set ?_ GE315.out) | exact HB.out)⟩
      rw [if_neg c22] at H
      have c22b0 : (a0_0 == 3) = false := beq_eq_false_iff_ne.mpr c22
      have c22b1 : (a0_0 != 3) = true := bne_iff_ne.mpr c22
      by_cases c37 : a0_0 = 4
      ·rw [if_pos c37] at H
       have c37b0 : (a0_0 == 4) = true := beq_iff_eq.mpr c37
       have c37b1 : (a0_0 != 4) = false := bne_eq_false_iff_eq.mpr c37
       clear c37
       obtain ⟨y339, hy339⟩ : ∃ y_ : List Int, y_ = (([(wrap64 (Int.tdiv a0_11 256)) % 256, (Int.tmod a0_11 256) % 256] : List Int)) := ⟨_, rfl⟩
       replace H : (if x4_13.length + y339.length < 140737488355328 then (some ((x4_13 ++ y339), 0)) else (none)) = some (r1, r2) := by first | (rw [hy339]; with_reducible exact H) | (have H2_ := (Option.bind_some _ _).symm.trans H; rw [hy339]; with_reducible exact H2_) | (have H2_ := (Option.bind_some _ _).symm.trans H; with_reducible exact H2_) | with_reducible exact H | (rw [hy339]; exact H) | exact H
       have Ny339 := YL hy339; clear hy339
       by_cases c38 : x4_13.length + y339.length < 140737488355328
       rotate_left
       ·rw [if_neg c38] at H
        exact absurd H (by simp)
       rw [if_pos c38] at H; have LMc38 := YL c38; clear c38
       obtain ⟨y342, hy342⟩ : ∃ y_ : List Int, y_ = (x4_13 ++ y339) := ⟨_, rfl⟩
       replace H : (some (y342, 0)) = some (r1, r2) := by first | (rw [hy342]; with_reducible exact H) | (have H2_ := (Option.bind_some _ _).symm.trans H; rw [hy342]; with_reducible exact H2_) | (have H2_ := (Option.bind_some _ _).symm.trans H; with_reducible exact H2_) | with_reducible exact H | (rw [hy342]; exact H) | exact H
       have Ny342 := YL hy342; clear hy342
       simp only [Option.some.injEq, Prod.mk.injEq] at H
       obtain ⟨rfl, rfl⟩ := H
       obtain ⟨q39_0, q39_1, q39_2, q39_3, q39_4, q39_5, q39_6, q39_7, q39_8, q39_9, q39_10, q39_11⟩ := cA12 BK315.out
       obtain ⟨f39_0, f39_1, f39_2, f39_3, f39_4, f39_5, f39_6, f39_7, f39_8, f39_9, f39_10, f39_11⟩ := fA12 BK315.out
       go_wp2_with (first | ((with_reducible refine gate_dst (N := 66) rfl ?_); refine Kd.R_lit (Kd.int .u8) _ 5 ?hg (N := 66) ?hd (xs := ([(wrap64 (Int.tdiv a0_11 256)) % 256, (Int.tmod a0_11 256) % 256] : List Int)) (inner := [.int .u8 ((wrap64 (Int.tdiv a0_11 256)) % 256), .int .u8 ((Int.tmod a0_11 256) % 256)]) (ok := fun _ => True) (okp := fun _ => True) ?hr ?hp (fun _ hk => hk) trivial (Below.refl _ _) (Nat.le_refl _) (by simp) ?_; (case hd => rfl); (case hg => rfl); (case hr => first | (go_simp; done) | (go_simp; rfl)); (case hp => exact (Reps.one (show Kd.M (Kd.int .u8) _ _ _ ((wrap64 (Int.tdiv a0_11 256)) % 256) [.int .u8 ((wrap64 (Int.tdiv a0_11 256)) % 256)] from rfl) (Reps.one (show Kd.M (Kd.int .u8) _ _ _ ((Int.tmod a0_11 256) % 256) [.int .u8 ((Int.tmod a0_11 256) % 256)] from rfl) (Reps.none _ _)))); intro v340 w40 ho41 hb hg_ hnew_; clear hg_ hnew_; (first | rw [← Ny339.out] at ho41 | (simp only [Int.reduceToNat] at ho41; rw [← Ny339.out] at ho41)); have n0_ := YL (Kd.R_elder' (upR HO_4) (Kd.R_base ho41) hb); have n1_ := YL (Kd.R_lower (Kd.R_new' ho41 (Kd.R_lt (upR HO_4))) (YE (upB HB))); have n2_ := YL (YK (g := gb315) (o := .cells #[.int .i64 a0_0, .int .i64 a0_1, .bool a0_2, .int .i64 a0_3, .int .i64 a0_4, .int .i64 a0_5, .int .i64 a0_6, .int .i64 a0_7, .int .i64 a0_8, .int .i64 a0_9, .int .i64 a0_10, .int .i64 a0_11] 34 (0, 0)) (upK BK315) hb); have n3_ := YL (YD (upB HB) hb); clear HO_4; clear BK315; clear HB; have HO_4 := n0_; have HO341 := n1_; have BK315 := n2_; have HB := n3_; clear n0_ n1_ n2_ n3_; clear hb ho41; obtain ⟨Ao43, co43, eo43⟩ := Kd.R_slice HO341.out; subst eo43) | ((with_reducible refine gate_builtin (b := .append) (xs := #[.tmp 57, .tmp 66]) rfl ?_); at_builtin; refine Kd.R_append_rows (Kd.int .u8) (w0 := w) w.heap.size rfl (.tmp 57) (.tmp 66) 107 5 (.int .u8 0) 1 rfl Try.underlying107 info5 rfl (by decide) (by omega) u4 x4_13 y339 _ _ _ (fun k_ => some k_ ≠ (.slice Ao43 y339.length co43 : Value).ownBlock) (fun _ => False) rfl rfl ?aO ?aR (fun _ _ h => h) (fun _ h => h.elim) ?aF ?aB ?aS ?aL ?_; (case aR => repeat (first | exact (Kd.R_reads' HO341.out).2.2 | (with_reducible refine Kd.C_alloc ?_ _) | (with_reducible refine Kd.C_drewN ?_ _) | (with_reducible refine Kd.C_drew ?_))); (case aB => exact (upB HB)); (case aF => exact (fun k_ hk => Kd.fresh' (Kd.R_lt (upR HO341)) k_ hk)); (case aO => exact (by (with_reducible repeat (first | apply YP | apply YQ | apply YR)); exact Kd.R_mono HO_4.out (fun _ hk => by first | exact hk.2 | exact trivial | (simp [hk]; done) | simp_all))); (case aS => exact (YE (upB HB))); (case aL => have := LMc38.out; omega); intro v343 w42 ho hb hg hat; rw [← Ny342.out] at ho; have n0_ := YL (blk_grown (g := gb315) (o := .cells #[.int .i64 a0_0, .int .i64 a0_1, .bool a0_2, .int .i64 a0_3, .int .i64 a0_4, .int .i64 a0_5, .int .i64 a0_6, .int .i64 a0_7, .int .i64 a0_8, .int .i64 a0_9, .int .i64 a0_10, .int .i64 a0_11] 34 (0, 0)) (upK BK315) hg (Kd.R_ne HO_4.out BK315.out (by decide))); have n1_ := YL (Kd.R_after (ok := (fun _ => True)) (upR HO341) hg hat); have n2_ := YL (hb); have n3_ := YL (ho); clear BK315; clear HO341; clear HB; clear HO_4; have BK315 := n0_; have HO341 := n1_; have HB := n2_; have HO344 := n3_; clear n0_ n1_ n2_ n3_; clear ho hb hg hat))
       go_ret2
       exact ⟨_, by first | rfl | (simp [errW_none, errW_some] <;> rfl) | (simp [*, errW_none, errW_some] <;> rfl), by (with_reducible repeat (first | apply YP | apply YQ | apply YR)); exact Kd.R_mono HO344.out (fun _ hk => trivial), by repeat (first | (with_reducible first | exact HB.out | apply YA | apply YB | apply YC | refine below_set ?_ GE315.out) | exact HB.out)⟩
      rw [if_neg c37] at H
      have c37b0 : (a0_0 == 4) = false := beq_eq_false_iff_ne.mpr c37
      have c37b1 : (a0_0 != 4) = true := bne_iff_ne.mpr c37
      simp only [Option.some.injEq, Prod.mk.injEq] at H
      obtain ⟨rfl, rfl⟩ := H
      obtain ⟨q44_0, q44_1, q44_2, q44_3, q44_4, q44_5, q44_6, q44_7, q44_8, q44_9, q44_10, q44_11⟩ := cA12 BK315.out
      obtain ⟨f44_0, f44_1, f44_2, f44_3, f44_4, f44_5, f44_6, f44_7, f44_8, f44_9, f44_10, f44_11⟩ := fA12 BK315.out
      go_wp2
      go_ret2
      exact ⟨_, by first | rfl | (simp [errW_none, errW_some] <;> rfl) | (simp [*, errW_none, errW_some] <;> rfl), by (with_reducible repeat (first | apply YP | apply YQ | apply YR)); exact HO_4.out, by repeat (first | (with_reducible first | exact HB.out | apply YA | apply YB | apply YC | refine below_set ?_ GE315.out) | exact HB.out)⟩
 replace c3 := Bool.eq_false_iff.mpr c3
 subst c3
 have H1 : (some (([] : List Int), 1)) = some (r1, r2) := by rw [if_neg (show ¬ (false = true) by decide)] at H; exact H
 clear H
 have H := H1
 clear H1
 simp only [Option.some.injEq, Prod.mk.injEq] at H
 obtain ⟨rfl, rfl⟩ := H
 go_enter Try.func68, Try.ntmps68
 go_wp2_with (first | ((with_reducible refine gate_dst (N := 1) rfl ?_); refine box_event ?hg (N := 1) ?hd (cs := #[.int .i64 a0_0, .int .i64 a0_1, .bool a0_2, .int .i64 a0_3, .int .i64 a0_4, .int .i64 a0_5, .int .i64 a0_6, .int .i64 a0_7, .int .i64 a0_8, .int .i64 a0_9, .int .i64 a0_10, .int .i64 a0_11]) (t := 34) ?hr ?_; (case hd => rfl); (case hg => rfl); (case hr => first | (go_simp; done) | (go_simp; rfl)); intro gb315 hg w45 hbox hb; have n0_ := YL (YD (upB HB) hb); have n1_ := YL (hbox); have n2_ := YL ((by rw [hg]; exact (YE (upB HB)) : w.heap.size ≤ gb315)); have n3_ := YL ((by rw [hg]; exact (YE (upB HB)) : w.heap.size ≤ gb315)); clear HB; have HB := n0_; have BK315 := n1_; have GW315 := n2_; have GE315 := n3_; clear n0_ n1_ n2_ n3_; clear hb hbox hg; obtain ⟨q46_0, q46_1, q46_2, q46_3, q46_4, q46_5, q46_6, q46_7, q46_8, q46_9, q46_10, q46_11⟩ := cA12 BK315.out; obtain ⟨f46_0, f46_1, f46_2, f46_3, f46_4, f46_5, f46_6, f46_7, f46_8, f46_9, f46_10, f46_11⟩ := fA12 BK315.out) | ((with_reducible refine gate_callee (f := 39) rfl ?_); refine goesA (some 8) Try.func39 #[.agg #[.int .i64 a0_0, .int .i64 a0_1, .bool a0_2, .int .i64 a0_3, .int .i64 a0_4, .int .i64 a0_5, .int .i64 a0_6, .int .i64 a0_7, .int .i64 a0_8, .int .i64 a0_9, .int .i64 a0_10, .int .i64 a0_11]] ?_; (with_reducible refine (thalwegref04_Right.calls k a0_0 a0_1 a0_2 a0_3 a0_4 a0_5 a0_6 a0_7 a0_8 a0_9 a0_10 a0_11 false _ A2.out).mono ?_); rintro e w47 ⟨rfl, hb⟩; refine ⟨_, rfl, ?_⟩; have n0_ := YL (YK (g := gb315) (o := .cells #[.int .i64 a0_0, .int .i64 a0_1, .bool a0_2, .int .i64 a0_3, .int .i64 a0_4, .int .i64 a0_5, .int .i64 a0_6, .int .i64 a0_7, .int .i64 a0_8, .int .i64 a0_9, .int .i64 a0_10, .int .i64 a0_11] 34 (0, 0)) (upK BK315) hb); have n1_ := YL (YD (upB HB) hb); clear BK315; clear HB; have BK315 := n0_; have HB := n1_; clear n0_ n1_; (try clear hb); (try clear hb2); (try clear hk); (try clear hi)))
 go_ret2
 exact ⟨_, by first | rfl | (simp [errW_none, errW_some] <;> rfl) | (simp [*, errW_none, errW_some] <;> rfl), by first | exact Kd.R_nil _ _ _ _ _ | exact Kd.N_nil _ _ _ _ _ | exact Kd.V_nil _ _ _ _ _ | exact Kd.Q_nil _ _ _ _ _ | exact Kd.S_nil _ _ _ _ _, by repeat (first | (with_reducible first | exact HB.out | apply YA | apply YB | apply YC | refine below_set ?_ GE315.out) | exact HB.out)⟩
end Go.Proofs.Ytclbempnhelmoaa.P
namespace Go.Proofs.Ytclbempnhelmoaa.P
open Go.RowKit YtclbempnhelmoaaW.PrintWords YtclbempnhelmoaaW.PrintLast YtclbempnhelmoaaW.PrintMore
theorem bool_same0 {p q : Prop} [Decidable p] [Decidable q] (h : p ↔ q) : (decide p) = (decide q) := by
 by_cases hp : p
 ·rw [decide_eq_true hp, decide_eq_true (h.mp hp)]
 ·rw [decide_eq_false hp, decide_eq_false (fun hq => hp (h.mpr hq))]
theorem rj_eq (k : Nat) (n x : Bool) (a b c d e : Int) : thalwegref02_Right.j0 (k + 1) x n a b c d e = some (decide (x = false ∧ ((n = true ∧ a = 0 ∧ b = 0 ∧ c = 0 ∧ d = 0) ∨ (n = false ∧ 0 ≤ a ∧ a ≤ 4611686018427387903 ∧ 0 ≤ b ∧ b < 64 ∧ 0 ≤ c ∧ c ≤ 1 ∧ -1099511627776 ≤ d ∧ d ≤ 1099511627776)))) := by
 simp only [thalwegref02_Right.j0]
 cases n <;> cases x <;> simp only [if_true, Bool.false_eq_true, if_false, true_and, false_and, or_false, false_or, Bool.true_eq_false, reduceCtorEq, decide_false]
 ·repeat' split
  all_goals
   congr 1
   first
    | (rw [eq_comm, decide_eq_false_iff_not]; omega)
    | (apply bool_same0; omega)
 ·congr 1
  rw [Bool.eq_iff_iff, decide_eq_true_eq]
  simp only [Bool.and_eq_true, beq_iff_eq]
theorem rr_eq (n : Bool) (a b c d e : Int) : Ev (fun k => thalwegref02_Right.f k n a b c d e) (decide (RH n a b c d e)) := by
 unfold thalwegref02_Right.f
 refine Ev.from 1 fun k => ?_
 rw [rj_eq, rj_eq]
 unfold RH
 by_cases h : e < 0
 ·rw [if_pos h]
  have : ¬ 0 ≤ e := by omega
  simp only [this, false_and, Bool.true_eq_false]
 ·rw [if_neg h]
  have h0 : 0 ≤ e := by omega
  simp only [decide_eq_false_iff_not, ge_iff_le, Int.not_le, h0, true_and]
theorem rb_eq (n : Bool) (a b c d e : Int) (h : RH n a b c d e) (wa : (Lit.int .i64 a).wf = true) (wd : (Lit.int .i64 d).wf = true) : Ev (fun k => thalwegref02_Bytes.f k n a b c d e) (hB n a b c d e, 0) := by
 have hc := rr_eq n a b c d e
 rw [decide_eq_true h] at hc
 unfold thalwegref02_Bytes.f hB
 refine Ev.bind hc ?_
 cases n with
 | true => simp only [if_true]; exact Ev.now _
 | false =>
  simp only [if_true, Bool.false_eq_true, if_false]
  refine Ev.bind (refInt_ev a wa) ?_
  refine Ev.bind (refInt_ev d wd) ?_
  refine Ev.bind (both_ev _ (by simp) (by simp [intSpec_length])) ?_
  refine ev_eq (Ev.now _) ?_
  simp
theorem ror_eq (a0 a1 : Int) (a2 : Bool) (a3 a4 a5 a6 a7 a8 a9 a10 a11 : Int) : Ev (fun k => thalwegref04_Right.f k a0 a1 a2 a3 a4 a5 a6 a7 a8 a9 a10 a11) (decide (RO a0 a1 a2 a3 a4 a5 a6 a7 a8 a9 a10 a11)) := by
  have hlev : ((a8 == 0 && (a9 == 0 && (a10 == 0))) = true) = (a8 = 0 ∧ a9 = 0 ∧ a10 = 0) := by
    simp only [Bool.and_eq_true, beq_iff_eq]
  have hhei : ((!a2 && (a3 == 0 && (a4 == 0 && (a5 == 0 && (a6 == 0 && (a7 == 0)))))) = true) = (a2 = false ∧ a3 = 0 ∧ a4 = 0 ∧ a5 = 0 ∧ a6 = 0 ∧ a7 = 0) := by
    simp only [Bool.and_eq_true, beq_iff_eq, Bool.not_eq_true']
  have hj : ∀ x : Bool, Ev (fun k => thalwegref04_Right.j0 k x a0 a1 a2 a3 a4 a5 a6 a7 a8 a9 a10 a11) (decide (x = false ∧
    ((a0 = 1 ∧ (a8 = 0 ∧ a9 = 0 ∧ a10 = 0) ∧ (a2 = false ∧ a3 = 0 ∧ a4 = 0 ∧ a5 = 0 ∧ a6 = 0 ∧ a7 = 0) ∧ a11 = 0) ∨
     (a0 = 2 ∧ (a8 = 0 ∧ a9 = 0 ∧ a10 = 0) ∧ a11 = 0 ∧ RH a2 a3 a4 a5 a6 a7) ∨
     (a0 = 3 ∧ (a2 = false ∧ a3 = 0 ∧ a4 = 0 ∧ a5 = 0 ∧ a6 = 0 ∧ a7 = 0) ∧ a11 = 0 ∧ RH false a8 a9 a10 0 0) ∨
     (a0 = 4 ∧ (a8 = 0 ∧ a9 = 0 ∧ a10 = 0) ∧ 0 ≤ a11 ∧ a11 ≤ 65535 ∧ RH a2 a3 a4 a5 a6 a7 ∧ a2 = false)))) := by
    intro x
    refine Ev.step (f := fun k => _) (fun k => by simp only [thalwegref04_Right.j0]; rfl) ?_
    cases x with
    | true =>
      simp only [if_true, Bool.true_eq_false, false_and, decide_false]
      exact Ev.now _
    | false =>
      simp only [Bool.false_eq_true, if_false, true_and, hlev, hhei]
      by_cases h1 : a0 = 1
      · subst h1
        simp only [if_true, show ¬ (1 : Int) = 2 by decide, show ¬ (1 : Int) = 3 by decide, show ¬ (1 : Int) = 4 by decide, false_and, or_false, true_and]
        by_cases g : a8 = 0 ∧ a9 = 0 ∧ a10 = 0
        · simp only [if_pos g]
          by_cases g2 : a2 = false ∧ a3 = 0 ∧ a4 = 0 ∧ a5 = 0 ∧ a6 = 0 ∧ a7 = 0
          · simp only [if_pos g2]
            refine ev_eq (Ev.now _) ?_
            rw [Bool.eq_iff_iff, beq_iff_eq, decide_eq_true_eq]
            exact ⟨fun h => ⟨g, g2, h⟩, fun h => h.2.2⟩
          · simp only [if_neg g2]
            exact ev_eq (Ev.now _) (decide_eq_false fun h => g2 h.2.1).symm
        · simp only [if_neg g]
          exact ev_eq (Ev.now _) (decide_eq_false fun h => g h.1).symm
      by_cases h2 : a0 = 2
      · subst h2
        simp only [if_neg h1, if_true, show ¬ (2 : Int) = 1 by decide, show ¬ (2 : Int) = 3 by decide, show ¬ (2 : Int) = 4 by decide, false_and, false_or, or_false, true_and]
        by_cases g : a8 = 0 ∧ a9 = 0 ∧ a10 = 0
        · simp only [if_pos g]
          by_cases g2 : a11 = 0
          · simp only [if_pos g2]
            refine Ev.bind (rr_eq a2 a3 a4 a5 a6 a7) ?_
            refine ev_eq (Ev.now _) ?_
            exact bool_same0 ⟨fun h => ⟨g, g2, h⟩, fun h => h.2.2⟩
          · simp only [if_neg g2]
            exact ev_eq (Ev.now _) (decide_eq_false fun h => g2 h.2.1).symm
        · simp only [if_neg g]
          exact ev_eq (Ev.now _) (decide_eq_false fun h => g h.1).symm
      by_cases h3 : a0 = 3
      · subst h3
        simp only [if_neg h1, if_neg h2, if_true, show ¬ (3 : Int) = 1 by decide, show ¬ (3 : Int) = 2 by decide, show ¬ (3 : Int) = 4 by decide, false_and, false_or, or_false, true_and]
        by_cases g : a2 = false ∧ a3 = 0 ∧ a4 = 0 ∧ a5 = 0 ∧ a6 = 0 ∧ a7 = 0
        · simp only [if_pos g]
          by_cases g2 : a11 = 0
          · simp only [if_pos g2]
            refine Ev.bind (rr_eq false a8 a9 a10 0 0) ?_
            refine ev_eq (Ev.now _) ?_
            exact bool_same0 ⟨fun h => ⟨g, g2, h⟩, fun h => h.2.2⟩
          · simp only [if_neg g2]
            exact ev_eq (Ev.now _) (decide_eq_false fun h => g2 h.2.1).symm
        · simp only [if_neg g]
          exact ev_eq (Ev.now _) (decide_eq_false fun h => g h.1).symm
      by_cases h4 : a0 = 4
      · subst h4
        simp only [if_neg h1, if_neg h2, if_neg h3, if_true, show ¬ (4 : Int) = 1 by decide, show ¬ (4 : Int) = 2 by decide, show ¬ (4 : Int) = 3 by decide, false_and, false_or, or_false, true_and]
        by_cases g : a8 = 0 ∧ a9 = 0 ∧ a10 = 0
        · simp only [if_pos g]
          by_cases g2 : a11 ≥ 0
          · simp only [if_pos g2]
            by_cases g3 : a11 ≤ 65535
            · simp only [if_pos g3]
              unfold thalwegref02_Told.f
              refine Ev.bind (a := decide (RH a2 a3 a4 a5 a6 a7 ∧ a2 = false)) ?_ ?_
              · refine Ev.bind (rr_eq a2 a3 a4 a5 a6 a7) ?_
                by_cases hr : RH a2 a3 a4 a5 a6 a7
                · simp only [decide_eq_true hr, if_true]
                  refine ev_eq (Ev.now _) ?_
                  cases a2
                  · simp [hr]
                  · simp
                · simp only [decide_eq_false hr, Bool.false_eq_true, if_false]
                  exact ev_eq (Ev.now _) (decide_eq_false fun h => hr h.1).symm
              · refine ev_eq (Ev.now _) ?_
                exact bool_same0 ⟨fun h => ⟨g, g2, g3, h.1, h.2⟩, fun h => ⟨h.2.2.2.1, h.2.2.2.2⟩⟩
            · simp only [if_neg g3]
              exact ev_eq (Ev.now _) (decide_eq_false fun h => g3 h.2.2.1).symm
          · simp only [if_neg g2]
            exact ev_eq (Ev.now _) (decide_eq_false fun h => g2 h.2.1).symm
        · simp only [if_neg g]
          exact ev_eq (Ev.now _) (decide_eq_false fun h => g h.1).symm
      · simp only [if_neg h1, if_neg h2, if_neg h3, if_neg h4, h1, h2, h3, h4, false_and, or_false, decide_false]
        exact Ev.now _
  unfold thalwegref04_Right.f
  by_cases h : a1 < 0
  · simp only [if_pos h]
    refine ev_eq (hj _) (bool_same0 ⟨fun g => absurd g.1 (by decide), fun g => ?_⟩)
    have := g.1.1
    omega
  · simp only [if_neg h]
    refine ev_eq (hj _) (bool_same0 ⟨fun g => ⟨⟨by omega, ?_⟩, g.2⟩, fun g => ⟨?_, g.2⟩⟩)
    · have := of_decide_eq_false g.1
      omega
    · have := g.1.2
      exact decide_eq_false (by omega)
theorem robx (a0 a1 : Int) (a2 : Bool) (a3 a4 a5 a6 a7 a8 a9 a10 a11 : Int) (w3 : (Lit.int .i64 a3).wf = true) (w6 : (Lit.int .i64 a6).wf = true) (w8 : (Lit.int .i64 a8).wf = true) (h : RO a0 a1 a2 a3 a4 a5 a6 a7 a8 a9 a10 a11) :
  Ev (fun k => thalwegref04_Bytes.f k a0 a1 a2 a3 a4 a5 a6 a7 a8 a9 a10 a11) (oB a0 a1 a2 a3 a4 a5 a6 a7 a8 a9 a10 a11, 0) := by
 have hc := ror_eq a0 a1 a2 a3 a4 a5 a6 a7 a8 a9 a10 a11
 rw [decide_eq_true h] at hc
 unfold thalwegref04_Bytes.f
 refine Ev.bind hc ?_
 simp only [if_true, Option.bind_some]
 rcases h.2 with ⟨rfl, _⟩ | ⟨rfl, _, _, hh⟩ | ⟨rfl, _⟩ | ⟨rfl, _, hn0, hn1, hh, rfl⟩
 ·simp only [if_neg (show ¬ (1 : Int) = 2 by decide), show ((1 : Int) == 4) = false by decide]
  refine Ev.step (f := fun k => _) (fun k => by simp only [thalwegref04_Bytes.j0]; rfl) ?_
  simp only [Bool.false_eq_true, if_false]
  refine Ev.step (f := fun k => _) (fun k => by simp only [thalwegref04_Bytes.j1]; rfl) ?_
  simp only [if_neg (show ¬ (1 : Int) = 3 by decide), if_neg (show ¬ (1 : Int) = 4 by decide)]
  exact Ev.now _
 ·refine Ev.step (f := fun k => _) (fun k => by simp only [thalwegref04_Bytes.j0]; rfl) ?_
  simp only [if_true]
  refine Ev.bind (rb_eq _ _ _ _ _ _ hh w3 w6) ?_
  have hl := hB_length a2 a3 a4 a5 a6 a7
  have : [2 % 256, a1 % 256].length + (hB a2 a3 a4 a5 a6 a7).length < 140737488355328 := by rw [hl]; simp; split <;> omega
  simp only [if_pos this]
  refine Ev.step (f := fun k => _) (fun k => by simp only [thalwegref04_Bytes.j1]; rfl) ?_
  simp only [if_neg (show ¬ (2 : Int) = 3 by decide), if_neg (show ¬ (2 : Int) = 4 by decide)]
  exact Ev.now _
 ·simp only [if_neg (show ¬ (3 : Int) = 2 by decide), show ((3 : Int) == 4) = false by decide]
  refine Ev.step (f := fun k => _) (fun k => by simp only [thalwegref04_Bytes.j0]; rfl) ?_
  simp only [Bool.false_eq_true, if_false]
  refine Ev.step (f := fun k => _) (fun k => by simp only [thalwegref04_Bytes.j1]; rfl) ?_
  simp only [if_true]
  refine Ev.bind (refInt_ev a8 w8) ?_
  simp only [Option.bind_some, List.length_append, intSpec_length, List.length_cons, List.length_nil, Nat.reduceAdd, Nat.reduceLT, if_true, if_neg (show ¬ (3 : Int) = 4 by decide)]
  refine ev_eq (Ev.now _) ?_
  unfold oB
  rw [if_neg (show ¬ (3 : Int) = 1 by decide), if_pos rfl, List.append_assoc]
 ·simp only [if_neg (show ¬ (4 : Int) = 2 by decide), show ((4 : Int) == 4) = true by decide]
  refine Ev.step (f := fun k => _) (fun k => by simp only [thalwegref04_Bytes.j0]; rfl) ?_
  simp only [if_true]
  refine Ev.bind (rb_eq _ _ _ _ _ _ hh w3 w6) ?_
  have h20 : (hB false a3 a4 a5 a6 a7).length = 20 := by rw [hB_length]; rfl
  simp only [List.length_cons, List.length_nil, h20, Nat.reduceAdd, Nat.reduceLT, if_true]
  refine Ev.step (f := fun k => _) (fun k => by simp only [thalwegref04_Bytes.j1]; rfl) ?_
  simp only [if_neg (show ¬ (4 : Int) = 3 by decide), if_true, Option.bind_some, List.length_append, List.length_cons, List.length_nil, h20, Nat.reduceAdd, Nat.reduceLT]
  refine ev_eq (Ev.now _) ?_
  unfold oB
  rw [if_neg (show ¬ (4 : Int) = 1 by decide), if_neg (show ¬ (4 : Int) = 3 by decide), if_pos rfl, List.append_assoc, Int.tdiv_eq_ediv_of_nonneg hn0, Int.tmod_eq_emod_of_nonneg hn0, w64 (x := a11 / 256) (by omega) (by omega), Int.emod_emod_of_dvd _ (by decide)]
theorem robn (a0 a1 : Int) (a2 : Bool) (a3 a4 a5 a6 a7 a8 a9 a10 a11 : Int) (h : ¬ RO a0 a1 a2 a3 a4 a5 a6 a7 a8 a9 a10 a11) :
  Ev (fun k => thalwegref04_Bytes.f k a0 a1 a2 a3 a4 a5 a6 a7 a8 a9 a10 a11) ([], 1) := by
 have hc := ror_eq a0 a1 a2 a3 a4 a5 a6 a7 a8 a9 a10 a11
 rw [decide_eq_false h] at hc
 unfold thalwegref04_Bytes.f
 refine Ev.bind hc ?_
 simp only [Bool.false_eq_true, if_false]
 exact Ev.now _
end Go.Proofs.Ytclbempnhelmoaa.P
namespace Go.Proofs.Ytclbempnhelmoaa.P
open Go.RowKit YtclbempnhelmoaaW.PrintWords YtclbempnhelmoaaW.PrintLast YtclbempnhelmoaaW.PrintMore
open YtclbempnhelmoaaW.PrintWords renaming below_alloc → YA, pw_below_drewN → YB, below_drew1 → YC
open YtclbempnhelmoaaW.PrintWords.Aside0 renaming mk → YD
attribute [local go_sem] max2_int min2_int max_two min_two max_three min_three max_four min_four
def thalwegref05_size.l0 : Nat → List (S34) → Int → Int → Option (Int)
 | 0, _, _, _ => none
 | k + 1, x0, x3, x4 => if x4 < (x0.length : Int) then (if 0 ≤ x4 then ((thalwegref04_Bytes.f k ((rd_T34 x0 x4).f0) ((rd_T34 x0 x4).f1) ((rd_T34 x0 x4).f2.f0) ((rd_T34 x0 x4).f2.f1) ((rd_T34 x0 x4).f2.f2) ((rd_T34 x0 x4).f2.f3) ((rd_T34 x0 x4).f2.f4) ((rd_T34 x0 x4).f2.f5) ((rd_T34 x0 x4).f3.f0) ((rd_T34 x0 x4).f3.f1) ((rd_T34 x0 x4).f3.f2) ((rd_T34 x0 x4).f4)).bind fun bt346 => (if bt346.2 = 0 then (thalwegref05_size.l0 k x0 (wrap64 (x3 + (bt346.1.length : Int))) (wrap64 (x4 + 1))) else (some (-1)))) else (none)) else (some x3)
def thalwegref05_size.f (k : Nat) (l0 : List (S34)) : Option (Int) := thalwegref05_size.l0 k l0 3 0
theorem thalwegref05_size.calls (k : Nat) (A0 : Option Addr) (c0 : Nat) (l0 : List (S34)) (r : Int) (w : World) (hr0 : Kd.C k34 w A0 l0.length l0) (hc0 : l0.length ≤ c0) (h : thalwegref05_size.f k l0 = some r) :
  Calls Try.prog 61 #[.slice A0 l0.length c0] w fun e w' => e = .returned (.int .i64 r) ∧ Below w.heap.size w w' := by
 have hu34 := Try.underlying34
 have HR0 := YD hr0; have HC0 := YD hc0; clear hr0 hc0
 have HB := YD (Below.refl w.heap.size w)
 have H : (thalwegref05_size.l0 k l0 3 0) = some r := h
 clear h
 have H' := YD H
 clear H
 go_enter Try.func61, Try.ntmps61
 go_wp2
 go_loopg [3, 4] k (fun kq v3 v4 w' => ∃ (x3_1 : Int) (x4_1 : Int), v3 = .int .i64 x3_1 ∧ v4 = .int .i64 x4_1 ∧ Aside0 (thalwegref05_size.l0 kq l0 x3_1 x4_1 = some r) ∧ Aside0 (kq ≤ k) ∧ Aside0 (Below w.heap.size w w'))
 case atStart => exact ⟨(3), (0), (by first | rfl | (simp; done) | (simp [*]; done)), (by first | rfl | (simp; done) | (simp [*]; done)), H', ⟨Nat.le_refl _⟩, ⟨by repeat (first | (with_reducible first | exact HB.out | apply YA | apply YB | apply YC) | exact HB.out)⟩⟩
 case round =>
  clear H'
  obtain ⟨x3_1, x4_1, rfl, rfl, HA, HK1, HB⟩ := hrel
  cases gk with
  | zero => exact absurd HA.out (by simp [thalwegref05_size.l0])
  | succ k1 =>
   have H := HA.out
   clear HA
   simp only [thalwegref05_size.l0] at H
   by_cases c2 : x4_1 < (l0.length : Int)
   ·rw [if_pos c2] at H
    have c2b0 : decide (x4_1 < (l0.length : Int)) = true := decide_eq_true c2
    clear c2
    by_cases c3 : 0 ≤ x4_1
    rotate_left
    ·rw [if_neg c3] at H
     exact absurd H (by simp)
    rw [if_pos c3] at H; have c3b0 : decide (0 ≤ x4_1) = true := decide_eq_true c3; clear c3; replace H := Option.bind_eq_some_iff.mp H
    obtain ⟨⟨t346, t349⟩, A40, H⟩ := H
    replace H : (if t349 = 0 then (thalwegref05_size.l0 k1 l0 (wrap64 (x3_1 + (t346.length : Int))) (wrap64 (x4_1 + 1))) else (some (-1))) = some r := H
    have A4 := YD A40; clear A40
    by_cases c5 : t349 = 0
    ·rw [if_pos c5] at H
     have c5b0 : (t349 == 0) = true := beq_iff_eq.mpr c5
     have c5b1 : (t349 != 0) = false := bne_eq_false_iff_eq.mpr c5
     clear c5
     have H' := YD H
     clear H
     have p345 : 0 ≤ (x4_1 : Int) := of_decide_eq_true (by first | (with_reducible assumption) | assumption)
     have q345 : x4_1 < (l0.length : Int) := of_decide_eq_true (by first | (with_reducible assumption) | assumption)
     obtain ⟨ad345, e345, hx345_0, hx345_1, hx345_2, hx345_3, hx345_4, hx345_5, hx345_6, hx345_7, hx345_8, hx345_9, hx345_10, hx345_11⟩ := at_T34 HR0.out x4_1 p345 q345
     cases e345
     replace hx345_0 := (HB.out.cell (World.block_lt_of_cell? w _ hx345_0)).trans hx345_0
     replace hx345_1 := (HB.out.cell (World.block_lt_of_cell? w _ hx345_1)).trans hx345_1
     replace hx345_2 := (HB.out.cell (World.block_lt_of_cell? w _ hx345_2)).trans hx345_2
     replace hx345_3 := (HB.out.cell (World.block_lt_of_cell? w _ hx345_3)).trans hx345_3
     replace hx345_4 := (HB.out.cell (World.block_lt_of_cell? w _ hx345_4)).trans hx345_4
     replace hx345_5 := (HB.out.cell (World.block_lt_of_cell? w _ hx345_5)).trans hx345_5
     replace hx345_6 := (HB.out.cell (World.block_lt_of_cell? w _ hx345_6)).trans hx345_6
     replace hx345_7 := (HB.out.cell (World.block_lt_of_cell? w _ hx345_7)).trans hx345_7
     replace hx345_8 := (HB.out.cell (World.block_lt_of_cell? w _ hx345_8)).trans hx345_8
     replace hx345_9 := (HB.out.cell (World.block_lt_of_cell? w _ hx345_9)).trans hx345_9
     replace hx345_10 := (HB.out.cell (World.block_lt_of_cell? w _ hx345_10)).trans hx345_10
     replace hx345_11 := (HB.out.cell (World.block_lt_of_cell? w _ hx345_11)).trans hx345_11
     replace p345 := eq_true p345
     replace q345 := eq_true q345
     go_wp2_with (first | ((with_reducible refine gate_callee (f := 68) rfl ?_); refine goesA (some 18) Try.func68 #[.agg #[.int .i64 ((rd_T34 l0 x4_1).f0), .int .i64 ((rd_T34 l0 x4_1).f1), .bool ((rd_T34 l0 x4_1).f2.f0), .int .i64 ((rd_T34 l0 x4_1).f2.f1), .int .i64 ((rd_T34 l0 x4_1).f2.f2), .int .i64 ((rd_T34 l0 x4_1).f2.f3), .int .i64 ((rd_T34 l0 x4_1).f2.f4), .int .i64 ((rd_T34 l0 x4_1).f2.f5), .int .i64 ((rd_T34 l0 x4_1).f3.f0), .int .i64 ((rd_T34 l0 x4_1).f3.f1), .int .i64 ((rd_T34 l0 x4_1).f3.f2), .int .i64 ((rd_T34 l0 x4_1).f4)]] ?_; (with_reducible refine (thalwegref04_Bytes.calls k1 ((rd_T34 l0 x4_1).f0) ((rd_T34 l0 x4_1).f1) ((rd_T34 l0 x4_1).f2.f0) ((rd_T34 l0 x4_1).f2.f1) ((rd_T34 l0 x4_1).f2.f2) ((rd_T34 l0 x4_1).f2.f3) ((rd_T34 l0 x4_1).f2.f4) ((rd_T34 l0 x4_1).f2.f5) ((rd_T34 l0 x4_1).f3.f0) ((rd_T34 l0 x4_1).f3.f1) ((rd_T34 l0 x4_1).f3.f2) ((rd_T34 l0 x4_1).f4) t346 t349 _ A4.out).mono ?_); rintro e w6 ⟨v347, rfl, ho0, hb⟩; refine ⟨_, rfl, ?_⟩; have n0_ := YD (Kd.R_lower ho0 (below_size (upB HB))); have n1_ := YD (below_step (upB HB) hb); clear HB; have HO348 := n0_; have HB := n1_; clear n0_ n1_; (try clear hb); (try clear hb2); (try clear hk); (try clear hi); (try clear ho0); obtain ⟨Ao7, co7, eo7⟩ := Kd.R_slice HO348.out; subst eo7))
     go_roundg k1
     case measure => have := HK1.out; omega
     case rel => exact ⟨(wrap64 (x3_1 + (t346.length : Int))), (wrap64 (x4_1 + 1)), (by first | rfl | (simp; done) | (simp [*]; done)), (by first | rfl | (simp; done) | (simp [*]; done)), H', ⟨by have := HK1.out; omega⟩, ⟨by repeat (first | (with_reducible first | exact HB.out | apply YA | apply YB | apply YC) | exact HB.out)⟩⟩
    rw [if_neg c5] at H
    have c5b0 : (t349 == 0) = false := beq_eq_false_iff_ne.mpr c5
    have c5b1 : (t349 != 0) = true := bne_iff_ne.mpr c5
    obtain rfl := Option.some.inj H
    have p345 : 0 ≤ (x4_1 : Int) := of_decide_eq_true (by first | (with_reducible assumption) | assumption)
    have q345 : x4_1 < (l0.length : Int) := of_decide_eq_true (by first | (with_reducible assumption) | assumption)
    obtain ⟨ad345, e345, hx345_0, hx345_1, hx345_2, hx345_3, hx345_4, hx345_5, hx345_6, hx345_7, hx345_8, hx345_9, hx345_10, hx345_11⟩ := at_T34 HR0.out x4_1 p345 q345
    cases e345
    replace hx345_0 := (HB.out.cell (World.block_lt_of_cell? w _ hx345_0)).trans hx345_0
    replace hx345_1 := (HB.out.cell (World.block_lt_of_cell? w _ hx345_1)).trans hx345_1
    replace hx345_2 := (HB.out.cell (World.block_lt_of_cell? w _ hx345_2)).trans hx345_2
    replace hx345_3 := (HB.out.cell (World.block_lt_of_cell? w _ hx345_3)).trans hx345_3
    replace hx345_4 := (HB.out.cell (World.block_lt_of_cell? w _ hx345_4)).trans hx345_4
    replace hx345_5 := (HB.out.cell (World.block_lt_of_cell? w _ hx345_5)).trans hx345_5
    replace hx345_6 := (HB.out.cell (World.block_lt_of_cell? w _ hx345_6)).trans hx345_6
    replace hx345_7 := (HB.out.cell (World.block_lt_of_cell? w _ hx345_7)).trans hx345_7
    replace hx345_8 := (HB.out.cell (World.block_lt_of_cell? w _ hx345_8)).trans hx345_8
    replace hx345_9 := (HB.out.cell (World.block_lt_of_cell? w _ hx345_9)).trans hx345_9
    replace hx345_10 := (HB.out.cell (World.block_lt_of_cell? w _ hx345_10)).trans hx345_10
    replace hx345_11 := (HB.out.cell (World.block_lt_of_cell? w _ hx345_11)).trans hx345_11
    replace p345 := eq_true p345
    replace q345 := eq_true q345
    go_wp2_with (first | ((with_reducible refine gate_callee (f := 68) rfl ?_); refine goesA (some 18) Try.func68 #[.agg #[.int .i64 ((rd_T34 l0 x4_1).f0), .int .i64 ((rd_T34 l0 x4_1).f1), .bool ((rd_T34 l0 x4_1).f2.f0), .int .i64 ((rd_T34 l0 x4_1).f2.f1), .int .i64 ((rd_T34 l0 x4_1).f2.f2), .int .i64 ((rd_T34 l0 x4_1).f2.f3), .int .i64 ((rd_T34 l0 x4_1).f2.f4), .int .i64 ((rd_T34 l0 x4_1).f2.f5), .int .i64 ((rd_T34 l0 x4_1).f3.f0), .int .i64 ((rd_T34 l0 x4_1).f3.f1), .int .i64 ((rd_T34 l0 x4_1).f3.f2), .int .i64 ((rd_T34 l0 x4_1).f4)]] ?_; (with_reducible refine (thalwegref04_Bytes.calls k1 ((rd_T34 l0 x4_1).f0) ((rd_T34 l0 x4_1).f1) ((rd_T34 l0 x4_1).f2.f0) ((rd_T34 l0 x4_1).f2.f1) ((rd_T34 l0 x4_1).f2.f2) ((rd_T34 l0 x4_1).f2.f3) ((rd_T34 l0 x4_1).f2.f4) ((rd_T34 l0 x4_1).f2.f5) ((rd_T34 l0 x4_1).f3.f0) ((rd_T34 l0 x4_1).f3.f1) ((rd_T34 l0 x4_1).f3.f2) ((rd_T34 l0 x4_1).f4) t346 t349 _ A4.out).mono ?_); rintro e w8 ⟨v347, rfl, ho0, hb⟩; refine ⟨_, rfl, ?_⟩; have n0_ := YD (Kd.R_lower ho0 (below_size (upB HB))); have n1_ := YD (below_step (upB HB) hb); clear HB; have HO348 := n0_; have HB := n1_; clear n0_ n1_; (try clear hb); (try clear hb2); (try clear hk); (try clear hi); (try clear ho0)))
    go_ret
    exact ⟨by first | rfl | (simp [errW_none, errW_some] <;> rfl) | (simp [*, errW_none, errW_some] <;> rfl), by repeat (first | (with_reducible first | exact HB.out | apply YA | apply YB | apply YC) | exact HB.out)⟩
   rw [if_neg c2] at H
   have c2b0 : decide (x4_1 < (l0.length : Int)) = false := decide_eq_false c2
   clear c2
   obtain rfl := Option.some.inj H
   go_wp2
   go_ret
   exact ⟨by first | rfl | (simp [errW_none, errW_some] <;> rfl) | (simp [*, errW_none, errW_some] <;> rfl), by repeat (first | (with_reducible first | exact HB.out | apply YA | apply YB | apply YC) | exact HB.out)⟩
end Go.Proofs.Ytclbempnhelmoaa.P
namespace Go.Proofs.Ytclbempnhelmoaa.P
open Classical
open Go.RowKit YtclbempnhelmoaaW.PrintWords YtclbempnhelmoaaW.PrintLast YtclbempnhelmoaaW.PrintMore
theorem own_eq (l : List S34) (h : l.length ≤ 100000) : thalwegref04_Own.f l = some l := by
 unfold thalwegref04_Own.f
 rw [if_pos (by simp; omega)]
 rfl
theorem rsize_l0 (l : List S34) (hn : l.length ≤ 100000) (hw : ∀ o ∈ l, OW o) : ∀ (d : Nat) (i acc : Int), 0 ≤ i → (l.length : Int) - i = d → 0 ≤ acc → acc ≤ 3 + 24 * i →
  (Rights (l.drop i.toNat) → Ev (fun k => thalwegref05_size.l0 k l acc i) (acc + sums (l.drop i.toNat))) ∧ (¬ Rights (l.drop i.toNat) → Ev (fun k => thalwegref05_size.l0 k l acc i) (-1)) := by
 intro d
 induction d with
 | zero =>
  intro i acc h0 hd ha hb
  rw [List.drop_eq_nil_of_le (by omega)]
  refine ⟨fun _ => Ev.from 1 fun k => ?_, fun h => absurd (fun o ho => by cases ho) h⟩
  simp only [thalwegref05_size.l0]
  rw [if_neg (by omega), sums_nil, Int.add_zero]
 | succ d ih =>
  intro i acc h0 hd ha hb
  have h1 : i < (l.length : Int) := by omega
  have hz := OB_length (rd_T34 l i)
  obtain ⟨w1, w2, w3⟩ := hw _ (obs_mem l i h0 h1)
  rw [obs_get l i h0 h1, sums_cons, ← Int.add_assoc]
  by_cases h : OR (rd_T34 l i)
  ·have hi := ih (i + 1) (acc + sz (rd_T34 l i)) (by omega) (by omega) (by rw [sz_yes h]; omega) (by rw [sz_yes h]; omega)
   have go : ∀ r, Ev (fun k => thalwegref05_size.l0 k l (acc + sz (rd_T34 l i)) (i + 1)) r → Ev (fun k => thalwegref05_size.l0 k l acc i) r := by
    intro r hr
    refine Ev.step (f := fun k => _) (fun k => by simp only [thalwegref05_size.l0]; rfl) ?_
    simp only [if_pos h1, if_pos h0]
    refine Ev.bind (robx _ _ _ _ _ _ _ _ _ _ _ _ w1 w2 w3 h) ?_
    rw [show oB (rd_T34 l i).f0 (rd_T34 l i).f1 (rd_T34 l i).f2.f0 (rd_T34 l i).f2.f1 (rd_T34 l i).f2.f2 (rd_T34 l i).f2.f3 (rd_T34 l i).f2.f4 (rd_T34 l i).f2.f5 (rd_T34 l i).f3.f0 (rd_T34 l i).f3.f1 (rd_T34 l i).f3.f2 (rd_T34 l i).f4 = OB (rd_T34 l i) from rfl]
    simp only [if_true, w64 (x := acc + ((OB (rd_T34 l i)).length : Int)) (by omega) (by omega), w64 (x := i + 1) (by omega) (by omega)]
    rw [sz_yes h] at hr
    exact hr
   refine ⟨fun g => go _ (hi.1 fun o ho => g o (List.mem_cons_of_mem _ ho)), fun g => go _ (hi.2 fun g2 => g fun o ho => ?_)⟩
   rcases List.mem_cons.1 ho with rfl | ho
   ·exact h
   ·exact g2 o ho
  ·refine ⟨fun g => absurd (g _ List.mem_cons_self) h, fun _ => ?_⟩
   refine Ev.step (f := fun k => _) (fun k => by simp only [thalwegref05_size.l0]; rfl) ?_
   simp only [if_pos h1, if_pos h0]
   refine Ev.bind (robn _ _ _ _ _ _ _ _ _ _ _ _ h) ?_
   simp only [if_neg (show ¬ (1 : Int) = 0 by decide)]
   exact Ev.now _
theorem rsize_yes (l : List S34) (hn : l.length ≤ 100000) (hw : ∀ o ∈ l, OW o) (h : Rights l) : Ev (fun k => thalwegref05_size.f k l) (3 + sums l) := by
 unfold thalwegref05_size.f
 exact (rsize_l0 l hn hw l.length 0 3 (by omega) (by omega) (by omega) (by omega)).1 h
end Go.Proofs.Ytclbempnhelmoaa.P
namespace Go.Proofs.Ytclbempnhelmoaa.P
open Go.RowKit YtclbempnhelmoaaW.PrintWords YtclbempnhelmoaaW.PrintLast YtclbempnhelmoaaW.PrintMore
open YtclbempnhelmoaaW.PrintWords renaming below_alloc → YA, pw_below_drewN → YB, below_drew1 → YC, below_step → YD, below_size → YE
open YtclbempnhelmoaaW.PrintWords.Aside0 renaming mk → YF
open List renaming map_toArray → YG, length_take → YH, length_drop → YI
attribute [local go_sem] max2_int min2_int max_two min_two max_three min_three max_four min_four
mutual
def thalwegref05_Pack.j0 : Nat → List (S34) → Int → Int → Bool → Option ((List (S48)) × Int)
 | 0, _, _, _, _ => none
 | k + 1, x0, x1, x2, x22 => if x22 = true then (some (([] : List (S48)), 1)) else (if (x0.length : Int) > 1024 then (some (([] : List (S48)), 2)) else ((thalwegref03_Left.f x1).bind fun t351 => (thalwegref05_Pack.l0 k x0 x2 ([] : List (S48)) t351 0)))
def thalwegref05_Pack.l0 : Nat → List (S34) → Int → List (S48) → Int → Int → Option ((List (S48)) × Int)
 | 0, _, _, _, _, _ => none
 | k + 1, x0, x2, x8, x9, x10 => if x10 < (x0.length : Int) then (thalwegref05_Pack.l1 k x0 x2 x8 x9 x10 (wrap64 (x10 + 1))) else (some (x8, 0))
def thalwegref05_Pack.l1 : Nat → List (S34) → Int → List (S48) → Int → Int → Int → Option ((List (S48)) × Int)
 | 0, _, _, _, _, _, _ => none
 | k + 1, x0, x2, x8, x9, x10, x11 => if x11 < (x0.length : Int) then (if (wrap64 (x11 - x10)) < 32 then (if 0 ≤ x10 then (if x10 ≤ (wrap64 (x11 + 1)) then (if (wrap64 (x11 + 1)) ≤ (x0.length : Int) then ((thalwegref05_size.f k ((x0.take ((wrap64 (x11 + 1)) : Int).toNat).drop (x10 : Int).toNat)).bind fun t356 => (if t356 ≤ x2 then (thalwegref05_Pack.l1 k x0 x2 x8 x9 x10 (wrap64 (x11 + 1))) else (if x10 ≤ x11 then (if x11 ≤ (x0.length : Int) then ((thalwegref04_Own.f ((x0.take (x11 : Int).toNat).drop (x10 : Int).toNat)).bind fun t361 => (if x8.length < 4398046511104 then ((thalwegref03_Next.f x9).bind fun t367 => (thalwegref05_Pack.l0 k x0 x2 (x8 ++ [(⟨x9, t361⟩ : S48)]) t367 x11)) else (none))) else (none)) else (none)))) else (none)) else (none)) else (none)) else (if 0 ≤ x10 then (if x10 ≤ x11 then (if x11 ≤ (x0.length : Int) then ((thalwegref04_Own.f ((x0.take (x11 : Int).toNat).drop (x10 : Int).toNat)).bind fun t372 => (if x8.length < 4398046511104 then ((thalwegref03_Next.f x9).bind fun t378 => (thalwegref05_Pack.l0 k x0 x2 (x8 ++ [(⟨x9, t372⟩ : S48)]) t378 x11)) else (none))) else (none)) else (none)) else (none))) else (if 0 ≤ x10 then (if x10 ≤ x11 then (if x11 ≤ (x0.length : Int) then ((thalwegref04_Own.f ((x0.take (x11 : Int).toNat).drop (x10 : Int).toNat)).bind fun t383 => (if x8.length < 4398046511104 then ((thalwegref03_Next.f x9).bind fun t389 => (thalwegref05_Pack.l0 k x0 x2 (x8 ++ [(⟨x9, t383⟩ : S48)]) t389 x11)) else (none))) else (none)) else (none)) else (none))
end
def thalwegref05_Pack.f (k : Nat) (l0 : List (S34)) (a1 : Int) (a2 : Int) : Option ((List (S48)) × Int) := if a2 < 40 then (thalwegref05_Pack.j0 k l0 a1 a2 true) else (if a2 > 512 then (thalwegref05_Pack.j0 k l0 a1 a2 true) else ((thalwegref05_size.f k l0).bind fun t350 => (thalwegref05_Pack.j0 k l0 a1 a2 (decide (t350 < 0)))))
theorem thalwegref05_Pack.calls (k : Nat) (A0 : Option Addr) (c0 : Nat) (l0 : List (S34)) (a1 : Int) (a2 : Int) (r1 : List (S48)) (r2 : Int) (w : World) (hr0 : Kd.C k34 w A0 l0.length l0) (hc0 : l0.length ≤ c0) (h : thalwegref05_Pack.f k l0 a1 a2 = some (r1, r2)) :
  Calls Try.prog 40 #[.slice A0 l0.length c0, .int .i64 a1, .int .i64 a2] w fun e w' => ∃ v0_ : Value, e = .returned (.tuple #[v0_, .int .i64 r2]) ∧ Kd.S k48 48 w' w.heap.size (fun _ => True) v0_ r1 ∧ Below w.heap.size w w' := by
 have hu48 := Try.underlying48
 have HR0 := YF hr0; have HC0 := YF hc0; clear hr0 hc0
 have HB := YF (Below.refl w.heap.size w)
 have H : (if a2 < 40 then (thalwegref05_Pack.j0 k l0 a1 a2 true) else (if a2 > 512 then (thalwegref05_Pack.j0 k l0 a1 a2 true) else ((thalwegref05_size.f k l0).bind fun t350 => (thalwegref05_Pack.j0 k l0 a1 a2 (decide (t350 < 0)))))) = some (r1, r2) := h
 clear h; have HC4 := YF H; clear H
 go_enter Try.func40, Try.ntmps40
 go_upto_region 1 with (fail)
 go_cut [22] (fun v22 wc => ∃ (kq : Nat) (x22_3 : Bool), v22 = .bool x22_3 ∧ Aside0 (thalwegref05_Pack.j0 kq l0 a1 a2 x22_3 = some (r1, r2)) ∧ Aside0 (kq ≤ k) ∧ Aside0 (Below w.heap.size w wc))
 case first =>
  have H := HC4.out
  clear HC4
  by_cases c5 : a2 < 40
  ·rw [if_pos c5] at H
   have c5b0 : decide (a2 < 40) = true := decide_eq_true c5; clear c5
   (first | rw [c5b0] | (simp only [i64_w, i32_w]; rw [c5b0]) | rw [c5b1] | skip)
   have H' := YF H
   clear H
   go_wp2
   go_meet
   case rel => exact ⟨_, (true), (by first | rfl | (simp; done) | (simp [*]; done)), H', ⟨by first | omega | exact Nat.le_refl _⟩, ⟨by repeat (first | (with_reducible first | exact HB.out | apply YA | apply YB | apply YC) | exact HB.out)⟩⟩
  rw [if_neg c5] at H; have c5b0 : decide (a2 < 40) = false := decide_eq_false c5; clear c5
  (first | rw [c5b0] | (simp only [i64_w, i32_w]; rw [c5b0]) | rw [c5b1] | skip)
  by_cases c6 : a2 > 512
  ·rw [if_pos c6] at H
   have c6b0 : decide (512 < a2) = true := decide_eq_true c6; clear c6
   have H' := YF H
   clear H
   go_wp2
   go_meet
   case rel => exact ⟨_, (true), (by first | rfl | (simp; done) | (simp [*]; done)), H', ⟨by first | omega | exact Nat.le_refl _⟩, ⟨by repeat (first | (with_reducible first | exact HB.out | apply YA | apply YB | apply YC) | exact HB.out)⟩⟩
  rw [if_neg c6] at H; have c6b0 : decide (512 < a2) = false := decide_eq_false c6; clear c6; replace H := Option.bind_eq_some_iff.mp H; obtain ⟨t350, A70, H⟩ := H
  replace H : (thalwegref05_Pack.j0 k l0 a1 a2 (decide (t350 < 0))) = some (r1, r2) := H
  have A7 := YF A70; clear A70
  have H' := YF H
  clear H
  go_wp2_with (first | (go_at_call 61; (with_reducible refine (thalwegref05_size.calls k _ _ l0 t350 _ ?side1 ?side2 A7.out).mono ?_); (case side1 => repeat (first | exact (Kd.C_below HR0.out HB.out) | (with_reducible refine Kd.C_alloc ?_ _) | (with_reducible refine Kd.C_drewN ?_ _) | (with_reducible refine Kd.C_drew ?_))); (case side2 => exact HC0.out); rintro e w8 ⟨rfl, hb⟩; have n0_ := YF (YD (upB HB) hb); clear HB; have HB := n0_; clear n0_; (try clear hb); (try clear hb2); (try clear hk); (try clear hi)))
  go_meet
  case rel => exact ⟨_, (decide (t350 < 0)), (by first | rfl | (simp; done) | (simp [*]; done)), H', ⟨by first | omega | exact Nat.le_refl _⟩, ⟨by repeat (first | (with_reducible first | exact HB.out | apply YA | apply YB | apply YC) | exact HB.out)⟩⟩
 case rest =>
  clear HC4
  try clear p2; try clear c4
  try clear c5; try clear c5b0
  try clear c6; try clear c6b0
  obtain ⟨kq, x22_3, rfl, HA, HJ3, HB⟩ := hcut
  cases kq with
  | zero => exact absurd HA.out (by simp [thalwegref05_Pack.j0])
  | succ kj3 =>
   have H := HA.out
   clear HA
   simp only [thalwegref05_Pack.j0] at H
   by_cases c9 : x22_3 = true
   ·subst c9
    have H1 : (some (([] : List (S48)), 1)) = some (r1, r2) := by rw [if_pos rfl] at H; exact H
    clear H
    have H := H1
    clear H1
    simp only [Option.some.injEq, Prod.mk.injEq] at H
    obtain ⟨rfl, rfl⟩ := H
    go_wp2
    go_ret2
    exact ⟨_, by first | rfl | (simp [errW_none, errW_some] <;> rfl) | (simp [*, errW_none, errW_some] <;> rfl), by first | exact Kd.S_nil _ _ _ _ _ | exact Kd.N_nil _ _ _ _ _ | exact Kd.V_nil _ _ _ _ _ | exact Kd.Q_nil _ _ _ _ _ | exact Kd.R_nil _ _ _ _ _, by repeat (first | (with_reducible first | exact HB.out | apply YA | apply YB | apply YC) | exact HB.out)⟩
   replace c9 := Bool.eq_false_iff.mpr c9
   subst c9
   have H1 : (if (l0.length : Int) > 1024 then (some (([] : List (S48)), 2)) else ((thalwegref03_Left.f a1).bind fun t351 => (thalwegref05_Pack.l0 kj3 l0 a2 ([] : List (S48)) t351 0))) = some (r1, r2) := by rw [if_neg (show ¬ (false = true) by decide)] at H; exact H
   clear H
   have H := H1
   clear H1
   by_cases c10 : (l0.length : Int) > 1024
   ·rw [if_pos c10] at H
    have c10b0 : decide (1024 < (l0.length : Int)) = true := decide_eq_true c10
    have c10b1 : decide (1024 < l0.length) = true := decide_eq_true (by omega)
    clear c10
    simp only [Option.some.injEq, Prod.mk.injEq] at H
    obtain ⟨rfl, rfl⟩ := H
    go_wp2
    go_ret2
    exact ⟨_, by first | rfl | (simp [errW_none, errW_some] <;> rfl) | (simp [*, errW_none, errW_some] <;> rfl), by first | exact Kd.S_nil _ _ _ _ _ | exact Kd.N_nil _ _ _ _ _ | exact Kd.V_nil _ _ _ _ _ | exact Kd.Q_nil _ _ _ _ _ | exact Kd.R_nil _ _ _ _ _, by repeat (first | (with_reducible first | exact HB.out | apply YA | apply YB | apply YC) | exact HB.out)⟩
   rw [if_neg c10] at H
   have c10b0 : decide (1024 < (l0.length : Int)) = false := decide_eq_false c10
   have c10b1 : decide (1024 < l0.length) = false := decide_eq_false (by omega)
   clear c10; replace H := Option.bind_eq_some_iff.mp H; obtain ⟨t351, A110, H⟩ := H
   replace H : (thalwegref05_Pack.l0 kj3 l0 a2 ([] : List (S48)) t351 0) = some (r1, r2) := H
   have A11 := YF A110; clear A110
   have H' := YF H
   clear H
   go_wp2_with (first | ((with_reducible refine gate_callee (f := 62) rfl ?_); refine goesA (some 27) Try.func62 #[.int .i64 a1] ?_; (with_reducible refine (thalwegref03_Left.calls a1 t351 _ A11.out).mono ?_); rintro e w' ⟨rfl, ⟨nd, rfl⟩⟩; refine ⟨_, rfl, ?_⟩))
   go_loopg [8, 9, 10] kj3 (fun kq v8 v9 v10 w' => ∃ (x8_2 : List (S48)) (x9_2 : Int) (x10_2 : Int), v9 = .int .i64 x9_2 ∧ v10 = .int .i64 x10_2 ∧ Aside0 (thalwegref05_Pack.l0 kq l0 a2 x8_2 x9_2 x10_2 = some (r1, r2)) ∧ Aside0 (kq ≤ kj3) ∧ Aside0 (Kd.S k48 48 w' w.heap.size (fun _ => True) v8 x8_2) ∧ Aside0 (Below w.heap.size w w'))
   case atStart => exact ⟨(([] : List (S48))), (t351), (0), (by first | rfl | (simp; done) | (simp [*]; done)), (by first | rfl | (simp; done) | (simp [*]; done)), H', ⟨Nat.le_refl _⟩, ⟨by first | exact Kd.S_nil _ _ _ _ _ | exact Kd.N_nil _ _ _ _ _ | exact Kd.V_nil _ _ _ _ _ | exact Kd.Q_nil _ _ _ _ _ | exact Kd.R_nil _ _ _ _ _⟩, ⟨by repeat (first | (with_reducible first | exact HB.out | apply YA | apply YB | apply YC) | exact HB.out)⟩⟩
   case round =>
    clear H'
    try clear c1; try clear p2
    try clear c4; try clear c5
    try clear c5b0; try clear c6
    try clear c6b0; try clear c9
    try clear c10; try clear c10b0
    try clear c10b1; try clear p2
    obtain ⟨x8_2, x9_2, x10_2, rfl, rfl, HA, HK2, HO_8, HB⟩ := hrel
    cases gk with
    | zero => exact absurd HA.out (by simp [thalwegref05_Pack.l0])
    | succ k2 =>
     have H := HA.out
     clear HA
     simp only [thalwegref05_Pack.l0] at H
     by_cases c12 : x10_2 < (l0.length : Int)
     ·rw [if_pos c12] at H
      have c12b0 : decide (x10_2 < (l0.length : Int)) = true := decide_eq_true c12
      clear c12
      have H' := YF H
      clear H
      go_wp2
      go_loopg [11] k2 (fun kq v11 w' => ∃ (x11_3 : Int), v11 = .int .i64 x11_3 ∧ Aside0 (thalwegref05_Pack.l1 kq l0 a2 x8_2 x9_2 x10_2 x11_3 = some (r1, r2)) ∧ Aside0 (kq ≤ k2) ∧ Aside0 (Kd.S k48 48 w' w.heap.size (fun _ => True) u8 x8_2) ∧ Aside0 (Below w.heap.size w w'))
      case atStart => exact ⟨(wrap64 (x10_2 + 1)), (by first | rfl | (simp; done) | (simp [*]; done)), H', ⟨Nat.le_refl _⟩, ⟨by (with_reducible repeat (first | apply Kd.S_alloc | apply Kd.S_drewN | apply Kd.S_drew)); exact HO_8.out⟩, ⟨by repeat (first | (with_reducible first | exact HB.out | apply YA | apply YB | apply YC) | exact HB.out)⟩⟩
      case round =>
       clear H'
       try clear c1; try clear p2
       try clear c4; try clear c5
       try clear c5b0; try clear c6
       try clear c6b0; try clear p6
       try clear c9; try clear c10
       try clear c10b0; try clear c10b1
       try clear c12; try clear c12b0; try clear p2
       obtain ⟨x11_3, rfl, HA, HK3, HO_8, HB⟩ := hrel
       cases gk with
       | zero => exact absurd HA.out (by simp [thalwegref05_Pack.l1])
       | succ k3 =>
        have H := HA.out
        clear HA
        simp only [thalwegref05_Pack.l1] at H
        by_cases c13 : x11_3 < (l0.length : Int)
        ·rw [if_pos c13] at H
         have c13b0 : decide (x11_3 < (l0.length : Int)) = true := decide_eq_true c13
         clear c13
         by_cases c14 : (wrap64 (x11_3 - x10_2)) < 32
         ·rw [if_pos c14] at H
          have c14b0 : decide ((wrap64 (x11_3 - x10_2)) < 32) = true := decide_eq_true c14; clear c14
          by_cases c15 : 0 ≤ x10_2
          rotate_left
          ·rw [if_neg c15] at H
           exact absurd H (by simp)
          rw [if_pos c15] at H
          have c15b0 := eq_true c15
          have c15b1 : decide (0 ≤ x10_2) = true := decide_eq_true c15; clear c15
          by_cases c16 : x10_2 ≤ (wrap64 (x11_3 + 1))
          rotate_left
          ·rw [if_neg c16] at H
           exact absurd H (by simp)
          rw [if_pos c16] at H
          have c16b0 := eq_true c16
          have c16b1 : decide (x10_2 ≤ (wrap64 (x11_3 + 1))) = true := decide_eq_true c16
          by_cases c17 : (wrap64 (x11_3 + 1)) ≤ (l0.length : Int)
          rotate_left
          ·rw [if_neg c17] at H
           exact absurd H (by simp)
          rw [if_pos c17] at H
          have c17b0 := eq_true c17
          have c17b1 : decide ((wrap64 (x11_3 + 1)) ≤ (l0.length : Int)) = true := decide_eq_true c17
          obtain ⟨y352, hy352⟩ : ∃ y_ : List (S34), y_ = ((l0.take ((wrap64 (x11_3 + 1)) : Int).toNat).drop (x10_2 : Int).toNat) := ⟨_, rfl⟩
          replace H : ((thalwegref05_size.f k3 y352).bind fun t356 => (if t356 ≤ a2 then (thalwegref05_Pack.l1 k3 l0 a2 x8_2 x9_2 x10_2 (wrap64 (x11_3 + 1))) else (if x10_2 ≤ x11_3 then (if x11_3 ≤ (l0.length : Int) then ((thalwegref04_Own.f ((l0.take (x11_3 : Int).toNat).drop (x10_2 : Int).toNat)).bind fun t361 => (if x8_2.length < 4398046511104 then ((thalwegref03_Next.f x9_2).bind fun t367 => (thalwegref05_Pack.l0 k3 l0 a2 (x8_2 ++ [(⟨x9_2, t361⟩ : S48)]) t367 x11_3)) else (none))) else (none)) else (none)))) = some (r1, r2) := by first | (rw [hy352]; with_reducible exact H) | (have H2_ := (Option.bind_some _ _).symm.trans H; rw [hy352]; with_reducible exact H2_) | (have H2_ := (Option.bind_some _ _).symm.trans H; with_reducible exact H2_) | with_reducible exact H | (rw [hy352]; exact H) | exact H
          have Ny352 := YF hy352; clear hy352; replace H := Option.bind_eq_some_iff.mp H; obtain ⟨t356, A180, H⟩ := H
          replace H : (if t356 ≤ a2 then (thalwegref05_Pack.l1 k3 l0 a2 x8_2 x9_2 x10_2 (wrap64 (x11_3 + 1))) else (if x10_2 ≤ x11_3 then (if x11_3 ≤ (l0.length : Int) then ((thalwegref04_Own.f ((l0.take (x11_3 : Int).toNat).drop (x10_2 : Int).toNat)).bind fun t361 => (if x8_2.length < 4398046511104 then ((thalwegref03_Next.f x9_2).bind fun t367 => (thalwegref05_Pack.l0 k3 l0 a2 (x8_2 ++ [(⟨x9_2, t361⟩ : S48)]) t367 x11_3)) else (none))) else (none)) else (none))) = some (r1, r2) := H
          have A18 := YF A180; clear A180
          by_cases c19 : t356 ≤ a2
          ·rw [if_pos c19] at H
           have c19b0 : decide (t356 ≤ a2) = true := decide_eq_true c19; clear c19
           have H' := YF H
           clear H
           have q20 : ((wrap64 (x11_3 + 1)) : Int) ≤ ((l0.length : Int) : Int) := of_decide_eq_true (by first | (with_reducible assumption) | assumption)
           obtain ⟨i020, hi020, _, hsz20, _⟩ := info_parts info34
           have hroom20 : l0.length ≤ c0 := HC0.out
           have hC20 : Kd.C k34 _ A0 l0.length l0 := HR0.out
           have ql20 : (x10_2 : Int) ≤ ((wrap64 (x11_3 + 1)) : Int) := of_decide_eq_true (by first | (with_reducible assumption) | assumption)
           have q020 : (0 : Int) ≤ (x10_2 : Int) := of_decide_eq_true (by first | (with_reducible assumption) | assumption)
           have hcut20 := cut_mid (P := Try.prog) 46 34 .i64 .i64 Try.underlying46 hi020 12 hsz20 A0 l0.length c0 x10_2 (wrap64 (x11_3 + 1)) q020 ql20 q20 hroom20
           have hr20 := Kd.C_mid (lo := (x10_2 : Int).toNat) (hi := ((wrap64 (x11_3 + 1)) : Int).toNat) (c := c0) hC20 (by omega) (by omega) hroom20
           obtain ⟨A20, hA20⟩ : ∃ A1, A1 = (if c0 = (x10_2 : Int).toNat then A0 else (A0 : Option Addr).map (·.add ((x10_2 : Int).toNat * 12))) := ⟨_, rfl⟩
           obtain ⟨c20, hc20⟩ : ∃ c1, c1 = c0 - (x10_2 : Int).toNat := ⟨_, rfl⟩
           have hy20 : y352.length = ((wrap64 (x11_3 + 1)) : Int).toNat - (x10_2 : Int).toNat := (by rw [Ny352.out, YI, YH] <;> omega)
           rw [show ((l0).take ((wrap64 (x11_3 + 1)) : Int).toNat).drop (x10_2 : Int).toNat = y352 from Ny352.out.symm] at hr20
           replace hr20 : Kd.C k34 _ A20 y352.length y352 := (by rw [hA20]; exact hr20)
           rw [← hy20, ← hA20, ← hc20] at hcut20
           have HR355 := YF hr20
           have HC355 := YF (show y352.length ≤ c20 from by rw [hy20, hc20]; exact Nat.sub_le_sub_right (Nat.le_trans (by omega) hroom20) _)
           clear hr20 hC20 hroom20 hi020 hsz20 hc20; have KY20 := YF hy20; have KA20 := YF hA20; clear hy20 hA20
           replace q20 := eq_true q20
           go_wp2_with (first | (go_at_call 61; (with_reducible refine (thalwegref05_size.calls k3 _ _ y352 t356 _ ?side1 ?side2 A18.out).mono ?_); (case side1 => repeat (first | exact (Kd.C_below HR355.out HB.out) | (with_reducible refine Kd.C_alloc ?_ _) | (with_reducible refine Kd.C_drewN ?_ _) | (with_reducible refine Kd.C_drew ?_))); (case side2 => exact HC355.out); rintro e w21 ⟨rfl, hb⟩; have n0_ := YF (Kd.S_below (by (with_reducible repeat (first | apply Kd.S_alloc | apply Kd.S_drewN | apply Kd.S_drew)); exact HO_8.out) hb); have n1_ := YF (YD (upB HB) hb); clear HO_8; clear HB; have HO_8 := n0_; have HB := n1_; clear n0_ n1_; (try clear hb); (try clear hb2); (try clear hk); (try clear hi)))
           go_roundg k3
           case measure => have := HJ3.out; have := HK2.out; have := HK3.out; omega
           case rel => exact ⟨(wrap64 (x11_3 + 1)), (by first | rfl | (simp; done) | (simp [*]; done)), H', ⟨by have := HJ3.out; have := HK2.out; have := HK3.out; omega⟩, ⟨by (with_reducible repeat (first | apply Kd.S_alloc | apply Kd.S_drewN | apply Kd.S_drew)); exact HO_8.out⟩, ⟨by repeat (first | (with_reducible first | exact HB.out | apply YA | apply YB | apply YC) | exact HB.out)⟩⟩
          rw [if_neg c19] at H; have c19b0 : decide (t356 ≤ a2) = false := decide_eq_false c19; clear c19
          have c22b0 := eq_true (of_decide_eq_true (by first | (with_reducible assumption) | assumption) : 0 ≤ x10_2)
          by_cases c23 : x10_2 ≤ x11_3
          rotate_left
          ·rw [if_neg c23] at H
           exact absurd H (by simp)
          rw [if_pos c23] at H
          have c23b0 := eq_true c23
          have c23b1 : decide (x10_2 ≤ x11_3) = true := decide_eq_true c23; clear c23
          by_cases c24 : x11_3 ≤ (l0.length : Int)
          rotate_left
          ·rw [if_neg c24] at H
           exact absurd H (by simp)
          rw [if_pos c24] at H
          have c24b0 := eq_true c24
          have c24b1 : decide (x11_3 ≤ (l0.length : Int)) = true := decide_eq_true c24
          clear c24
          obtain ⟨y357, hy357⟩ : ∃ y_ : List (S34), y_ = ((l0.take (x11_3 : Int).toNat).drop (x10_2 : Int).toNat) := ⟨_, rfl⟩
          replace H : ((thalwegref04_Own.f y357).bind fun t361 => (if x8_2.length < 4398046511104 then ((thalwegref03_Next.f x9_2).bind fun t367 => (thalwegref05_Pack.l0 k3 l0 a2 (x8_2 ++ [(⟨x9_2, t361⟩ : S48)]) t367 x11_3)) else (none))) = some (r1, r2) := by first | (rw [hy357]; with_reducible exact H) | (have H2_ := (Option.bind_some _ _).symm.trans H; rw [hy357]; with_reducible exact H2_) | (have H2_ := (Option.bind_some _ _).symm.trans H; with_reducible exact H2_) | with_reducible exact H | (rw [hy357]; exact H) | exact H
          have Ny357 := YF hy357; clear hy357; replace H := Option.bind_eq_some_iff.mp H; obtain ⟨t361, A250, H⟩ := H
          replace H : (if x8_2.length < 4398046511104 then ((thalwegref03_Next.f x9_2).bind fun t367 => (thalwegref05_Pack.l0 k3 l0 a2 (x8_2 ++ [(⟨x9_2, t361⟩ : S48)]) t367 x11_3)) else (none)) = some (r1, r2) := H
          have A25 := YF A250; clear A250
          by_cases c26 : x8_2.length < 4398046511104
          rotate_left
          ·rw [if_neg c26] at H
           exact absurd H (by simp)
          rw [if_pos c26] at H; have LMc26 := YF c26; clear c26
          obtain ⟨y364, hy364⟩ : ∃ y_ : List (S48), y_ = (x8_2 ++ [(⟨x9_2, t361⟩ : S48)]) := ⟨_, rfl⟩
          replace H : ((thalwegref03_Next.f x9_2).bind fun t367 => (thalwegref05_Pack.l0 k3 l0 a2 y364 t367 x11_3)) = some (r1, r2) := by first | (rw [hy364]; with_reducible exact H) | (have H2_ := (Option.bind_some _ _).symm.trans H; rw [hy364]; with_reducible exact H2_) | (have H2_ := (Option.bind_some _ _).symm.trans H; with_reducible exact H2_) | with_reducible exact H | (rw [hy364]; exact H) | exact H
          have Ny364 := YF hy364; clear hy364; replace H := Option.bind_eq_some_iff.mp H; obtain ⟨t367, A270, H⟩ := H
          replace H : (thalwegref05_Pack.l0 k3 l0 a2 y364 t367 x11_3) = some (r1, r2) := H
          have A27 := YF A270; clear A270
          have H' := YF H
          clear H
          have q28 : ((wrap64 (x11_3 + 1)) : Int) ≤ ((l0.length : Int) : Int) := of_decide_eq_true (by first | (with_reducible assumption) | assumption)
          obtain ⟨i028, hi028, _, hsz28, _⟩ := info_parts info34
          have hroom28 : l0.length ≤ c0 := HC0.out
          have hC28 : Kd.C k34 _ A0 l0.length l0 := HR0.out
          have ql28 : (x10_2 : Int) ≤ ((wrap64 (x11_3 + 1)) : Int) := of_decide_eq_true (by first | (with_reducible assumption) | assumption)
          have q028 : (0 : Int) ≤ (x10_2 : Int) := of_decide_eq_true (by first | (with_reducible assumption) | assumption)
          have hcut28 := cut_mid (P := Try.prog) 46 34 .i64 .i64 Try.underlying46 hi028 12 hsz28 A0 l0.length c0 x10_2 (wrap64 (x11_3 + 1)) q028 ql28 q28 hroom28
          have hr28 := Kd.C_mid (lo := (x10_2 : Int).toNat) (hi := ((wrap64 (x11_3 + 1)) : Int).toNat) (c := c0) hC28 (by omega) (by omega) hroom28
          obtain ⟨A28, hA28⟩ : ∃ A1, A1 = (if c0 = (x10_2 : Int).toNat then A0 else (A0 : Option Addr).map (·.add ((x10_2 : Int).toNat * 12))) := ⟨_, rfl⟩
          obtain ⟨c28, hc28⟩ : ∃ c1, c1 = c0 - (x10_2 : Int).toNat := ⟨_, rfl⟩
          have hy28 : y352.length = ((wrap64 (x11_3 + 1)) : Int).toNat - (x10_2 : Int).toNat := (by rw [Ny352.out, YI, YH] <;> omega)
          rw [show ((l0).take ((wrap64 (x11_3 + 1)) : Int).toNat).drop (x10_2 : Int).toNat = y352 from Ny352.out.symm] at hr28
          replace hr28 : Kd.C k34 _ A28 y352.length y352 := (by rw [hA28]; exact hr28)
          rw [← hy28, ← hA28, ← hc28] at hcut28
          have HR355 := YF hr28
          have HC355 := YF (show y352.length ≤ c28 from by rw [hy28, hc28]; exact Nat.sub_le_sub_right (Nat.le_trans (by omega) hroom28) _)
          clear hr28 hC28 hroom28 hi028 hsz28 hc28; have KY28 := YF hy28; have KA28 := YF hA28; clear hy28 hA28
          replace q28 := eq_true q28
          go_wp2_with (first | (go_at_call 61; (with_reducible refine (thalwegref05_size.calls k3 _ _ y352 t356 _ ?side1 ?side2 A18.out).mono ?_); (case side1 => repeat (first | exact (Kd.C_below HR355.out HB.out) | (with_reducible refine Kd.C_alloc ?_ _) | (with_reducible refine Kd.C_drewN ?_ _) | (with_reducible refine Kd.C_drew ?_))); (case side2 => exact HC355.out); rintro e w29 ⟨rfl, hb⟩; have n0_ := YF (Kd.S_below (by (with_reducible repeat (first | apply Kd.S_alloc | apply Kd.S_drewN | apply Kd.S_drew)); exact HO_8.out) hb); have n1_ := YF (YD (upB HB) hb); clear HO_8; clear HB; have HO_8 := n0_; have HB := n1_; clear n0_ n1_; (try clear hb); (try clear hb2); (try clear hk); (try clear hi); have q30 : (x11_3 : Int) ≤ ((l0.length : Int) : Int) := of_decide_eq_true (by first | (with_reducible assumption) | assumption); obtain ⟨i030, hi030, _, hsz30, _⟩ := info_parts info34; have hroom30 : l0.length ≤ c0 := HC0.out; have hC30 : Kd.C k34 _ A0 l0.length l0 := HR0.out; have ql30 : (x10_2 : Int) ≤ (x11_3 : Int) := of_decide_eq_true (by first | (with_reducible assumption) | assumption); have q030 : (0 : Int) ≤ (x10_2 : Int) := of_decide_eq_true (by first | (with_reducible assumption) | assumption); have hcut30 := cut_mid (P := Try.prog) 46 34 .i64 .i64 Try.underlying46 hi030 12 hsz30 A0 l0.length c0 x10_2 x11_3 q030 ql30 q30 hroom30; have hr30 := Kd.C_mid (lo := (x10_2 : Int).toNat) (hi := (x11_3 : Int).toNat) (c := c0) hC30 (by omega) (by omega) hroom30; obtain ⟨A30, hA30⟩ : ∃ A1, A1 = (if c0 = (x10_2 : Int).toNat then A0 else (A0 : Option Addr).map (·.add ((x10_2 : Int).toNat * 12))) := ⟨_, rfl⟩; obtain ⟨c30, hc30⟩ : ∃ c1, c1 = c0 - (x10_2 : Int).toNat := ⟨_, rfl⟩; have hy30 : y357.length = (x11_3 : Int).toNat - (x10_2 : Int).toNat := (by rw [Ny357.out, YI, YH] <;> omega); rw [show ((l0).take (x11_3 : Int).toNat).drop (x10_2 : Int).toNat = y357 from Ny357.out.symm] at hr30; replace hr30 : Kd.C k34 _ A30 y357.length y357 := (by rw [hA30]; exact hr30); rw [← hy30, ← hA30, ← hc30] at hcut30; have HR360 := YF hr30; have HC360 := YF (show y357.length ≤ c30 from by rw [hy30, hc30]; exact Nat.sub_le_sub_right (Nat.le_trans (by omega) hroom30) _); clear hr30 hC30 hroom30 hi030 hsz30 hc30; have KY30 := YF hy30; have KA30 := YF hA30; clear hy30 hA30; replace q30 := eq_true q30) | ((with_reducible refine gate_callee (f := 44) rfl ?_); refine goesA (some 62) Try.func44 #[.slice A30 y357.length c30] ?_; (with_reducible refine (thalwegref04_Own.calls _ _ y357 t361 _ ?side1 ?side2 A25.out).mono ?_); (case side1 => repeat (first | exact (Kd.C_below HR360.out HB.out) | (with_reducible refine Kd.C_alloc ?_ _) | (with_reducible refine Kd.C_drewN ?_ _) | (with_reducible refine Kd.C_drew ?_))); (case side2 => exact HC360.out); rintro e w31 ⟨v362, rfl, ho0, hb⟩; refine ⟨_, rfl, ?_⟩; have n0_ := YF (Kd.S_elder' (by (with_reducible repeat (first | apply Kd.S_alloc | apply Kd.S_drewN | apply Kd.S_drew)); exact HO_8.out) (Kd.R_base ho0) hb); have n1_ := YF (Kd.R_lower ho0 (YE (upB HB))); have n2_ := YF (YD (upB HB) hb); clear HO_8; clear HB; have HO_8 := n0_; have HO363 := n1_; have HB := n2_; clear n0_ n1_ n2_; (try clear hb); (try clear hb2); (try clear hk); (try clear hi); (try clear ho0); obtain ⟨Ao32, co32, eo32⟩ := Kd.R_slice HO363.out; subst eo32) | ((with_reducible refine gate_builtin (b := .append) (xs := #[.tmp 56, .tmp 64]) rfl ?_); at_builtin; refine Kd.S_append k48 (w0 := w) w.heap.size rfl (.tmp 56) (.tmp 64) 28 48 (.agg #[(.int .i64 0), (.slice none 0 0)]) 32 rfl Try.underlying28 info48 rfl (by decide) (by omega) u8 x8_2 (⟨x9_2, t361⟩ : S48) [.int .i64 x9_2, .slice Ao32 t361.length co32] (fun _ => True) (fun k_ => some k_ = (.slice Ao32 t361.length co32 : Value).ownBlock) rfl rfl ?aP (fun k_ hk_ => ((Kd.R_mono (ok' := fun k_ => ((fun _ => True)) k_ ∧ some k_ ≠ (u8 : Value).ownBlock) (Kd.R_apart' (HO363.out) (Kd.S_typed HO_8.out) (by decide)) (fun k_ hk => ⟨trivial, hk.2⟩))).1 k_ hk_.symm) ?aF ?aO ?aB ?aS ?aL ?_; (case aP => exact k48_mkM _ _ _ (⟨x9_2, t361⟩ : S48) (Kd.R_mono (Kd.R_tight rfl (Kd.R_mono (ok' := fun k_ => ((fun _ => True)) k_ ∧ some k_ ≠ (u8 : Value).ownBlock) (Kd.R_apart' (HO363.out) (Kd.S_typed HO_8.out) (by decide)) (fun k_ hk => ⟨trivial, hk.2⟩))) (fun _ h_ => h_))); (case aB => exact (upB HB)); (case aF => exact (fun _ _ => trivial)); (case aO => exact (by (with_reducible repeat (first | apply Kd.S_alloc | apply Kd.S_drewN | apply Kd.S_drew)); exact Kd.S_mono HO_8.out (fun k_ hk => ⟨trivial, fun e_ => hk.2 e_⟩))); (case aS => exact (YE (upB HB))); (case aL => have := LMc26.out; omega); intro v365 w33 ho hb hg hat; rw [← Ny364.out] at ho; have n0_ := YF (hb); have n1_ := YF (ho); clear HB; clear HO_8; clear HO363; have HB := n0_; have HO366 := n1_; clear n0_ n1_; clear ho hb hg hat) | ((with_reducible refine gate_callee (f := 43) rfl ?_); refine goesA (some 67) Try.func43 #[.int .i64 x9_2] ?_; (with_reducible refine (thalwegref03_Next.calls x9_2 t367 _ A27.out).mono ?_); rintro e w' ⟨rfl, ⟨nd, rfl⟩⟩; refine ⟨_, rfl, ?_⟩))
          go_roundg k3
          case measure => have := HJ3.out; have := HK2.out; have := HK3.out; omega
          case rel => exact ⟨(y364), (t367), (x11_3), (by first | rfl | (simp; done) | (simp [*]; done)), (by first | rfl | (simp; done) | (simp [*]; done)), H', ⟨by have := HJ3.out; have := HK2.out; have := HK3.out; omega⟩, ⟨by (with_reducible repeat (first | apply Kd.S_alloc | apply Kd.S_drewN | apply Kd.S_drew)); exact HO366.out⟩, ⟨by repeat (first | (with_reducible first | exact HB.out | apply YA | apply YB | apply YC) | exact HB.out)⟩⟩
         rw [if_neg c14] at H; have c14b0 : decide ((wrap64 (x11_3 - x10_2)) < 32) = false := decide_eq_false c14; clear c14
         by_cases c34 : 0 ≤ x10_2
         rotate_left
         ·rw [if_neg c34] at H
          exact absurd H (by simp)
         rw [if_pos c34] at H
         have c34b0 := eq_true c34
         have c34b1 : decide (0 ≤ x10_2) = true := decide_eq_true c34; clear c34
         by_cases c35 : x10_2 ≤ x11_3
         rotate_left
         ·rw [if_neg c35] at H
          exact absurd H (by simp)
         rw [if_pos c35] at H
         have c35b0 := eq_true c35
         have c35b1 : decide (x10_2 ≤ x11_3) = true := decide_eq_true c35; clear c35
         by_cases c36 : x11_3 ≤ (l0.length : Int)
         rotate_left
         ·rw [if_neg c36] at H
          exact absurd H (by simp)
         rw [if_pos c36] at H
         have c36b0 := eq_true c36
         have c36b1 : decide (x11_3 ≤ (l0.length : Int)) = true := decide_eq_true c36
         clear c36
         obtain ⟨y368, hy368⟩ : ∃ y_ : List (S34), y_ = ((l0.take (x11_3 : Int).toNat).drop (x10_2 : Int).toNat) := ⟨_, rfl⟩
         replace H : ((thalwegref04_Own.f y368).bind fun t372 => (if x8_2.length < 4398046511104 then ((thalwegref03_Next.f x9_2).bind fun t378 => (thalwegref05_Pack.l0 k3 l0 a2 (x8_2 ++ [(⟨x9_2, t372⟩ : S48)]) t378 x11_3)) else (none))) = some (r1, r2) := by first | (rw [hy368]; with_reducible exact H) | (have H2_ := (Option.bind_some _ _).symm.trans H; rw [hy368]; with_reducible exact H2_) | (have H2_ := (Option.bind_some _ _).symm.trans H; with_reducible exact H2_) | with_reducible exact H | (rw [hy368]; exact H) | exact H
         have Ny368 := YF hy368; clear hy368; replace H := Option.bind_eq_some_iff.mp H; obtain ⟨t372, A370, H⟩ := H
         replace H : (if x8_2.length < 4398046511104 then ((thalwegref03_Next.f x9_2).bind fun t378 => (thalwegref05_Pack.l0 k3 l0 a2 (x8_2 ++ [(⟨x9_2, t372⟩ : S48)]) t378 x11_3)) else (none)) = some (r1, r2) := H
         have A37 := YF A370; clear A370
         by_cases c38 : x8_2.length < 4398046511104
         rotate_left
         ·rw [if_neg c38] at H
          exact absurd H (by simp)
         rw [if_pos c38] at H; have LMc38 := YF c38; clear c38
         obtain ⟨y375, hy375⟩ : ∃ y_ : List (S48), y_ = (x8_2 ++ [(⟨x9_2, t372⟩ : S48)]) := ⟨_, rfl⟩
         replace H : ((thalwegref03_Next.f x9_2).bind fun t378 => (thalwegref05_Pack.l0 k3 l0 a2 y375 t378 x11_3)) = some (r1, r2) := by first | (rw [hy375]; with_reducible exact H) | (have H2_ := (Option.bind_some _ _).symm.trans H; rw [hy375]; with_reducible exact H2_) | (have H2_ := (Option.bind_some _ _).symm.trans H; with_reducible exact H2_) | with_reducible exact H | (rw [hy375]; exact H) | exact H
         have Ny375 := YF hy375; clear hy375; replace H := Option.bind_eq_some_iff.mp H; obtain ⟨t378, A390, H⟩ := H
         replace H : (thalwegref05_Pack.l0 k3 l0 a2 y375 t378 x11_3) = some (r1, r2) := H
         have A39 := YF A390; clear A390
         have H' := YF H
         clear H
         have q40 : (x11_3 : Int) ≤ ((l0.length : Int) : Int) := of_decide_eq_true (by first | (with_reducible assumption) | assumption)
         obtain ⟨i040, hi040, _, hsz40, _⟩ := info_parts info34
         have hroom40 : l0.length ≤ c0 := HC0.out
         have hC40 : Kd.C k34 _ A0 l0.length l0 := HR0.out
         have ql40 : (x10_2 : Int) ≤ (x11_3 : Int) := of_decide_eq_true (by first | (with_reducible assumption) | assumption)
         have q040 : (0 : Int) ≤ (x10_2 : Int) := of_decide_eq_true (by first | (with_reducible assumption) | assumption)
         have hcut40 := cut_mid (P := Try.prog) 46 34 .i64 .i64 Try.underlying46 hi040 12 hsz40 A0 l0.length c0 x10_2 x11_3 q040 ql40 q40 hroom40
         have hr40 := Kd.C_mid (lo := (x10_2 : Int).toNat) (hi := (x11_3 : Int).toNat) (c := c0) hC40 (by omega) (by omega) hroom40
         obtain ⟨A40, hA40⟩ : ∃ A1, A1 = (if c0 = (x10_2 : Int).toNat then A0 else (A0 : Option Addr).map (·.add ((x10_2 : Int).toNat * 12))) := ⟨_, rfl⟩
         obtain ⟨c40, hc40⟩ : ∃ c1, c1 = c0 - (x10_2 : Int).toNat := ⟨_, rfl⟩
         have hy40 : y368.length = (x11_3 : Int).toNat - (x10_2 : Int).toNat := (by rw [Ny368.out, YI, YH] <;> omega)
         rw [show ((l0).take (x11_3 : Int).toNat).drop (x10_2 : Int).toNat = y368 from Ny368.out.symm] at hr40
         replace hr40 : Kd.C k34 _ A40 y368.length y368 := (by rw [hA40]; exact hr40)
         rw [← hy40, ← hA40, ← hc40] at hcut40
         have HR371 := YF hr40
         have HC371 := YF (show y368.length ≤ c40 from by rw [hy40, hc40]; exact Nat.sub_le_sub_right (Nat.le_trans (by omega) hroom40) _)
         clear hr40 hC40 hroom40 hi040 hsz40 hc40; have KY40 := YF hy40; have KA40 := YF hA40; clear hy40 hA40
         replace q40 := eq_true q40
         go_wp2_with (first | ((with_reducible refine gate_callee (f := 44) rfl ?_); refine goesA (some 62) Try.func44 #[.slice A40 y368.length c40] ?_; (with_reducible refine (thalwegref04_Own.calls _ _ y368 t372 _ ?side1 ?side2 A37.out).mono ?_); (case side1 => repeat (first | exact (Kd.C_below HR371.out HB.out) | (with_reducible refine Kd.C_alloc ?_ _) | (with_reducible refine Kd.C_drewN ?_ _) | (with_reducible refine Kd.C_drew ?_))); (case side2 => exact HC371.out); rintro e w41 ⟨v373, rfl, ho0, hb⟩; refine ⟨_, rfl, ?_⟩; have n0_ := YF (Kd.S_elder' (by (with_reducible repeat (first | apply Kd.S_alloc | apply Kd.S_drewN | apply Kd.S_drew)); exact HO_8.out) (Kd.R_base ho0) hb); have n1_ := YF (Kd.R_lower ho0 (YE (upB HB))); have n2_ := YF (YD (upB HB) hb); clear HO_8; clear HB; have HO_8 := n0_; have HO374 := n1_; have HB := n2_; clear n0_ n1_ n2_; (try clear hb); (try clear hb2); (try clear hk); (try clear hi); (try clear ho0); obtain ⟨Ao42, co42, eo42⟩ := Kd.R_slice HO374.out; subst eo42) | ((with_reducible refine gate_builtin (b := .append) (xs := #[.tmp 56, .tmp 64]) rfl ?_); at_builtin; refine Kd.S_append k48 (w0 := w) w.heap.size rfl (.tmp 56) (.tmp 64) 28 48 (.agg #[(.int .i64 0), (.slice none 0 0)]) 32 rfl Try.underlying28 info48 rfl (by decide) (by omega) u8 x8_2 (⟨x9_2, t372⟩ : S48) [.int .i64 x9_2, .slice Ao42 t372.length co42] (fun _ => True) (fun k_ => some k_ = (.slice Ao42 t372.length co42 : Value).ownBlock) rfl rfl ?aP (fun k_ hk_ => ((Kd.R_mono (ok' := fun k_ => ((fun _ => True)) k_ ∧ some k_ ≠ (u8 : Value).ownBlock) (Kd.R_apart' (HO374.out) (Kd.S_typed HO_8.out) (by decide)) (fun k_ hk => ⟨trivial, hk.2⟩))).1 k_ hk_.symm) ?aF ?aO ?aB ?aS ?aL ?_; (case aP => exact k48_mkM _ _ _ (⟨x9_2, t372⟩ : S48) (Kd.R_mono (Kd.R_tight rfl (Kd.R_mono (ok' := fun k_ => ((fun _ => True)) k_ ∧ some k_ ≠ (u8 : Value).ownBlock) (Kd.R_apart' (HO374.out) (Kd.S_typed HO_8.out) (by decide)) (fun k_ hk => ⟨trivial, hk.2⟩))) (fun _ h_ => h_))); (case aB => exact (upB HB)); (case aF => exact (fun _ _ => trivial)); (case aO => exact (by (with_reducible repeat (first | apply Kd.S_alloc | apply Kd.S_drewN | apply Kd.S_drew)); exact Kd.S_mono HO_8.out (fun k_ hk => ⟨trivial, fun e_ => hk.2 e_⟩))); (case aS => exact (YE (upB HB))); (case aL => have := LMc38.out; omega); intro v376 w43 ho hb hg hat; rw [← Ny375.out] at ho; have n0_ := YF (hb); have n1_ := YF (ho); clear HB; clear HO_8; clear HO374; have HB := n0_; have HO377 := n1_; clear n0_ n1_; clear ho hb hg hat) | ((with_reducible refine gate_callee (f := 43) rfl ?_); refine goesA (some 67) Try.func43 #[.int .i64 x9_2] ?_; (with_reducible refine (thalwegref03_Next.calls x9_2 t378 _ A39.out).mono ?_); rintro e w' ⟨rfl, ⟨nd, rfl⟩⟩; refine ⟨_, rfl, ?_⟩))
         go_roundg k3
         case measure => have := HJ3.out; have := HK2.out; have := HK3.out; omega
         case rel => exact ⟨(y375), (t378), (x11_3), (by first | rfl | (simp; done) | (simp [*]; done)), (by first | rfl | (simp; done) | (simp [*]; done)), H', ⟨by have := HJ3.out; have := HK2.out; have := HK3.out; omega⟩, ⟨by (with_reducible repeat (first | apply Kd.S_alloc | apply Kd.S_drewN | apply Kd.S_drew)); exact HO377.out⟩, ⟨by repeat (first | (with_reducible first | exact HB.out | apply YA | apply YB | apply YC) | exact HB.out)⟩⟩
        rw [if_neg c13] at H
        have c13b0 : decide (x11_3 < (l0.length : Int)) = false := decide_eq_false c13
        clear c13
        by_cases c44 : 0 ≤ x10_2
        rotate_left
        ·rw [if_neg c44] at H
         exact absurd H (by simp)
        rw [if_pos c44] at H
        have c44b0 := eq_true c44
        have c44b1 : decide (0 ≤ x10_2) = true := decide_eq_true c44; clear c44
        by_cases c45 : x10_2 ≤ x11_3
        rotate_left
        ·rw [if_neg c45] at H
         exact absurd H (by simp)
        rw [if_pos c45] at H
        have c45b0 := eq_true c45
        have c45b1 : decide (x10_2 ≤ x11_3) = true := decide_eq_true c45; clear c45
        by_cases c46 : x11_3 ≤ (l0.length : Int)
        rotate_left
        ·rw [if_neg c46] at H
         exact absurd H (by simp)
        rw [if_pos c46] at H
        have c46b0 := eq_true c46
        have c46b1 : decide (x11_3 ≤ (l0.length : Int)) = true := decide_eq_true c46
        clear c46
        obtain ⟨y379, hy379⟩ : ∃ y_ : List (S34), y_ = ((l0.take (x11_3 : Int).toNat).drop (x10_2 : Int).toNat) := ⟨_, rfl⟩
        replace H : ((thalwegref04_Own.f y379).bind fun t383 => (if x8_2.length < 4398046511104 then ((thalwegref03_Next.f x9_2).bind fun t389 => (thalwegref05_Pack.l0 k3 l0 a2 (x8_2 ++ [(⟨x9_2, t383⟩ : S48)]) t389 x11_3)) else (none))) = some (r1, r2) := by first | (rw [hy379]; with_reducible exact H) | (have H2_ := (Option.bind_some _ _).symm.trans H; rw [hy379]; with_reducible exact H2_) | (have H2_ := (Option.bind_some _ _).symm.trans H; with_reducible exact H2_) | with_reducible exact H | (rw [hy379]; exact H) | exact H
        have Ny379 := YF hy379; clear hy379; replace H := Option.bind_eq_some_iff.mp H; obtain ⟨t383, A470, H⟩ := H
        replace H : (if x8_2.length < 4398046511104 then ((thalwegref03_Next.f x9_2).bind fun t389 => (thalwegref05_Pack.l0 k3 l0 a2 (x8_2 ++ [(⟨x9_2, t383⟩ : S48)]) t389 x11_3)) else (none)) = some (r1, r2) := H
        have A47 := YF A470; clear A470
        by_cases c48 : x8_2.length < 4398046511104
        rotate_left
        ·rw [if_neg c48] at H
         exact absurd H (by simp)
        rw [if_pos c48] at H; have LMc48 := YF c48; clear c48
        obtain ⟨y386, hy386⟩ : ∃ y_ : List (S48), y_ = (x8_2 ++ [(⟨x9_2, t383⟩ : S48)]) := ⟨_, rfl⟩
        replace H : ((thalwegref03_Next.f x9_2).bind fun t389 => (thalwegref05_Pack.l0 k3 l0 a2 y386 t389 x11_3)) = some (r1, r2) := by first | (rw [hy386]; with_reducible exact H) | (have H2_ := (Option.bind_some _ _).symm.trans H; rw [hy386]; with_reducible exact H2_) | (have H2_ := (Option.bind_some _ _).symm.trans H; with_reducible exact H2_) | with_reducible exact H | (rw [hy386]; exact H) | exact H
        have Ny386 := YF hy386; clear hy386; replace H := Option.bind_eq_some_iff.mp H; obtain ⟨t389, A490, H⟩ := H
        replace H : (thalwegref05_Pack.l0 k3 l0 a2 y386 t389 x11_3) = some (r1, r2) := H
        have A49 := YF A490; clear A490
        have H' := YF H
        clear H
        have q50 : (x11_3 : Int) ≤ ((l0.length : Int) : Int) := of_decide_eq_true (by first | (with_reducible assumption) | assumption)
        obtain ⟨i050, hi050, _, hsz50, _⟩ := info_parts info34
        have hroom50 : l0.length ≤ c0 := HC0.out
        have hC50 : Kd.C k34 _ A0 l0.length l0 := HR0.out
        have ql50 : (x10_2 : Int) ≤ (x11_3 : Int) := of_decide_eq_true (by first | (with_reducible assumption) | assumption)
        have q050 : (0 : Int) ≤ (x10_2 : Int) := of_decide_eq_true (by first | (with_reducible assumption) | assumption)
        have hcut50 := cut_mid (P := Try.prog) 46 34 .i64 .i64 Try.underlying46 hi050 12 hsz50 A0 l0.length c0 x10_2 x11_3 q050 ql50 q50 hroom50
        have hr50 := Kd.C_mid (lo := (x10_2 : Int).toNat) (hi := (x11_3 : Int).toNat) (c := c0) hC50 (by omega) (by omega) hroom50
        obtain ⟨A50, hA50⟩ : ∃ A1, A1 = (if c0 = (x10_2 : Int).toNat then A0 else (A0 : Option Addr).map (·.add ((x10_2 : Int).toNat * 12))) := ⟨_, rfl⟩
        obtain ⟨c50, hc50⟩ : ∃ c1, c1 = c0 - (x10_2 : Int).toNat := ⟨_, rfl⟩
        have hy50 : y379.length = (x11_3 : Int).toNat - (x10_2 : Int).toNat := (by rw [Ny379.out, YI, YH] <;> omega)
        rw [show ((l0).take (x11_3 : Int).toNat).drop (x10_2 : Int).toNat = y379 from Ny379.out.symm] at hr50
        replace hr50 : Kd.C k34 _ A50 y379.length y379 := (by rw [hA50]; exact hr50)
        rw [← hy50, ← hA50, ← hc50] at hcut50
        have HR382 := YF hr50
        have HC382 := YF (show y379.length ≤ c50 from by rw [hy50, hc50]; exact Nat.sub_le_sub_right (Nat.le_trans (by omega) hroom50) _)
        clear hr50 hC50 hroom50 hi050 hsz50 hc50; have KY50 := YF hy50; have KA50 := YF hA50; clear hy50 hA50
        replace q50 := eq_true q50
        go_wp2_with (first | ((with_reducible refine gate_callee (f := 44) rfl ?_); refine goesA (some 62) Try.func44 #[.slice A50 y379.length c50] ?_; (with_reducible refine (thalwegref04_Own.calls _ _ y379 t383 _ ?side1 ?side2 A47.out).mono ?_); (case side1 => repeat (first | exact (Kd.C_below HR382.out HB.out) | (with_reducible refine Kd.C_alloc ?_ _) | (with_reducible refine Kd.C_drewN ?_ _) | (with_reducible refine Kd.C_drew ?_))); (case side2 => exact HC382.out); rintro e w51 ⟨v384, rfl, ho0, hb⟩; refine ⟨_, rfl, ?_⟩; have n0_ := YF (Kd.S_elder' (by (with_reducible repeat (first | apply Kd.S_alloc | apply Kd.S_drewN | apply Kd.S_drew)); exact HO_8.out) (Kd.R_base ho0) hb); have n1_ := YF (Kd.R_lower ho0 (YE (upB HB))); have n2_ := YF (YD (upB HB) hb); clear HO_8; clear HB; have HO_8 := n0_; have HO385 := n1_; have HB := n2_; clear n0_ n1_ n2_; (try clear hb); (try clear hb2); (try clear hk); (try clear hi); (try clear ho0); obtain ⟨Ao52, co52, eo52⟩ := Kd.R_slice HO385.out; subst eo52) | ((with_reducible refine gate_builtin (b := .append) (xs := #[.tmp 56, .tmp 64]) rfl ?_); at_builtin; refine Kd.S_append k48 (w0 := w) w.heap.size rfl (.tmp 56) (.tmp 64) 28 48 (.agg #[(.int .i64 0), (.slice none 0 0)]) 32 rfl Try.underlying28 info48 rfl (by decide) (by omega) u8 x8_2 (⟨x9_2, t383⟩ : S48) [.int .i64 x9_2, .slice Ao52 t383.length co52] (fun _ => True) (fun k_ => some k_ = (.slice Ao52 t383.length co52 : Value).ownBlock) rfl rfl ?aP (fun k_ hk_ => ((Kd.R_mono (ok' := fun k_ => ((fun _ => True)) k_ ∧ some k_ ≠ (u8 : Value).ownBlock) (Kd.R_apart' (HO385.out) (Kd.S_typed HO_8.out) (by decide)) (fun k_ hk => ⟨trivial, hk.2⟩))).1 k_ hk_.symm) ?aF ?aO ?aB ?aS ?aL ?_; (case aP => exact k48_mkM _ _ _ (⟨x9_2, t383⟩ : S48) (Kd.R_mono (Kd.R_tight rfl (Kd.R_mono (ok' := fun k_ => ((fun _ => True)) k_ ∧ some k_ ≠ (u8 : Value).ownBlock) (Kd.R_apart' (HO385.out) (Kd.S_typed HO_8.out) (by decide)) (fun k_ hk => ⟨trivial, hk.2⟩))) (fun _ h_ => h_))); (case aB => exact (upB HB)); (case aF => exact (fun _ _ => trivial)); (case aO => exact (by (with_reducible repeat (first | apply Kd.S_alloc | apply Kd.S_drewN | apply Kd.S_drew)); exact Kd.S_mono HO_8.out (fun k_ hk => ⟨trivial, fun e_ => hk.2 e_⟩))); (case aS => exact (YE (upB HB))); (case aL => have := LMc48.out; omega); intro v387 w53 ho hb hg hat; rw [← Ny386.out] at ho; have n0_ := YF (hb); have n1_ := YF (ho); clear HB; clear HO_8; clear HO385; have HB := n0_; have HO388 := n1_; clear n0_ n1_; clear ho hb hg hat) | ((with_reducible refine gate_callee (f := 43) rfl ?_); refine goesA (some 67) Try.func43 #[.int .i64 x9_2] ?_; (with_reducible refine (thalwegref03_Next.calls x9_2 t389 _ A49.out).mono ?_); rintro e w' ⟨rfl, ⟨nd, rfl⟩⟩; refine ⟨_, rfl, ?_⟩))
        go_roundg k3
        case measure => have := HJ3.out; have := HK2.out; have := HK3.out; omega
        case rel => exact ⟨(y386), (t389), (x11_3), (by first | rfl | (simp; done) | (simp [*]; done)), (by first | rfl | (simp; done) | (simp [*]; done)), H', ⟨by have := HJ3.out; have := HK2.out; have := HK3.out; omega⟩, ⟨by (with_reducible repeat (first | apply Kd.S_alloc | apply Kd.S_drewN | apply Kd.S_drew)); exact HO388.out⟩, ⟨by repeat (first | (with_reducible first | exact HB.out | apply YA | apply YB | apply YC) | exact HB.out)⟩⟩
     rw [if_neg c12] at H
     have c12b0 : decide (x10_2 < (l0.length : Int)) = false := decide_eq_false c12
     clear c12
     simp only [Option.some.injEq, Prod.mk.injEq] at H
     obtain ⟨rfl, rfl⟩ := H
     go_wp2
     go_ret2
     exact ⟨_, by first | rfl | (simp [errW_none, errW_some] <;> rfl) | (simp [*, errW_none, errW_some] <;> rfl), by (with_reducible repeat (first | apply Kd.S_alloc | apply Kd.S_drewN | apply Kd.S_drew)); exact HO_8.out, by repeat (first | (with_reducible first | exact HB.out | apply YA | apply YB | apply YC) | exact HB.out)⟩
end Go.Proofs.Ytclbempnhelmoaa.P
namespace Go.Proofs.Ytclbempnhelmoaa.P
open Classical
open Go.RowKit YtclbempnhelmoaaW.PrintWords YtclbempnhelmoaaW.PrintLast YtclbempnhelmoaaW.PrintMore
theorem tm16 (a : Int) : Int.tmod a 65536 = if 0 ≤ a then a % 65536 else -((-a) % 65536) := by
 split
 ·rename_i h
  exact Int.tmod_eq_emod_of_nonneg h
 ·rename_i h
  have : Int.tmod a 65536 = -(Int.tmod (-a) 65536) := by rw [Int.neg_tmod, Int.neg_neg]
  rw [this, Int.tmod_eq_emod_of_nonneg (by omega)]
theorem left_eq (a : Int) (h : -9223372036854775808 ≤ a ∧ a ≤ 9223372036854775807) : thalwegref03_Left.f a = some (a % 65536) := by
 unfold thalwegref03_Left.f
 rw [tm16]
 by_cases h1 : 0 ≤ a
 ·rw [if_pos h1, if_neg (by omega)]
 ·rw [if_neg h1]
  by_cases h2 : -((-a) % 65536) < 0
  ·rw [if_pos h2, w64 (by omega) (by omega)]
   congr 1
   omega
  ·rw [if_neg h2]
   congr 1
   omega
theorem rnext_eq (n : Int) (h0 : 0 ≤ n) (h1 : n ≤ 65535) : thalwegref03_Next.f n = some (nx n) := by
 unfold thalwegref03_Next.f
 rw [left_eq n (by omega), Option.bind_some, Int.emod_eq_of_lt h0 (by omega), w64 (by omega) (by omega), Int.tmod_eq_emod_of_nonneg (by omega)]
 rfl
def seg (l : List S34) (a t : Int) : List S34 := (l.take t.toNat).drop a.toNat
theorem seg_length (l : List S34) (a t : Int) (h0 : 0 ≤ a) (ha : a ≤ t) (h : t ≤ l.length) : ((seg l a t).length : Int) = t - a := by rw [seg, List.length_drop, List.length_take]; omega
theorem seg_snoc (l : List S34) (a t : Int) (h0 : 0 ≤ a) (ha : a ≤ t) (h : t < l.length) : seg l a (t + 1) = seg l a t ++ [rd_T34 l t] := by
 have ht : t.toNat < l.length := by omega
 unfold seg
 rw [show (t + 1).toNat = t.toNat + 1 by omega, List.take_succ_eq_append_getElem ht, List.drop_append_of_le_length (by rw [List.length_take]; omega)]
 congr 2
 unfold rd_T34
 rw [List.getD_eq_getElem?_getD, List.getElem?_eq_getElem ht]
 rfl
theorem seg_one (l : List S34) (t : Int) (h0 : 0 ≤ t) (h : t < l.length) : seg l t (t + 1) = [rd_T34 l t] := by
 rw [seg_snoc l t t h0 (Int.le_refl _) h]
 have : seg l t t = [] := List.eq_nil_of_length_eq_zero (by have := seg_length l t t h0 (Int.le_refl _) (by omega); omega)
 rw [this]
 rfl
theorem seg_mem {l : List S34} {a t : Int} {o : S34} (h : o ∈ seg l a t) : o ∈ l := List.mem_of_mem_take (List.mem_of_mem_drop h)
theorem rpack_l1 (l : List S34) (hn : l.length ≤ 2000) (hr : Rights l) (hw : ∀ o ∈ l, OW o) (most : Int) (hm : 40 ≤ most ∧ most ≤ 512) : ∀ (d : Nat) (a t n : Int) (out : List S48), (l.length : Int) - t = d → 0 ≤ a → a < t → t ≤ l.length → t - a ≤ 32 → (out.length : Int) ≤ a → 0 ≤ n → n ≤ 65535 →
  Ev (fun k => thalwegref05_Pack.l1 k l most out n a t) (out ++ packGo most (l.drop t.toNat) n (seg l a t), 0) := by
 intro d
 induction d with
 | zero =>
  intro a t n out hd h0 ha ht h32 ho n0 n1
  have hlen := seg_length l a t h0 (by omega) ht
  have hne : seg l a t ≠ [] := fun g => by rw [g, List.length_nil] at hlen; omega
  have hz : l.drop t.toNat = [] := List.drop_eq_nil_of_le (by omega)
  rw [hz, pack_nil _ _ _ hne]
  have hfin : Ev (fun k => thalwegref05_Pack.l0 k l most (out ++ [⟨n, seg l a t⟩]) (nx n) t) (out ++ [⟨n, seg l a t⟩], 0) := by
   refine Ev.from 1 fun k => ?_
   simp only [thalwegref05_Pack.l0]
   rw [if_neg (by omega)]
  have hown := own_eq (seg l a t) (by omega)
  have hnxt := rnext_eq n n0 n1
  have hol : out.length < 4398046511104 := by omega
  have e : (List.drop a.toNat (List.take t.toNat l)) = seg l a t := rfl
  refine Ev.step (f := fun k => _) (fun k => by simp only [thalwegref05_Pack.l1]; rfl) ?_
  rw [e]
  simp only [if_neg (show ¬ t < (l.length : Int) by omega), if_pos h0, if_pos (show a ≤ t by omega), if_pos ht, hown, Option.bind_some, if_pos hol, hnxt]
  exact hfin
 | succ d ih =>
  intro a t n out hd h0 ha ht h32 ho n0 n1
  have htl : t < (l.length : Int) := by omega
  have hlen := seg_length l a t h0 (by omega) ht
  have hsnoc := seg_snoc l a t h0 (by omega) htl
  have hdrop := obs_get l t (by omega) htl
  have hnx : 0 ≤ nx n ∧ nx n ≤ 65535 := by unfold nx; omega
  have hown := own_eq (seg l a t) (by omega)
  have hnxt := rnext_eq n n0 n1
  have hol : out.length < 4398046511104 := by omega
  have ht1 := w64 (x := t + 1) (by omega) (by omega)
  rw [hdrop]
  have hnew : ¬ fit most (seg l a t) (rd_T34 l t) → Ev (fun k => thalwegref05_Pack.l0 k l most (out ++ [⟨n, seg l a t⟩]) (nx n) t) (out ++ packGo most (rd_T34 l t :: l.drop (t + 1).toNat) n (seg l a t), 0) := by
   intro hf
   rw [pack_new hf, show out ++ (⟨n, seg l a t⟩ : S48) :: packGo most (l.drop (t + 1).toNat) (nx n) [rd_T34 l t] = (out ++ [⟨n, seg l a t⟩]) ++ packGo most (l.drop (t + 1).toNat) (nx n) [rd_T34 l t] by simp]
   have := ih t (t + 1) (nx n) (out ++ [⟨n, seg l a t⟩]) (by omega) (by omega) (by omega) (by omega) (by omega) (by simp; omega) hnx.1 hnx.2
   rw [seg_one l t (by omega) htl] at this
   refine Ev.step (f := fun k => _) (fun k => by simp only [thalwegref05_Pack.l0]; rfl) ?_
   simp only [if_pos htl, ht1]
   exact this
  have e : (List.drop a.toNat (List.take t.toNat l)) = seg l a t := rfl
  have e1 : (List.drop a.toNat (List.take (t + 1).toNat l)) = seg l a (t + 1) := rfl
  have hl1 := seg_length l a (t + 1) h0 (by omega) (by omega)
  have hsz := rsize_yes (seg l a (t + 1)) (by omega) (fun o ho => hw o (seg_mem ho)) (fun o ho => hr o (seg_mem ho))
  have hs1 : sums (seg l a (t + 1)) = sums (seg l a t) + sz (rd_T34 l t) := by rw [hsnoc, sums_append, sums_cons, sums_nil, Int.add_zero]
  have hta := w64 (x := t - a) (by omega) (by omega)
  have hrec := ih a (t + 1) n out (by omega) h0 (by omega) (by omega)
  refine Ev.step (f := fun k => _) (fun k => by simp only [thalwegref05_Pack.l1]; rfl) ?_
  rw [ht1, hta, e, e1]
  simp only [if_pos htl]
  by_cases c1 : t - a < 32
  ·simp only [if_pos c1, if_pos h0, if_pos (show a ≤ t + 1 by omega), if_pos (show t + 1 ≤ (l.length : Int) by omega)]
   refine Ev.bind hsz ?_
   rw [hs1]
   by_cases c2 : 3 + (sums (seg l a t) + sz (rd_T34 l t)) ≤ most
   ·simp only [if_pos c2]
    rw [pack_fit (show fit most (seg l a t) (rd_T34 l t) from ⟨by omega, by omega⟩), ← hsnoc]
    exact hrec (by omega) (by omega) n0 n1
   ·simp only [if_neg c2, if_pos (show a ≤ t by omega), if_pos ht, hown, Option.bind_some, if_pos hol, hnxt]
    exact hnew fun g => c2 (by have := g.1; omega)
  ·simp only [if_neg c1, if_pos h0, if_pos (show a ≤ t by omega), if_pos ht, hown, Option.bind_some, if_pos hol, hnxt]
   exact hnew fun g => c1 (by have := g.2; omega)
theorem rpack_yes (l : List S34) (hn : l.length ≤ 1024) (hw : ∀ o ∈ l, OW o) (first most : Int) (hf : -9223372036854775808 ≤ first ∧ first ≤ 9223372036854775807) (h : PK most l) : Ev (fun k => thalwegref05_Pack.f k l first most) (packGo most l (first % 65536) [], 0) := by
 obtain ⟨hm, hr⟩ := h
 have hs := sums_range l
 unfold thalwegref05_Pack.f
 simp only [if_neg (show ¬ most < 40 by omega), if_neg (show ¬ most > 512 by omega)]
 refine Ev.bind (rsize_yes l (by omega) hw hr) ?_
 rw [decide_eq_false (show ¬ 3 + sums l < 0 by omega)]
 refine Ev.step (f := fun k => _) (fun k => by simp only [thalwegref05_Pack.j0]; rfl) ?_
 simp only [Bool.false_eq_true, if_false, if_neg (show ¬ (l.length : Int) > 1024 by omega), left_eq first hf, Option.bind_some]
 refine Ev.step (f := fun k => _) (fun k => by simp only [thalwegref05_Pack.l0]; rfl) ?_
 have h01 : wrap64 (0 + 1) = 1 := w64 (by omega) (by omega)
 rw [h01]
 by_cases h0 : (0 : Int) < (l.length : Int)
 ·simp only [if_pos h0]
  have := rpack_l1 l (by omega) hr hw most hm (l.length - 1) 0 1 (first % 65536) [] (by omega) (by omega) (by omega) (by omega) (by omega) (by simp) (by omega) (by omega)
  have hg := obs_get l 0 (by omega) h0
  have h1 := seg_one l 0 (by omega) h0
  rw [show (0 : Int) + 1 = 1 from rfl] at hg h1
  rw [h1] at this
  have he : packGo most l (first % 65536) [] = packGo most (l.drop (1 : Int).toNat) (first % 65536) [rd_T34 l 0] := by
   have : l = rd_T34 l 0 :: l.drop (1 : Int).toNat := by simpa using hg
   conv => lhs; rw [this]
   rw [pack_fit (fit_nil hm.1 _)]
   rfl
  rw [he]
  exact this
 ·simp only [if_neg h0]
  have : l = [] := List.eq_nil_of_length_eq_zero (by omega)
  subst this
  rw [pack_nil0]
  exact Ev.now _
end Go.Proofs.Ytclbempnhelmoaa.P
namespace Go.Proofs.Ytclbempnhelmoaa.P
open Go.RowKit YtclbempnhelmoaaW.PrintWords YtclbempnhelmoaaW.PrintLast YtclbempnhelmoaaW.PrintMore
open Classical
abbrev RxC (wn tr : Int) (vW vO vC : Value) (nx : Int) : Array Value := #[.int .i64 wn, .int .i64 tr, vW, vO, vC, .int .i64 nx]
structure Rx (w0 w : World) (G : Nat → Prop) (x : Nat) (wn tr : Int) (W : List S34) (O : List S48) (C : List Int) (nx : Int) (vW vO vC : Value) : Prop where
 bl : Below w0.heap.size w0 w
 blk : w.heap[x]? = some (.cells (RxC wn tr vW vO vC nx) 54 (0, 0))
 new : w0.heap.size ≤ x
 lt : ∀ k, G k → k < w.heap.size
 gx : G x
 rW : k34.R 34 w w0.heap.size (fun k => G k ∧ k ≠ x ∧ some k ≠ vO.ownBlock ∧ some k ≠ vC.ownBlock) vW W
 rO : k48.R 48 w w0.heap.size (fun k => G k ∧ k ≠ x ∧ some k ≠ vW.ownBlock ∧ some k ≠ vC.ownBlock) vO O
 rC : (Kd.int .i64).R 3 w w0.heap.size (fun k => G k ∧ k ≠ x ∧ some k ≠ vW.ownBlock ∧ some k ≠ vO.ownBlock) vC C
def Wx (x : Nat) (vW vO vC : Value) (k : Nat) : Prop := k = x ∨ some k = vW.ownBlock ∨ some k = vO.ownBlock ∨ some k = vC.ownBlock
section
variable {w0 w w' : World} {G : Nat → Prop} {x : Nat} {wn tr nx : Int} {W : List S34} {O : List S48} {C : List Int} {vW vO vC : Value}
theorem Rx.wr (h : Rx w0 w G x wn tr W O C nx vW vO vC) : ∀ k, Wx x vW vO vC k → G k := by
 rintro k (rfl | e | e | e)
 ·exact h.gx
 ·exact (h.rW.1 k e.symm).1
 ·exact (h.rO.1 k e.symm).1
 ·exact (h.rC.1 k e.symm).1
theorem Rx.keep (h : Rx w0 w G x wn tr W O C nx vW vO vC) (hk : ∀ k, G k → w'.heap[k]? = w.heap[k]?) (hs : w.heap.size ≤ w'.heap.size) (hb : Below w0.heap.size w0 w') : Rx w0 w' G x wn tr W O C nx vW vO vC :=
 ⟨hb, (hk x h.gx).trans h.blk, h.new, fun k hG => Nat.lt_of_lt_of_le (h.lt k hG) hs, h.gx, Kd.R_step h.rW (fun k ho _ => hk k ho.1), Kd.R_step h.rO (fun k ho _ => hk k ho.1), Kd.R_step h.rC (fun k ho _ => hk k ho.1)⟩
theorem Rx.below (h : Rx w0 w G x wn tr W O C nx vW vO vC) (hb : Below w.heap.size w w') : Rx w0 w' G x wn tr W O C nx vW vO vC :=
 h.keep (fun k hk => hb.block k (h.lt k hk)) hb.size (below_step h.bl hb)
theorem Rx.other (h : Rx w0 w G x wn tr W O C nx vW vO vC) {F R F' R' : Nat → Prop} (hs : SX w F R w' F' R') (hd : ∀ k, G k → ¬ R k) (hb : Below w0.heap.size w0 w') : Rx w0 w' G x wn tr W O C nx vW vO vC ∧ ∀ k, G k → ¬ R' k :=
 ⟨h.keep (fun k hk => hs.fr k (h.lt k hk) (hd k hk)) hs.sz hb, fun k hk hR => by
  rcases hs.wr k hR with e | e
  ·exact hd k hk e
  ·have := h.lt k hk
   omega⟩
theorem Rx.push (h : Rx w0 w G x wn tr W O C nx vW vO vC) {v2 : Value} {W2 : List S34} (hr : k34.R 34 w' w0.heap.size (fun k => (G k ∨ w.heap.size ≤ k) ∧ k ≠ x ∧ some k ≠ vO.ownBlock ∧ some k ≠ vC.ownBlock) v2 W2) (hg : w.grownBy w' vW.ownBlock) (hat : v2.ownBlock = vW.ownBlock ∨ ∃ b, v2.ownBlock = some b ∧ w.heap.size ≤ b) :
  Rx w0 (w'.setCell ⟨x, 2, none⟩ v2) (fun k => (G k ∨ w.heap.size ≤ k) ∧ k < w'.heap.size) x wn tr W2 O C nx v2 vO vC ∧ SX w G (Wx x vW vO vC) (w'.setCell ⟨x, 2, none⟩ v2) (fun k => (G k ∨ w.heap.size ≤ k) ∧ k < w'.heap.size) (Wx x v2 vO vC) := by
 have hw0 := below_size h.bl
 have hbase : ∀ k, vW.ownBlock = some k → w0.heap.size ≤ k := fun k hk => Kd.R_base h.rW k hk
 have hgw : some x ≠ vW.ownBlock := fun e => (h.rW.1 x e.symm).2.1 rfl
 have hx := (hg.block x (blk_lt h.blk) hgw).trans h.blk
 have hsz : w'.heap.size ≤ (w'.setCell ⟨x, 2, none⟩ v2).heap.size := set_size _ _ _
 have new : ∀ k, k < w.heap.size → some k ≠ vW.ownBlock → some k ≠ v2.ownBlock := fun k hk hn e => by
  rcases hat with e2 | ⟨b, e2, hbl⟩
  ·exact hn (e.trans e2)
  ·have := Option.some.inj (e.trans e2)
   omega
 refine ⟨⟨(pw_below_grown h.bl _ hw0 hg hbase).setCell h.new _, blk_put hx 2 v2 rfl, h.new, fun k hk => Nat.lt_of_lt_of_le hk.2 hsz, ⟨.inl h.gx, blk_lt hx⟩, ?_, ?_, ?_⟩, ⟨Nat.le_trans hg.size hsz, fun k hk hR => (Below.heap_setCell w' ⟨x, 2, none⟩ v2 k (fun e => hR (.inl e))).trans (hg.block k hk (fun e => hR (.inr (.inl e)))), fun k hk => hk.1, fun k hk => ?_⟩⟩
 ·exact Kd.R_mono (Kd.R_far (p := ⟨x, 2, none⟩) (Kd.R_bound hr) (fun k hk e => hk.1.2.1 e) v2) (fun k hk => ⟨⟨hk.1.1, hk.2.2.1⟩, hk.1.2⟩)
 ·exact Kd.R_mono (Kd.R_far (p := ⟨x, 2, none⟩) (Kd.R_grown (Kd.R_mono (Kd.R_bound h.rO) (ok' := fun k => (G k ∧ k ≠ x ∧ some k ≠ vW.ownBlock ∧ some k ≠ vC.ownBlock) ∧ k < w.heap.size) (fun k hk => ⟨hk.1, hk.2.2.1⟩)) hg (fun k hk => hk.1.2.2.1)) (fun k hk e => hk.1.2.1 e) v2) (fun k hk => ⟨⟨.inl hk.1.1, Nat.lt_of_lt_of_le hk.2 hg.size⟩, hk.1.2.1, new k hk.2 hk.1.2.2.1, hk.1.2.2.2⟩)
 ·exact Kd.R_mono (Kd.R_far (p := ⟨x, 2, none⟩) (Kd.R_grown (Kd.R_mono (Kd.R_bound h.rC) (ok' := fun k => (G k ∧ k ≠ x ∧ some k ≠ vW.ownBlock ∧ some k ≠ vO.ownBlock) ∧ k < w.heap.size) (fun k hk => ⟨hk.1, hk.2.2.1⟩)) hg (fun k hk => hk.1.2.2.1)) (fun k hk e => hk.1.2.1 e) v2) (fun k hk => ⟨⟨.inl hk.1.1, Nat.lt_of_lt_of_le hk.2 hg.size⟩, hk.1.2.1, new k hk.2 hk.1.2.2.1, hk.1.2.2.2⟩)
 ·rcases hk with e | e | e | e
  ·exact .inl (.inl e)
  ·rcases hat with e2 | ⟨b, e2, hbl⟩
   ·exact .inl (.inr (.inl (e.trans e2)))
   ·have := Option.some.inj (e.trans e2)
    exact .inr (this ▸ hbl)
  ·exact .inl (.inr (.inr (.inl e)))
  ·exact .inl (.inr (.inr (.inr e)))
theorem Rx.fresh (h : Rx w0 w G x wn tr W O C nx vW vO vC) : ∀ k, w.heap.size ≤ k → (G k ∨ w.heap.size ≤ k) ∧ k ≠ x ∧ some k ≠ vO.ownBlock ∧ some k ≠ vC.ownBlock := fun k hk =>
 ⟨.inr hk, fun e => by have := blk_lt h.blk; omega, fun e => by have := Kd.R_lt h.rO k e.symm; omega, fun e => by have := Kd.R_lt h.rC k e.symm; omega⟩
end
def rpu.T5 : Bool × List (List Nat × List Nat) := (true, [([], []), ([], []), ([1], [1]), ([2], [2]), ([3], [3]), ([], []), ([5], [5]), ([4, 6], [4, 6]), ([0, 0, 1, 2, 3, 4, 5, 6, 7], [0]), ([8, 0, 1, 2, 3, 4, 5, 6, 7], [8]), ([9, 7, 7, 0, 1, 2, 3, 4, 5, 6, 7], [7, 9])])
def rpu.B5 : List Nat := [0, 0, 2, 6, 14, 0, 32, 126, 255, 511, 1023]
theorem rpu.tab5 : rtab .any (opsOf Try.f18 5) = rpu.T5 := by kernel_rfl
theorem rpu.bits5 : waitsOk rpu.T5.2 rpu.B5 = true := by kernel_rfl
theorem rpush_ok {w0 w : World} {G : Nat → Prop} {x : Nat} {wn tr nx : Int} {W : List S34} {O : List S48} {C : List Int} {vW vO vC : Value} (h : Rx w0 w G x wn tr W O C nx vW vO vC) (hl : W.length < 1024) (K : Nat) (a0 : Int) (a1 : Int) (a2 : Bool) (a3 : Int) (a4 : Int) (a5 : Int) (a6 : Int) (a7 : Int) (a8 : Int) (a9 : Int) (a10 : Int) (a11 : Int) (hk : thalwegref04_Right.f K a0 a1 a2 a3 a4 a5 a6 a7 a8 a9 a10 a11 = some true) :
  Calls Try.prog 18 #[.pointer (some ⟨x, 0, none⟩), .agg #[.int .i64 a0, .int .i64 a1, .bool a2, .int .i64 a3, .int .i64 a4, .int .i64 a5, .int .i64 a6, .int .i64 a7, .int .i64 a8, .int .i64 a9, .int .i64 a10, .int .i64 a11]] w fun e w' => e = .returned (.int .i64 0) ∧ ∃ G' v2, Rx w0 w' G' x wn tr (W ++ [⟨a0, a1, ⟨a2, a3, a4, a5, a6, a7⟩, ⟨a8, a9, a10⟩, a11⟩]) O C nx v2 vO vC ∧ SX w G (Wx x vW vO vC) w' G' (Wx x v2 vO vC) := by
 obtain ⟨A, c, rfl, hlc, hC⟩ := Kd.R_reads h.rW
 obtain ⟨nW, hnW⟩ : ∃ nW, nW = W.length := ⟨_, rfl⟩
 rw [← hnW] at h
 have HS := Aside0.mk h
 have HK := Aside0.mk hk
 have HL := Aside0.mk hl
 have q4 : decide ((nW : Int) ≥ 1024) = false := decide_eq_false (by omega)
 have HNW := Aside0.mk hnW
 rw [← hnW]
 clear h hk hl hlc hC hnW
 go_enter Try.func18, Try.ntmps18
 go_upto_region 5 with (first
  | ((with_reducible refine gate_dst (N := 3) rfl ?_); refine box_event ?hg (N := 3) ?hd (cs := #[.int .i64 a0, .int .i64 a1, .bool a2, .int .i64 a3, .int .i64 a4, .int .i64 a5, .int .i64 a6, .int .i64 a7, .int .i64 a8, .int .i64 a9, .int .i64 a10, .int .i64 a11]) (t := 34) ?hr ?_; (case hd => rfl); (case hg => rfl); (case hr => first | (go_simp; done) | (go_simp; rfl) | rfl | kernel_rfl); intro gb hgb w1 hbox hb; have BX := Aside0.mk hbox; have HS1 := Aside0.mk (HS.out.below hb); have BW1 := Aside0.mk hb; have o0 := (blk_cell BX.out 0).trans rfl; have o1 := (blk_cell BX.out 1).trans rfl; have o2 := (blk_cell BX.out 2).trans rfl; have o3 := (blk_cell BX.out 3).trans rfl; have o4 := (blk_cell BX.out 4).trans rfl; have o5 := (blk_cell BX.out 5).trans rfl; have o6 := (blk_cell BX.out 6).trans rfl; have o7 := (blk_cell BX.out 7).trans rfl; have o8 := (blk_cell BX.out 8).trans rfl; have o9 := (blk_cell BX.out 9).trans rfl; have o10 := (blk_cell BX.out 10).trans rfl; have o11 := (blk_cell BX.out 11).trans rfl; clear hb hbox hgb)
  | (go_at_call 39; (with_reducible refine (thalwegref04_Right.calls K a0 a1 a2 a3 a4 a5 a6 a7 a8 a9 a10 a11 _ _ HK.out).mono ?_); rintro x_ w2 ⟨rfl, hb⟩; have HS2 := Aside0.mk (HS1.out.below hb); have BW2 := Aside0.mk (below_step BW1.out hb); have BY := Aside0.mk (blk_below BX.out hb); have hx : w2.cell? ⟨x, 2, none⟩ = some (.slice A nW c) := (blk_cell HS2.out.blk 2).trans rfl; have p0 := (blk_cell BY.out 0).trans rfl; have p1 := (blk_cell BY.out 1).trans rfl; have p2 := (blk_cell BY.out 2).trans rfl; have p3 := (blk_cell BY.out 3).trans rfl; have p4 := (blk_cell BY.out 4).trans rfl; have p5 := (blk_cell BY.out 5).trans rfl; have p6 := (blk_cell BY.out 6).trans rfl; have p7 := (blk_cell BY.out 7).trans rfl; have p8 := (blk_cell BY.out 8).trans rfl; have p9 := (blk_cell BY.out 9).trans rfl; have p10 := (blk_cell BY.out 10).trans rfl; have p11 := (blk_cell BY.out 11).trans rfl; clear hb))
 refine start_ (n := 11) (S := fun w' => w'.cell? ⟨x, 2, none⟩ = some (.slice A nW c) ∧ w'.cell? ⟨gb, 0, none⟩ = some (.int .i64 a0) ∧ w'.cell? ⟨gb, 1, none⟩ = some (.int .i64 a1) ∧ w'.cell? ⟨gb, 2, none⟩ = some (.bool a2) ∧ w'.cell? ⟨gb, 3, none⟩ = some (.int .i64 a3) ∧ w'.cell? ⟨gb, 4, none⟩ = some (.int .i64 a4) ∧ w'.cell? ⟨gb, 5, none⟩ = some (.int .i64 a5) ∧ w'.cell? ⟨gb, 6, none⟩ = some (.int .i64 a6) ∧ w'.cell? ⟨gb, 7, none⟩ = some (.int .i64 a7) ∧ w'.cell? ⟨gb, 8, none⟩ = some (.int .i64 a8) ∧ w'.cell? ⟨gb, 9, none⟩ = some (.int .i64 a9) ∧ w'.cell? ⟨gb, 10, none⟩ = some (.int .i64 a10) ∧ w'.cell? ⟨gb, 11, none⟩ = some (.int .i64 a11)) (ds := [7, 10]) #[false, false, false, false, false, false, false, false, false, false, false] (by kernel_rfl) rfl rfl ⟨hx, p0, p1, p2, p3, p4, p5, p6, p7, p8, p9, p10, p11⟩ (fun hHeld => ?_); refine with_tabW rpu.tab5 rpu.bits5 (fun HT_ HW_ => ?_)
 refine pureA (i := 0) (N := some 14) HT_ ?_
 refine pureA (i := 1) (N := some 15) HT_ ?_
 refine pureA (i := 2) (N := some 16) HT_ ?_
 refine pureA (i := 3) (N := some 17) HT_ ?_
 refine takeA (i := 4) (N := some 18) HT_ HW_ hHeld ?_
 refine takeA (i := 5) (N := some 19) HT_ HW_ hHeld ?_
 refine oneA (i := 6) (N := some 20) HT_ (fun K hK => ?_)
 refine lit1_step ?hg (N := 20) ?hd (cs := #[.int .i64 a0, .int .i64 a1, .bool a2, .int .i64 a3, .int .i64 a4, .int .i64 a5, .int .i64 a6, .int .i64 a7, .int .i64 a8, .int .i64 a9, .int .i64 a10, .int .i64 a11]) (t := 34) (n := 1) ?hr ?_
 (case hd => rfl)
 (case hg => rfl)
 (case hr => first | (go_simp; done) | (go_simp; rfl))
 intro gl hgl w5 hbox hb
 have HS5 := Aside0.mk (HS2.out.below (below_step (below_drew (Below.refl _ _)) hb))
 have BW5 := Aside0.mk (below_step BW2.out (below_step (below_drew (Below.refl _ _)) hb))
 have BG := Aside0.mk hbox
 refine hK.out _ _ ⟨(hb.cell (World.block_lt_of_cell? _ _ hHeld.1)).trans hHeld.1, (hb.cell (World.block_lt_of_cell? _ _ hHeld.2.1)).trans hHeld.2.1, (hb.cell (World.block_lt_of_cell? _ _ hHeld.2.2.1)).trans hHeld.2.2.1, (hb.cell (World.block_lt_of_cell? _ _ hHeld.2.2.2.1)).trans hHeld.2.2.2.1, (hb.cell (World.block_lt_of_cell? _ _ hHeld.2.2.2.2.1)).trans hHeld.2.2.2.2.1, (hb.cell (World.block_lt_of_cell? _ _ hHeld.2.2.2.2.2.1)).trans hHeld.2.2.2.2.2.1, (hb.cell (World.block_lt_of_cell? _ _ hHeld.2.2.2.2.2.2.1)).trans hHeld.2.2.2.2.2.2.1, (hb.cell (World.block_lt_of_cell? _ _ hHeld.2.2.2.2.2.2.2.1)).trans hHeld.2.2.2.2.2.2.2.1, (hb.cell (World.block_lt_of_cell? _ _ hHeld.2.2.2.2.2.2.2.2.1)).trans hHeld.2.2.2.2.2.2.2.2.1, (hb.cell (World.block_lt_of_cell? _ _ hHeld.2.2.2.2.2.2.2.2.2.1)).trans hHeld.2.2.2.2.2.2.2.2.2.1, (hb.cell (World.block_lt_of_cell? _ _ hHeld.2.2.2.2.2.2.2.2.2.2.1)).trans hHeld.2.2.2.2.2.2.2.2.2.2.1, (hb.cell (World.block_lt_of_cell? _ _ hHeld.2.2.2.2.2.2.2.2.2.2.2.1)).trans hHeld.2.2.2.2.2.2.2.2.2.2.2.1, (hb.cell (World.block_lt_of_cell? _ _ hHeld.2.2.2.2.2.2.2.2.2.2.2.2)).trans hHeld.2.2.2.2.2.2.2.2.2.2.2.2⟩ (fun hHeld => ?_)
 clear hK K
 refine normA (N := 20) ?_
 refine last_ (i := 7) (N := some 21) #[true, true, true, true, true, true, true, true, false, false, false] rfl rfl (one_of HT_.out (by kernel_rfl)) (by decide) (fun K hK => ?_)
 refine Kd.R_append_rows_step k34 (w0 := w5) w0.heap.size ?hw (.tmp 18) (.tmp 20) 46 34 (.agg #[(.int .i64 0), (.int .i64 0), (.bool false), (.int .i64 0), (.int .i64 0), (.int .i64 0), (.int .i64 0), (.int .i64 0), (.int .i64 0), (.int .i64 0), (.int .i64 0), (.int .i64 0)]) 96 rfl Try.underlying46 info34 rfl (by decide) (by omega) (.slice A nW c) W [⟨a0, a1, ⟨a2, a3, a4, a5, a6, a7⟩, ⟨a8, a9, a10⟩, a11⟩] _ _ _ (fun k => (G k ∨ w5.heap.size ≤ k) ∧ k ≠ x ∧ some k ≠ vO.ownBlock ∧ some k ≠ vC.ownBlock) (fun _ => False) rfl rfl ?aO ?aR (fun _ _ h => h) (fun _ h => h.elim) ?aF ?aB ?aS ?aL ?_
 (case hw => rfl)
 (case aR => exact oneO_C (x := ⟨a0, a1, ⟨a2, a3, a4, a5, a6, a7⟩, ⟨a8, a9, a10⟩, a11⟩) BG.out)
 (case aB => exact Below.refl _ _)
 (case aF => exact HS5.out.fresh)
 (case aO => exact Kd.R_mono HS5.out.rW (fun k hk => ⟨.inl hk.1, hk.2⟩))
 (case aS => exact below_size HS5.out.bl)
 (case aL => have := HL.out; omega)
 intro v2 w6 ho hb6 hg6 hat
 have HG := Aside0.mk ((hg6.block x (blk_lt HS5.out.blk) (fun e => (HS5.out.rW.1 x e.symm).2.1 rfl)).trans HS5.out.blk)
 have d3 : w6.cell? ⟨x, 2, none⟩ = some (.slice A nW c) := (blk_cell HG.out 2).trans rfl
 have df : w6.frozen? ⟨x, 2, none⟩ = false := blk_frozen HG.out 2
 obtain ⟨A8, m8, c8, rfl⟩ := RO_some ho
 have HP := Aside0.mk (HS5.out.push ho hg6 hat)
 clear ho hb6 hg6 hat
 refine hK.out _ _ ?_
 clear hK K
 refine normA (N := 21) ?_
 refine pureA (i := 8) (N := some 22) HT_ ?_
 refine pureA (i := 9) (N := some 23) HT_ ?_
 refine last_ (i := 10) (N := none) #[true, true, true, true, true, true, true, true, true, true, true] rfl rfl (one_of HT_.out (by kernel_rfl)) (by decide) (fun K hK => ?_)
 refine skip_ (w1 := ?_) (by rfl) rfl ?_ ?_
 rotate_left
 ·go_simp
  rfl
 refine hK.out _ _ ?_
 clear hK K
 refine done_ (done_of HT_.out (by kernel_rfl)) ?_
 go_wp2
 go_ret
 exact ⟨rfl, _, _, HP.out.1, (SX.of_below G _ BW5.out).trans HP.out.2⟩
theorem rpush_bad {w0 w : World} {G : Nat → Prop} {x : Nat} {wn tr nx : Int} {W : List S34} {O : List S48} {C : List Int} {vW vO vC : Value} (h : Rx w0 w G x wn tr W O C nx vW vO vC) (K : Nat) (a0 : Int) (a1 : Int) (a2 : Bool) (a3 : Int) (a4 : Int) (a5 : Int) (a6 : Int) (a7 : Int) (a8 : Int) (a9 : Int) (a10 : Int) (a11 : Int) (hk : thalwegref04_Right.f K a0 a1 a2 a3 a4 a5 a6 a7 a8 a9 a10 a11 = some false) :
  Calls Try.prog 18 #[.pointer (some ⟨x, 0, none⟩), .agg #[.int .i64 a0, .int .i64 a1, .bool a2, .int .i64 a3, .int .i64 a4, .int .i64 a5, .int .i64 a6, .int .i64 a7, .int .i64 a8, .int .i64 a9, .int .i64 a10, .int .i64 a11]] w fun e w' => e = .returned (.int .i64 1) ∧ Below w.heap.size w w' := by
 obtain ⟨A, c, rfl, hlc, hC⟩ := Kd.R_reads h.rW
 obtain ⟨nW, hnW⟩ : ∃ nW, nW = W.length := ⟨_, rfl⟩
 rw [← hnW] at h
 have HS := Aside0.mk h
 have HK := Aside0.mk hk
 clear h hk hlc hC hnW
 go_enter Try.func18, Try.ntmps18
 go_wp2_with (first
  | ((with_reducible refine gate_dst (N := 3) rfl ?_); refine box_event ?hg (N := 3) ?hd (cs := #[.int .i64 a0, .int .i64 a1, .bool a2, .int .i64 a3, .int .i64 a4, .int .i64 a5, .int .i64 a6, .int .i64 a7, .int .i64 a8, .int .i64 a9, .int .i64 a10, .int .i64 a11]) (t := 34) ?hr ?_; (case hd => rfl); (case hg => rfl); (case hr => first | (go_simp; done) | (go_simp; rfl) | rfl | kernel_rfl); intro gb hgb w1 hbox hb; have BX := Aside0.mk hbox; have HS1 := Aside0.mk (HS.out.below hb); have BW1 := Aside0.mk hb; have o0 := (blk_cell BX.out 0).trans rfl; have o1 := (blk_cell BX.out 1).trans rfl; have o2 := (blk_cell BX.out 2).trans rfl; have o3 := (blk_cell BX.out 3).trans rfl; have o4 := (blk_cell BX.out 4).trans rfl; have o5 := (blk_cell BX.out 5).trans rfl; have o6 := (blk_cell BX.out 6).trans rfl; have o7 := (blk_cell BX.out 7).trans rfl; have o8 := (blk_cell BX.out 8).trans rfl; have o9 := (blk_cell BX.out 9).trans rfl; have o10 := (blk_cell BX.out 10).trans rfl; have o11 := (blk_cell BX.out 11).trans rfl; clear hb hbox hgb)
  | (go_at_call 39; (with_reducible refine (thalwegref04_Right.calls K a0 a1 a2 a3 a4 a5 a6 a7 a8 a9 a10 a11 _ _ HK.out).mono ?_); rintro x_ w2 ⟨rfl, hb⟩; have HS2 := Aside0.mk (HS1.out.below hb); have BW2 := Aside0.mk (below_step BW1.out hb); have BY := Aside0.mk (blk_below BX.out hb); have hx : w2.cell? ⟨x, 2, none⟩ = some (.slice A nW c) := (blk_cell HS2.out.blk 2).trans rfl; have p0 := (blk_cell BY.out 0).trans rfl; have p1 := (blk_cell BY.out 1).trans rfl; have p2 := (blk_cell BY.out 2).trans rfl; have p3 := (blk_cell BY.out 3).trans rfl; have p4 := (blk_cell BY.out 4).trans rfl; have p5 := (blk_cell BY.out 5).trans rfl; have p6 := (blk_cell BY.out 6).trans rfl; have p7 := (blk_cell BY.out 7).trans rfl; have p8 := (blk_cell BY.out 8).trans rfl; have p9 := (blk_cell BY.out 9).trans rfl; have p10 := (blk_cell BY.out 10).trans rfl; have p11 := (blk_cell BY.out 11).trans rfl; clear hb))
 go_ret
 exact ⟨rfl, BW2.out⟩
theorem rpush_full {w0 w : World} {G : Nat → Prop} {x : Nat} {wn tr nx : Int} {W : List S34} {O : List S48} {C : List Int} {vW vO vC : Value} (h : Rx w0 w G x wn tr W O C nx vW vO vC) (hl : ¬ W.length < 1024) (K : Nat) (a0 : Int) (a1 : Int) (a2 : Bool) (a3 : Int) (a4 : Int) (a5 : Int) (a6 : Int) (a7 : Int) (a8 : Int) (a9 : Int) (a10 : Int) (a11 : Int) (hk : thalwegref04_Right.f K a0 a1 a2 a3 a4 a5 a6 a7 a8 a9 a10 a11 = some true) :
  Calls Try.prog 18 #[.pointer (some ⟨x, 0, none⟩), .agg #[.int .i64 a0, .int .i64 a1, .bool a2, .int .i64 a3, .int .i64 a4, .int .i64 a5, .int .i64 a6, .int .i64 a7, .int .i64 a8, .int .i64 a9, .int .i64 a10, .int .i64 a11]] w fun e w' => e = .returned (.int .i64 8) ∧ Below w.heap.size w w' := by
 obtain ⟨A, c, rfl, hlc, hC⟩ := Kd.R_reads h.rW
 obtain ⟨nW, hnW⟩ : ∃ nW, nW = W.length := ⟨_, rfl⟩
 rw [← hnW] at h
 have HS := Aside0.mk h
 have HK := Aside0.mk hk
 have q4 : decide ((nW : Int) ≥ 1024) = true := decide_eq_true (by omega)
 clear h hk hl hlc hC hnW
 go_enter Try.func18, Try.ntmps18
 go_wp2_with (first
  | ((with_reducible refine gate_dst (N := 3) rfl ?_); refine box_event ?hg (N := 3) ?hd (cs := #[.int .i64 a0, .int .i64 a1, .bool a2, .int .i64 a3, .int .i64 a4, .int .i64 a5, .int .i64 a6, .int .i64 a7, .int .i64 a8, .int .i64 a9, .int .i64 a10, .int .i64 a11]) (t := 34) ?hr ?_; (case hd => rfl); (case hg => rfl); (case hr => first | (go_simp; done) | (go_simp; rfl) | rfl | kernel_rfl); intro gb hgb w1 hbox hb; have BX := Aside0.mk hbox; have HS1 := Aside0.mk (HS.out.below hb); have BW1 := Aside0.mk hb; have o0 := (blk_cell BX.out 0).trans rfl; have o1 := (blk_cell BX.out 1).trans rfl; have o2 := (blk_cell BX.out 2).trans rfl; have o3 := (blk_cell BX.out 3).trans rfl; have o4 := (blk_cell BX.out 4).trans rfl; have o5 := (blk_cell BX.out 5).trans rfl; have o6 := (blk_cell BX.out 6).trans rfl; have o7 := (blk_cell BX.out 7).trans rfl; have o8 := (blk_cell BX.out 8).trans rfl; have o9 := (blk_cell BX.out 9).trans rfl; have o10 := (blk_cell BX.out 10).trans rfl; have o11 := (blk_cell BX.out 11).trans rfl; clear hb hbox hgb)
  | (go_at_call 39; (with_reducible refine (thalwegref04_Right.calls K a0 a1 a2 a3 a4 a5 a6 a7 a8 a9 a10 a11 _ _ HK.out).mono ?_); rintro x_ w2 ⟨rfl, hb⟩; have HS2 := Aside0.mk (HS1.out.below hb); have BW2 := Aside0.mk (below_step BW1.out hb); have BY := Aside0.mk (blk_below BX.out hb); have hx : w2.cell? ⟨x, 2, none⟩ = some (.slice A nW c) := (blk_cell HS2.out.blk 2).trans rfl; have p0 := (blk_cell BY.out 0).trans rfl; have p1 := (blk_cell BY.out 1).trans rfl; have p2 := (blk_cell BY.out 2).trans rfl; have p3 := (blk_cell BY.out 3).trans rfl; have p4 := (blk_cell BY.out 4).trans rfl; have p5 := (blk_cell BY.out 5).trans rfl; have p6 := (blk_cell BY.out 6).trans rfl; have p7 := (blk_cell BY.out 7).trans rfl; have p8 := (blk_cell BY.out 8).trans rfl; have p9 := (blk_cell BY.out 9).trans rfl; have p10 := (blk_cell BY.out 10).trans rfl; have p11 := (blk_cell BY.out 11).trans rfl; clear hb))
 go_ret
 exact ⟨rfl, BW2.out⟩
end Go.Proofs.Ytclbempnhelmoaa.P
namespace Go.Proofs.Ytclbempnhelmoaa.P
open Go.RowKit YtclbempnhelmoaaW.PrintWords YtclbempnhelmoaaW.PrintLast YtclbempnhelmoaaW.PrintMore
theorem R_readsD {w : World} {base n c : Nat} {ok : Nat → Prop} {A : Option Addr} {X : List S48} (h : k48.R 48 w base ok (.slice A n c) X) : ReadsRow (k48.M w base ok) k48.sz w A n X := by
 obtain ⟨hn, hnc, hC⟩ := Kd.R_reads' h
 refine ⟨hn.symm, by rw [hn]; exact hC.2.1, fun hp => ?_⟩
 obtain ⟨gq, cap, ev, _, _⟩ := Kd.R_form h (by omega)
 injection ev with ea en ec
 subst ea
 refine ⟨_, rfl, fun j p hj => ?_⟩
 obtain ⟨hjl, hp2⟩ := List.getElem?_eq_some_iff.1 hj
 obtain ⟨cs, hl, hM, hcs, _⟩ := Kd.R_elem h z48 (j : Int) (by omega) (by omega)
 rw [Int.toNat_natCast, List.getD_eq_getElem?_getD, hj] at hM
 refine ⟨cs, hl, k48.M_mono (fun k hk => hk.1) hM, fun i u hu => ?_⟩
 rw [add_plain]
 have := hcs i u hu
 rw [Int.toNat_natCast] at this
 exact this
theorem bigs_l0 (l : List S48) (h : l.length ≤ 1000000) (hb : ∀ b ∈ l, b.f1.length ≤ 100000) : ∀ (d : Nat) (i : Int), 0 ≤ i → (l.length : Int) - i = d → Ev (fun k => thalwegref05_Same.l0 k l l i) true := by
 intro d
 induction d with
 | zero =>
  intro i h0 hd
  refine Ev.from 1 fun k => ?_
  simp only [thalwegref05_Same.l0]
  rw [if_neg (by omega)]
 | succ d ih =>
  intro i h0 hd
  refine Ev.step (f := fun k => _) (fun k => by simp only [thalwegref05_Same.l0]; rfl) ?_
  simp only [if_pos (show i < (l.length : Int) by omega), if_pos h0, if_true]
  refine Ev.bind (same_ev _ (hb _ (bs_mem l i h0 (by omega)))) ?_
  simp only [if_true, w64 (x := i + 1) (by omega) (by omega)]
  exact ih (i + 1) (by omega) (by omega)
theorem bigs_ev (l : List S48) (h : l.length ≤ 1000000) (hb : ∀ b ∈ l, b.f1.length ≤ 100000) : Ev (fun k => thalwegref05_Same.f k l l) true := by
 unfold thalwegref05_Same.f
 simp only [if_true]
 exact bigs_l0 l h hb l.length 0 (by omega) (by omega)
theorem same_B2 {w : World} {b1 b2 n : Nat} {ok1 ok2 : Nat → Prop} {A A' : Option Addr} {c c' : Nat} {X : List S48} (h1 : k48.R 48 w b1 ok1 (.slice A n c) X) (h2 : k48.R 48 w b2 ok2 (.slice A' n c') X) (hn : n = X.length) (hl : X.length ≤ 1000000) (hb : ∀ b ∈ X, b.f1.length ≤ 100000) :
  Calls Try.prog 16 #[.slice A n c, .slice A' n c'] w fun e w' => e = .returned (.bool true) ∧ Below w.heap.size w w' := by
 subst hn
 obtain ⟨K, hK⟩ := bigs_ev X hl hb
 exact (thalwegref05_Same.calls K A c X A' c' X true w (Kd.R_reads' h1).2.2 (Kd.R_reads' h1).2.1 (Kd.R_reads' h2).2.2 (Kd.R_reads' h2).2.1 (hK K (Nat.le_refl _))).mono (fun _ _ h => ⟨h.1, h.2.below⟩)
theorem same_O2 {w : World} {b1 b2 n : Nat} {ok1 ok2 : Nat → Prop} {A A' : Option Addr} {c c' : Nat} {X : List S34} (h1 : k34.R 34 w b1 ok1 (.slice A n c) X) (h2 : k34.R 34 w b2 ok2 (.slice A' n c') X) (hn : n = X.length) (hl : X.length ≤ 100000) :
  Calls Try.prog 22 #[.slice A n c, .slice A' n c'] w fun e w' => e = .returned (.bool true) ∧ Below w.heap.size w w' := by
 subst hn
 obtain ⟨K, hK⟩ := same_ev X hl
 exact (thalwegref04_Same.calls K A c X A' c' X true w (Kd.R_reads' h1).2.2 (Kd.R_reads' h1).2.1 (Kd.R_reads' h2).2.2 (Kd.R_reads' h2).2.1 (hK K (Nat.le_refl _))).mono (fun _ _ h => ⟨h.1, h.2.below⟩)
end Go.Proofs.Ytclbempnhelmoaa.P
