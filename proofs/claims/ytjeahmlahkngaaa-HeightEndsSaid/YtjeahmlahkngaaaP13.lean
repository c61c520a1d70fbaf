-- WRITTEN BY xprint.py, a program of this session that drives the kit's printer.
import Derived.Test.YtjeahmlahkngaaaP0
import Derived.Test.YtjeahmlahkngaaaP1
namespace Go.Proofs.Ytjeahmlahkngaaa.P
open Go.RowKit Go.Proofs.YtjeahmlahkngaaaW.PrintWords Go.Proofs.YtjeahmlahkngaaaW.PrintLast Go.Proofs.YtjeahmlahkngaaaW.PrintMore
open Go.Proofs.YtjeahmlahkngaaaW.PrintWords renaming below_alloc → YA, pw_below_drewN → YB, below_drew1 → YC, blk_cell → YD, blk_frozen → YE
open Go.Proofs.YtjeahmlahkngaaaW.PrintWords.Aside0 renaming mk → YF
attribute [local go_sem] max2_int min2_int max_two min_two max_three min_three max_four min_four   -- for this text's walks alone
set_option linter.unusedVariables false
set_option linter.unusedSimpArgs false

attribute [local go_sem high] eqA23
/-! ### thalwegref02_Right: function 13 -/
def thalwegref02_Right.j0 : Nat → Bool → Bool → Int → Int → Int → Int → Int → Option (Bool)
  | 0, _, _, _, _, _, _, _ => none
  | k + 1, x10, x210000, x210001, x210002, x210003, x210004, x210005 => if x10 = true then (some false) else (if x210000 = true then (some (x210001 == 0 && (x210002 == 0 && (x210003 == 0 && (x210004 == 0))))) else (if x210001 ≥ 0 then (if x210001 ≤ 4611686018427387903 then (if x210002 ≥ 0 then (if x210002 < 64 then (if x210003 = 0 then (if x210004 ≥ (-1099511627776) then (some (decide (x210004 ≤ 1099511627776))) else (some false)) else (if x210003 = 1 then (if x210004 ≥ (-1099511627776) then (some (decide (x210004 ≤ 1099511627776))) else (some false)) else (some false))) else (some false)) else (some false)) else (some false)) else (some false)))
def thalwegref02_Right.f (k : Nat) (a0_0 : Bool) (a0_1 : Int) (a0_2 : Int) (a0_3 : Int) (a0_4 : Int) (a0_5 : Int) : Option (Bool) := if a0_5 < 0 then (thalwegref02_Right.j0 k true a0_0 a0_1 a0_2 a0_3 a0_4 a0_5) else (thalwegref02_Right.j0 k (decide (a0_5 ≥ 64)) a0_0 a0_1 a0_2 a0_3 a0_4 a0_5)
theorem thalwegref02_Right.mono_l : ∀ k, (∀ y0 y1 y2 y3 y4 y5 y6, LeO (thalwegref02_Right.j0 k y0 y1 y2 y3 y4 y5 y6) (thalwegref02_Right.j0 (k + 1) y0 y1 y2 y3 y4 y5 y6))
  | 0 => fun _ _ _ _ _ _ _ r h => by simp [thalwegref02_Right.j0] at h
  | k + 1 => by
    have ih0 := thalwegref02_Right.mono_l k
    · intro y0 y1 y2 y3 y4 y5 y6
      unfold thalwegref02_Right.j0
      repeat' first
      | (with_reducible exact ih0 _ _ _ _ _ _ _)
      | (with_reducible exact LeO.refl _)
      | (with_reducible exact LeO.none _)
      | (with_reducible refine LeO.ite ?_ ?_)
      | (with_reducible refine LeO.bind ?_ (fun _ => ?_))
      | exact ih0 _ _ _ _ _ _ _
      | exact LeO.none _
      | refine LeO.ite ?_ ?_
      | refine LeO.bind ?_ (fun _ => ?_)
theorem thalwegref02_Right.mono : ∀ a0 a1 a2 a3 a4 a5 k, LeO (thalwegref02_Right.f k a0 a1 a2 a3 a4 a5) (thalwegref02_Right.f (k + 1) a0 a1 a2 a3 a4 a5) := by
  intro a0 a1 a2 a3 a4 a5 k
  have ih0 := thalwegref02_Right.mono_l k
  unfold thalwegref02_Right.f
  repeat' first
      | (with_reducible exact ih0 _ _ _ _ _ _ _)
      | (with_reducible exact LeO.refl _)
      | (with_reducible exact LeO.none _)
      | (with_reducible refine LeO.ite ?_ ?_)
      | (with_reducible refine LeO.bind ?_ (fun _ => ?_))
      | exact ih0 _ _ _ _ _ _ _
      | exact LeO.none _
      | refine LeO.ite ?_ ?_
      | refine LeO.bind ?_ (fun _ => ?_)
set_option maxHeartbeats 8000000 in
set_option maxRecDepth 100000 in
theorem thalwegref02_Right.calls (k : Nat) (a0_0 : Bool) (a0_1 : Int) (a0_2 : Int) (a0_3 : Int) (a0_4 : Int) (a0_5 : Int) (r : Bool) (w : World) (h : thalwegref02_Right.f k a0_0 a0_1 a0_2 a0_3 a0_4 a0_5 = some r) :
    Calls Try.prog 13 #[.agg #[.bool a0_0, .int .i64 a0_1, .int .i64 a0_2, .int .i64 a0_3, .int .i64 a0_4, .int .i64 a0_5]] w fun e w' => e = .returned (.bool r) ∧ Below w.heap.size w w' := by
  have hu23 := Try.underlying23
  have HB := YF (Below.refl w.heap.size w)
  have H : (if a0_5 < 0 then (thalwegref02_Right.j0 k true a0_0 a0_1 a0_2 a0_3 a0_4 a0_5) else (thalwegref02_Right.j0 k (decide (a0_5 ≥ 64)) a0_0 a0_1 a0_2 a0_3 a0_4 a0_5)) = some r := h
  clear h; have HC2 := YF H; clear H
  go_enter Try.func13, Try.ntmps13
  go_upto_region 1 with (first | ((with_reducible refine gate_dst (N := 1) rfl ?_); refine box_event ?hg (N := 1) ?hd (cs := #[.bool a0_0, .int .i64 a0_1, .int .i64 a0_2, .int .i64 a0_3, .int .i64 a0_4, .int .i64 a0_5]) (t := 23) ?hr ?_; (case hd => rfl); (case hg => rfl); (case hr => first | (go_simp; done) | (go_simp; rfl)); intro gb209 hg w3 hbox hb; have n0_ := YF (below_step (by repeat (first | (with_reducible first | exact HB.out | apply YA | apply YB | apply YC) | exact HB.out)) hb); have n1_ := YF (hbox); have n2_ := YF ((by rw [hg]; exact (below_size (by repeat (first | (with_reducible first | exact HB.out | apply YA | apply YB | apply YC) | exact HB.out))) : w.heap.size ≤ gb209)); have n3_ := YF ((by rw [hg]; exact (below_size (by repeat (first | (with_reducible first | exact HB.out | apply YA | apply YB | apply YC) | exact HB.out))) : w.heap.size ≤ gb209)); clear HB; have HB := n0_; have BK209 := n1_; have GW209 := n2_; have GE209 := n3_; clear n0_ n1_ n2_ n3_; clear hb hbox hg))
  (try simp only [Act.put, List.setIfInBounds_toArray, List.set_cons_zero, List.set_cons_succ])
  go_cut [10] (fun v10 wc => ∃ (kq : Nat) (x10_1 : Bool), v10 = .bool x10_1 ∧ Aside0 (thalwegref02_Right.j0 kq x10_1 a0_0 a0_1 a0_2 a0_3 a0_4 a0_5 = some r) ∧ Aside0 (kq ≤ k) ∧ Aside0 (wc.heap[gb209]? = some (.cells #[.bool a0_0, .int .i64 a0_1, .int .i64 a0_2, .int .i64 a0_3, .int .i64 a0_4, .int .i64 a0_5] 23 (0, 0))) ∧ Aside0 (Below w.heap.size w wc))
  case first =>
    have H := HC2.out
    clear HC2
    by_cases c4 : a0_5 < 0
    · rw [if_pos c4] at H
      have c4b0 : decide (a0_5 < 0) = true := decide_eq_true c4; clear c4
      (first | rw [c4b0] | (simp only [i64_w, i32_w]; rw [c4b0]) | rw [c4b1] | skip)
      have H' := YF H
      clear H
      have hcz5_0 : w3.cell? ⟨gb209, 0, none⟩ = some (.bool a0_0) := (YD BK209.out 0).trans rfl
      have hcz5_1 : w3.cell? ⟨gb209, 1, none⟩ = some (.int .i64 a0_1) := (YD BK209.out 1).trans rfl
      have hcz5_2 : w3.cell? ⟨gb209, 2, none⟩ = some (.int .i64 a0_2) := (YD BK209.out 2).trans rfl
      have hcz5_3 : w3.cell? ⟨gb209, 3, none⟩ = some (.int .i64 a0_3) := (YD BK209.out 3).trans rfl
      have hcz5_4 : w3.cell? ⟨gb209, 4, none⟩ = some (.int .i64 a0_4) := (YD BK209.out 4).trans rfl
      have hcz5_5 : w3.cell? ⟨gb209, 5, none⟩ = some (.int .i64 a0_5) := (YD BK209.out 5).trans rfl
      have hfz5_0 := YE BK209.out 0
      have hfz5_1 := YE BK209.out 1
      have hfz5_2 := YE BK209.out 2
      have hfz5_3 := YE BK209.out 3
      have hfz5_4 := YE BK209.out 4
      have hfz5_5 := YE BK209.out 5
      go_wp2
      go_meet
      case rel => exact ⟨_, (true), (by first | rfl | (simp; done) | (simp [*]; done)), H', ⟨by first | omega | exact Nat.le_refl _⟩, ⟨by (with_reducible repeat (first | refine blk_drewN ?_ _ | refine blk_drew ?_ | refine blk_alloc ?_ _)); exact BK209.out⟩, ⟨by repeat (first | (with_reducible first | exact HB.out | apply YA | apply YB | apply YC | refine below_set ?_ GE209.out) | exact HB.out)⟩⟩
    rw [if_neg c4] at H; have c4b0 : decide (a0_5 < 0) = false := decide_eq_false c4; clear c4
    (first | rw [c4b0] | (simp only [i64_w, i32_w]; rw [c4b0]) | rw [c4b1] | skip)
    have H' := YF H
    clear H
    have hcz6_0 : w3.cell? ⟨gb209, 0, none⟩ = some (.bool a0_0) := (YD BK209.out 0).trans rfl
    have hcz6_1 : w3.cell? ⟨gb209, 1, none⟩ = some (.int .i64 a0_1) := (YD BK209.out 1).trans rfl
    have hcz6_2 : w3.cell? ⟨gb209, 2, none⟩ = some (.int .i64 a0_2) := (YD BK209.out 2).trans rfl
    have hcz6_3 : w3.cell? ⟨gb209, 3, none⟩ = some (.int .i64 a0_3) := (YD BK209.out 3).trans rfl
    have hcz6_4 : w3.cell? ⟨gb209, 4, none⟩ = some (.int .i64 a0_4) := (YD BK209.out 4).trans rfl
    have hcz6_5 : w3.cell? ⟨gb209, 5, none⟩ = some (.int .i64 a0_5) := (YD BK209.out 5).trans rfl
    have hfz6_0 := YE BK209.out 0
    have hfz6_1 := YE BK209.out 1
    have hfz6_2 := YE BK209.out 2
    have hfz6_3 := YE BK209.out 3
    have hfz6_4 := YE BK209.out 4
    have hfz6_5 := YE BK209.out 5
    go_wp2
    go_meet
    case rel => exact ⟨_, (decide (a0_5 ≥ 64)), (by first | rfl | (simp; done) | (simp [*]; done)), H', ⟨by first | omega | exact Nat.le_refl _⟩, ⟨by (with_reducible repeat (first | refine blk_drewN ?_ _ | refine blk_drew ?_ | refine blk_alloc ?_ _)); exact BK209.out⟩, ⟨by repeat (first | (with_reducible first | exact HB.out | apply YA | apply YB | apply YC | refine below_set ?_ GE209.out) | exact HB.out)⟩⟩
  case rest =>
    clear HC2
    try clear c1
    try clear p2
    try clear c4
    try clear c4b0
    try clear hcz5_0
    try clear hcz5_1
    try clear hcz5_2
    try clear hcz5_3
    try clear hcz5_4
    try clear hcz5_5
    try clear hcz6_0
    try clear hcz6_1
    try clear hcz6_2
    try clear hcz6_3
    try clear hcz6_4
    try clear hcz6_5
    try clear hfz5_0
    try clear hfz5_1
    try clear hfz5_2
    try clear hfz5_3
    try clear hfz5_4
    try clear hfz5_5
    try clear hfz6_0
    try clear hfz6_1
    try clear hfz6_2
    try clear hfz6_3
    try clear hfz6_4
    try clear hfz6_5
    obtain ⟨kq, x10_1, rfl, HA, HJ1, BK209, HB⟩ := hcut
    cases kq with
    | zero => exact absurd HA.out (by simp [thalwegref02_Right.j0])
    | succ kj1 =>
      have H := HA.out
      clear HA
      simp only [thalwegref02_Right.j0] at H
      by_cases c7 : x10_1 = true
      · subst c7
        have H1 : (some false) = some r := by rw [if_pos rfl] at H; exact H
        clear H
        have H := H1
        clear H1
        obtain rfl := Option.some.inj H
        go_wp2
        go_ret
        exact ⟨by first | rfl | (simp [errW_none, errW_some] <;> rfl) | (simp [*, errW_none, errW_some] <;> rfl), by repeat (first | (with_reducible first | exact HB.out | apply YA | apply YB | apply YC | refine below_set ?_ GE209.out) | exact HB.out)⟩
      replace c7 := Bool.eq_false_iff.mpr c7
      subst c7
      have H1 : (if a0_0 = true then (some (a0_1 == 0 && (a0_2 == 0 && (a0_3 == 0 && (a0_4 == 0))))) else (if a0_1 ≥ 0 then (if a0_1 ≤ 4611686018427387903 then (if a0_2 ≥ 0 then (if a0_2 < 64 then (if a0_3 = 0 then (if a0_4 ≥ (-1099511627776) then (some (decide (a0_4 ≤ 1099511627776))) else (some false)) else (if a0_3 = 1 then (if a0_4 ≥ (-1099511627776) then (some (decide (a0_4 ≤ 1099511627776))) else (some false)) else (some false))) else (some false)) else (some false)) else (some false)) else (some false))) = some r := by rw [if_neg (show ¬ (false = true) by decide)] at H; exact H
      clear H
      have H := H1
      clear H1
      by_cases c8 : a0_0 = true
      · subst c8
        have H1 : (some (a0_1 == 0 && (a0_2 == 0 && (a0_3 == 0 && (a0_4 == 0))))) = some r := by rw [if_pos rfl] at H; exact H
        clear H
        have H := H1
        clear H1
        obtain rfl := Option.some.inj H
        have hcz9_0 : wc.cell? ⟨gb209, 0, none⟩ = some (.bool true) := (YD BK209.out 0).trans rfl
        have hcz9_1 : wc.cell? ⟨gb209, 1, none⟩ = some (.int .i64 a0_1) := (YD BK209.out 1).trans rfl
        have hcz9_2 : wc.cell? ⟨gb209, 2, none⟩ = some (.int .i64 a0_2) := (YD BK209.out 2).trans rfl
        have hcz9_3 : wc.cell? ⟨gb209, 3, none⟩ = some (.int .i64 a0_3) := (YD BK209.out 3).trans rfl
        have hcz9_4 : wc.cell? ⟨gb209, 4, none⟩ = some (.int .i64 a0_4) := (YD BK209.out 4).trans rfl
        have hcz9_5 : wc.cell? ⟨gb209, 5, none⟩ = some (.int .i64 a0_5) := (YD BK209.out 5).trans rfl
        have hfz9_0 := YE BK209.out 0
        have hfz9_1 := YE BK209.out 1
        have hfz9_2 := YE BK209.out 2
        have hfz9_3 := YE BK209.out 3
        have hfz9_4 := YE BK209.out 4
        have hfz9_5 := YE BK209.out 5
        go_wp2
        go_ret
        exact ⟨by first | rfl | (simp [errW_none, errW_some] <;> rfl) | (simp [*, errW_none, errW_some] <;> rfl), by repeat (first | (with_reducible first | exact HB.out | apply YA | apply YB | apply YC | refine below_set ?_ GE209.out) | exact HB.out)⟩
      replace c8 := Bool.eq_false_iff.mpr c8
      subst c8
      have H1 : (if a0_1 ≥ 0 then (if a0_1 ≤ 4611686018427387903 then (if a0_2 ≥ 0 then (if a0_2 < 64 then (if a0_3 = 0 then (if a0_4 ≥ (-1099511627776) then (some (decide (a0_4 ≤ 1099511627776))) else (some false)) else (if a0_3 = 1 then (if a0_4 ≥ (-1099511627776) then (some (decide (a0_4 ≤ 1099511627776))) else (some false)) else (some false))) else (some false)) else (some false)) else (some false)) else (some false)) = some r := by rw [if_neg (show ¬ (false = true) by decide)] at H; exact H
      clear H
      have H := H1
      clear H1
      by_cases c10 : a0_1 ≥ 0
      · rw [if_pos c10] at H
        have c10b0 : decide (0 ≤ a0_1) = true := decide_eq_true c10; clear c10
        by_cases c11 : a0_1 ≤ 4611686018427387903
        · rw [if_pos c11] at H
          have c11b0 : decide (a0_1 ≤ 4611686018427387903) = true := decide_eq_true c11; clear c11
          by_cases c12 : a0_2 ≥ 0
          · rw [if_pos c12] at H
            have c12b0 : decide (0 ≤ a0_2) = true := decide_eq_true c12; clear c12
            by_cases c13 : a0_2 < 64
            · rw [if_pos c13] at H
              have c13b0 : decide (a0_2 < 64) = true := decide_eq_true c13; clear c13
              by_cases c14 : a0_3 = 0
              · rw [if_pos c14] at H
                have c14b0 : (a0_3 == 0) = true := beq_iff_eq.mpr c14
                have c14b1 : (a0_3 != 0) = false := bne_eq_false_iff_eq.mpr c14
                clear c14
                by_cases c15 : a0_4 ≥ (-1099511627776)
                · rw [if_pos c15] at H
                  have c15b0 : decide ((-1099511627776) ≤ a0_4) = true := decide_eq_true c15; clear c15
                  obtain rfl := Option.some.inj H
                  have hcz16_0 : wc.cell? ⟨gb209, 0, none⟩ = some (.bool false) := (YD BK209.out 0).trans rfl
                  have hcz16_1 : wc.cell? ⟨gb209, 1, none⟩ = some (.int .i64 a0_1) := (YD BK209.out 1).trans rfl
                  have hcz16_2 : wc.cell? ⟨gb209, 2, none⟩ = some (.int .i64 a0_2) := (YD BK209.out 2).trans rfl
                  have hcz16_3 : wc.cell? ⟨gb209, 3, none⟩ = some (.int .i64 a0_3) := (YD BK209.out 3).trans rfl
                  have hcz16_4 : wc.cell? ⟨gb209, 4, none⟩ = some (.int .i64 a0_4) := (YD BK209.out 4).trans rfl
                  have hcz16_5 : wc.cell? ⟨gb209, 5, none⟩ = some (.int .i64 a0_5) := (YD BK209.out 5).trans rfl
                  have hfz16_0 := YE BK209.out 0
                  have hfz16_1 := YE BK209.out 1
                  have hfz16_2 := YE BK209.out 2
                  have hfz16_3 := YE BK209.out 3
                  have hfz16_4 := YE BK209.out 4
                  have hfz16_5 := YE BK209.out 5
                  go_wp2
                  go_ret
                  exact ⟨by first | rfl | (simp [errW_none, errW_some] <;> rfl) | (simp [*, errW_none, errW_some] <;> rfl), by repeat (first | (with_reducible first | exact HB.out | apply YA | apply YB | apply YC | refine below_set ?_ GE209.out) | exact HB.out)⟩
                rw [if_neg c15] at H; have c15b0 : decide ((-1099511627776) ≤ a0_4) = false := decide_eq_false c15; clear c15
                obtain rfl := Option.some.inj H
                have hcz17_0 : wc.cell? ⟨gb209, 0, none⟩ = some (.bool false) := (YD BK209.out 0).trans rfl
                have hcz17_1 : wc.cell? ⟨gb209, 1, none⟩ = some (.int .i64 a0_1) := (YD BK209.out 1).trans rfl
                have hcz17_2 : wc.cell? ⟨gb209, 2, none⟩ = some (.int .i64 a0_2) := (YD BK209.out 2).trans rfl
                have hcz17_3 : wc.cell? ⟨gb209, 3, none⟩ = some (.int .i64 a0_3) := (YD BK209.out 3).trans rfl
                have hcz17_4 : wc.cell? ⟨gb209, 4, none⟩ = some (.int .i64 a0_4) := (YD BK209.out 4).trans rfl
                have hcz17_5 : wc.cell? ⟨gb209, 5, none⟩ = some (.int .i64 a0_5) := (YD BK209.out 5).trans rfl
                have hfz17_0 := YE BK209.out 0
                have hfz17_1 := YE BK209.out 1
                have hfz17_2 := YE BK209.out 2
                have hfz17_3 := YE BK209.out 3
                have hfz17_4 := YE BK209.out 4
                have hfz17_5 := YE BK209.out 5
                go_wp2
                go_ret
                exact ⟨by first | rfl | (simp [errW_none, errW_some] <;> rfl) | (simp [*, errW_none, errW_some] <;> rfl), by repeat (first | (with_reducible first | exact HB.out | apply YA | apply YB | apply YC | refine below_set ?_ GE209.out) | exact HB.out)⟩
              rw [if_neg c14] at H
              have c14b0 : (a0_3 == 0) = false := beq_eq_false_iff_ne.mpr c14
              have c14b1 : (a0_3 != 0) = true := bne_iff_ne.mpr c14
              by_cases c18 : a0_3 = 1
              · rw [if_pos c18] at H
                have c18b0 : (a0_3 == 1) = true := beq_iff_eq.mpr c18
                have c18b1 : (a0_3 != 1) = false := bne_eq_false_iff_eq.mpr c18
                clear c18
                by_cases c19 : a0_4 ≥ (-1099511627776)
                · rw [if_pos c19] at H
                  have c19b0 : decide ((-1099511627776) ≤ a0_4) = true := decide_eq_true c19; clear c19
                  obtain rfl := Option.some.inj H
                  have hcz20_0 : wc.cell? ⟨gb209, 0, none⟩ = some (.bool false) := (YD BK209.out 0).trans rfl
                  have hcz20_1 : wc.cell? ⟨gb209, 1, none⟩ = some (.int .i64 a0_1) := (YD BK209.out 1).trans rfl
                  have hcz20_2 : wc.cell? ⟨gb209, 2, none⟩ = some (.int .i64 a0_2) := (YD BK209.out 2).trans rfl
                  have hcz20_3 : wc.cell? ⟨gb209, 3, none⟩ = some (.int .i64 a0_3) := (YD BK209.out 3).trans rfl
                  have hcz20_4 : wc.cell? ⟨gb209, 4, none⟩ = some (.int .i64 a0_4) := (YD BK209.out 4).trans rfl
                  have hcz20_5 : wc.cell? ⟨gb209, 5, none⟩ = some (.int .i64 a0_5) := (YD BK209.out 5).trans rfl
                  have hfz20_0 := YE BK209.out 0
                  have hfz20_1 := YE BK209.out 1
                  have hfz20_2 := YE BK209.out 2
                  have hfz20_3 := YE BK209.out 3
                  have hfz20_4 := YE BK209.out 4
                  have hfz20_5 := YE BK209.out 5
                  go_wp2
                  go_ret
                  exact ⟨by first | rfl | (simp [errW_none, errW_some] <;> rfl) | (simp [*, errW_none, errW_some] <;> rfl), by repeat (first | (with_reducible first | exact HB.out | apply YA | apply YB | apply YC | refine below_set ?_ GE209.out) | exact HB.out)⟩
                rw [if_neg c19] at H; have c19b0 : decide ((-1099511627776) ≤ a0_4) = false := decide_eq_false c19; clear c19
                obtain rfl := Option.some.inj H
                have hcz21_0 : wc.cell? ⟨gb209, 0, none⟩ = some (.bool false) := (YD BK209.out 0).trans rfl
                have hcz21_1 : wc.cell? ⟨gb209, 1, none⟩ = some (.int .i64 a0_1) := (YD BK209.out 1).trans rfl
                have hcz21_2 : wc.cell? ⟨gb209, 2, none⟩ = some (.int .i64 a0_2) := (YD BK209.out 2).trans rfl
                have hcz21_3 : wc.cell? ⟨gb209, 3, none⟩ = some (.int .i64 a0_3) := (YD BK209.out 3).trans rfl
                have hcz21_4 : wc.cell? ⟨gb209, 4, none⟩ = some (.int .i64 a0_4) := (YD BK209.out 4).trans rfl
                have hcz21_5 : wc.cell? ⟨gb209, 5, none⟩ = some (.int .i64 a0_5) := (YD BK209.out 5).trans rfl
                have hfz21_0 := YE BK209.out 0
                have hfz21_1 := YE BK209.out 1
                have hfz21_2 := YE BK209.out 2
                have hfz21_3 := YE BK209.out 3
                have hfz21_4 := YE BK209.out 4
                have hfz21_5 := YE BK209.out 5
                go_wp2
                go_ret
                exact ⟨by first | rfl | (simp [errW_none, errW_some] <;> rfl) | (simp [*, errW_none, errW_some] <;> rfl), by repeat (first | (with_reducible first | exact HB.out | apply YA | apply YB | apply YC | refine below_set ?_ GE209.out) | exact HB.out)⟩
              rw [if_neg c18] at H
              have c18b0 : (a0_3 == 1) = false := beq_eq_false_iff_ne.mpr c18
              have c18b1 : (a0_3 != 1) = true := bne_iff_ne.mpr c18
              obtain rfl := Option.some.inj H
              have hcz22_0 : wc.cell? ⟨gb209, 0, none⟩ = some (.bool false) := (YD BK209.out 0).trans rfl
              have hcz22_1 : wc.cell? ⟨gb209, 1, none⟩ = some (.int .i64 a0_1) := (YD BK209.out 1).trans rfl
              have hcz22_2 : wc.cell? ⟨gb209, 2, none⟩ = some (.int .i64 a0_2) := (YD BK209.out 2).trans rfl
              have hcz22_3 : wc.cell? ⟨gb209, 3, none⟩ = some (.int .i64 a0_3) := (YD BK209.out 3).trans rfl
              have hcz22_4 : wc.cell? ⟨gb209, 4, none⟩ = some (.int .i64 a0_4) := (YD BK209.out 4).trans rfl
              have hcz22_5 : wc.cell? ⟨gb209, 5, none⟩ = some (.int .i64 a0_5) := (YD BK209.out 5).trans rfl
              have hfz22_0 := YE BK209.out 0
              have hfz22_1 := YE BK209.out 1
              have hfz22_2 := YE BK209.out 2
              have hfz22_3 := YE BK209.out 3
              have hfz22_4 := YE BK209.out 4
              have hfz22_5 := YE BK209.out 5
              go_wp2
              go_ret
              exact ⟨by first | rfl | (simp [errW_none, errW_some] <;> rfl) | (simp [*, errW_none, errW_some] <;> rfl), by repeat (first | (with_reducible first | exact HB.out | apply YA | apply YB | apply YC | refine below_set ?_ GE209.out) | exact HB.out)⟩
            rw [if_neg c13] at H; have c13b0 : decide (a0_2 < 64) = false := decide_eq_false c13; clear c13
            obtain rfl := Option.some.inj H
            have hcz23_0 : wc.cell? ⟨gb209, 0, none⟩ = some (.bool false) := (YD BK209.out 0).trans rfl
            have hcz23_1 : wc.cell? ⟨gb209, 1, none⟩ = some (.int .i64 a0_1) := (YD BK209.out 1).trans rfl
            have hcz23_2 : wc.cell? ⟨gb209, 2, none⟩ = some (.int .i64 a0_2) := (YD BK209.out 2).trans rfl
            have hcz23_3 : wc.cell? ⟨gb209, 3, none⟩ = some (.int .i64 a0_3) := (YD BK209.out 3).trans rfl
            have hcz23_4 : wc.cell? ⟨gb209, 4, none⟩ = some (.int .i64 a0_4) := (YD BK209.out 4).trans rfl
            have hcz23_5 : wc.cell? ⟨gb209, 5, none⟩ = some (.int .i64 a0_5) := (YD BK209.out 5).trans rfl
            have hfz23_0 := YE BK209.out 0
            have hfz23_1 := YE BK209.out 1
            have hfz23_2 := YE BK209.out 2
            have hfz23_3 := YE BK209.out 3
            have hfz23_4 := YE BK209.out 4
            have hfz23_5 := YE BK209.out 5
            go_wp2
            go_ret
            exact ⟨by first | rfl | (simp [errW_none, errW_some] <;> rfl) | (simp [*, errW_none, errW_some] <;> rfl), by repeat (first | (with_reducible first | exact HB.out | apply YA | apply YB | apply YC | refine below_set ?_ GE209.out) | exact HB.out)⟩
          rw [if_neg c12] at H; have c12b0 : decide (0 ≤ a0_2) = false := decide_eq_false c12; clear c12
          obtain rfl := Option.some.inj H
          have hcz24_0 : wc.cell? ⟨gb209, 0, none⟩ = some (.bool false) := (YD BK209.out 0).trans rfl
          have hcz24_1 : wc.cell? ⟨gb209, 1, none⟩ = some (.int .i64 a0_1) := (YD BK209.out 1).trans rfl
          have hcz24_2 : wc.cell? ⟨gb209, 2, none⟩ = some (.int .i64 a0_2) := (YD BK209.out 2).trans rfl
          have hcz24_3 : wc.cell? ⟨gb209, 3, none⟩ = some (.int .i64 a0_3) := (YD BK209.out 3).trans rfl
          have hcz24_4 : wc.cell? ⟨gb209, 4, none⟩ = some (.int .i64 a0_4) := (YD BK209.out 4).trans rfl
          have hcz24_5 : wc.cell? ⟨gb209, 5, none⟩ = some (.int .i64 a0_5) := (YD BK209.out 5).trans rfl
          have hfz24_0 := YE BK209.out 0
          have hfz24_1 := YE BK209.out 1
          have hfz24_2 := YE BK209.out 2
          have hfz24_3 := YE BK209.out 3
          have hfz24_4 := YE BK209.out 4
          have hfz24_5 := YE BK209.out 5
          go_wp2
          go_ret
          exact ⟨by first | rfl | (simp [errW_none, errW_some] <;> rfl) | (simp [*, errW_none, errW_some] <;> rfl), by repeat (first | (with_reducible first | exact HB.out | apply YA | apply YB | apply YC | refine below_set ?_ GE209.out) | exact HB.out)⟩
        rw [if_neg c11] at H; have c11b0 : decide (a0_1 ≤ 4611686018427387903) = false := decide_eq_false c11; clear c11
        obtain rfl := Option.some.inj H
        have hcz25_0 : wc.cell? ⟨gb209, 0, none⟩ = some (.bool false) := (YD BK209.out 0).trans rfl
        have hcz25_1 : wc.cell? ⟨gb209, 1, none⟩ = some (.int .i64 a0_1) := (YD BK209.out 1).trans rfl
        have hcz25_2 : wc.cell? ⟨gb209, 2, none⟩ = some (.int .i64 a0_2) := (YD BK209.out 2).trans rfl
        have hcz25_3 : wc.cell? ⟨gb209, 3, none⟩ = some (.int .i64 a0_3) := (YD BK209.out 3).trans rfl
        have hcz25_4 : wc.cell? ⟨gb209, 4, none⟩ = some (.int .i64 a0_4) := (YD BK209.out 4).trans rfl
        have hcz25_5 : wc.cell? ⟨gb209, 5, none⟩ = some (.int .i64 a0_5) := (YD BK209.out 5).trans rfl
        have hfz25_0 := YE BK209.out 0
        have hfz25_1 := YE BK209.out 1
        have hfz25_2 := YE BK209.out 2
        have hfz25_3 := YE BK209.out 3
        have hfz25_4 := YE BK209.out 4
        have hfz25_5 := YE BK209.out 5
        go_wp2
        go_ret
        exact ⟨by first | rfl | (simp [errW_none, errW_some] <;> rfl) | (simp [*, errW_none, errW_some] <;> rfl), by repeat (first | (with_reducible first | exact HB.out | apply YA | apply YB | apply YC | refine below_set ?_ GE209.out) | exact HB.out)⟩
      rw [if_neg c10] at H; have c10b0 : decide (0 ≤ a0_1) = false := decide_eq_false c10; clear c10
      obtain rfl := Option.some.inj H
      have hcz26_0 : wc.cell? ⟨gb209, 0, none⟩ = some (.bool false) := (YD BK209.out 0).trans rfl
      have hcz26_1 : wc.cell? ⟨gb209, 1, none⟩ = some (.int .i64 a0_1) := (YD BK209.out 1).trans rfl
      have hcz26_2 : wc.cell? ⟨gb209, 2, none⟩ = some (.int .i64 a0_2) := (YD BK209.out 2).trans rfl
      have hcz26_3 : wc.cell? ⟨gb209, 3, none⟩ = some (.int .i64 a0_3) := (YD BK209.out 3).trans rfl
      have hcz26_4 : wc.cell? ⟨gb209, 4, none⟩ = some (.int .i64 a0_4) := (YD BK209.out 4).trans rfl
      have hcz26_5 : wc.cell? ⟨gb209, 5, none⟩ = some (.int .i64 a0_5) := (YD BK209.out 5).trans rfl
      have hfz26_0 := YE BK209.out 0
      have hfz26_1 := YE BK209.out 1
      have hfz26_2 := YE BK209.out 2
      have hfz26_3 := YE BK209.out 3
      have hfz26_4 := YE BK209.out 4
      have hfz26_5 := YE BK209.out 5
      go_wp2
      go_ret
      exact ⟨by first | rfl | (simp [errW_none, errW_some] <;> rfl) | (simp [*, errW_none, errW_some] <;> rfl), by repeat (first | (with_reducible first | exact HB.out | apply YA | apply YB | apply YC | refine below_set ?_ GE209.out) | exact HB.out)⟩

end Go.Proofs.Ytjeahmlahkngaaa.P
