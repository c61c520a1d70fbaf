-- WRITTEN BY xprint.py, a program of this session that drives the kit's printer.
import Derived.Test.YtjeahmlahkngaaaP0
import Derived.Test.YtjeahmlahkngaaaP14
import Derived.Test.YtjeahmlahkngaaaP15
namespace Go.Proofs.Ytjeahmlahkngaaa.P
open Go.RowKit Go.Proofs.YtjeahmlahkngaaaW.PrintWords Go.Proofs.YtjeahmlahkngaaaW.PrintLast Go.Proofs.YtjeahmlahkngaaaW.PrintMore
open Go.Proofs.YtjeahmlahkngaaaW.PrintWords renaming below_alloc → YA, pw_below_drewN → YB, below_drew1 → YC, below_step → YD, below_size → YE, blk_drewN → YF, blk_drew → YG, blk_alloc → YH, blk_cell → YI, blk_frozen → YJ, blk_below → YK
open Go.Proofs.YtjeahmlahkngaaaW.PrintWords.Aside0 renaming mk → YL
open List renaming setIfInBounds_toArray → YM, set_cons_zero → YN, set_cons_succ → YO, map_toArray → YP, length_take → YQ, length_drop → YR
attribute [local go_sem] max2_int min2_int max_two min_two max_three min_three max_four min_four   -- for this text's walks alone
set_option linter.unusedVariables false
set_option linter.unusedSimpArgs false

/-! ### thalwegref02_Ends: function 26 -/
mutual
def thalwegref02_Ends.l0 : Nat → List (S23) → Bool → Int → Bool → Int → Int → Int → Int → Int → Bool → Int → Int → Int → Int → Int → Option (Bool × Int × Int × Int × Int × Int × Bool × Int × Int × Int × Int × Int × Bool)
  | 0, _, _, _, _, _, _, _, _, _, _, _, _, _, _, _ => none
  | k + 1, x0, x7, x8, x234000, x234001, x234002, x234003, x234004, x234005, x235000, x235001, x235002, x235003, x235004, x235005 => if x8 < (x0.length : Int) then (if 0 ≤ x8 then ((thalwegref02_Told.f k ((rd_T23 x0 x8).f0) ((rd_T23 x0 x8).f1) ((rd_T23 x0 x8).f2) ((rd_T23 x0 x8).f3) ((rd_T23 x0 x8).f4) ((rd_T23 x0 x8).f5)).bind fun t236 => (if t236 = true then (if x7 = true then ((thalwegref02_Less.f k ((rd_T23 x0 x8).f0) ((rd_T23 x0 x8).f1) ((rd_T23 x0 x8).f2) ((rd_T23 x0 x8).f3) ((rd_T23 x0 x8).f4) ((rd_T23 x0 x8).f5) x234000 x234001 x234002 x234003 x234004 x234005).bind fun t238 => (thalwegref02_Ends.j1 k x0 true x8 t238 x234000 x234001 x234002 x234003 x234004 x234005 x235000 x235001 x235002 x235003 x235004 x235005)) else (thalwegref02_Ends.j1 k x0 false x8 true x234000 x234001 x234002 x234003 x234004 x234005 x235000 x235001 x235002 x235003 x235004 x235005)) else (thalwegref02_Ends.l0 k x0 x7 (wrap64 (x8 + 1)) x234000 x234001 x234002 x234003 x234004 x234005 x235000 x235001 x235002 x235003 x235004 x235005))) else (none)) else (some (x234000, x234001, x234002, x234003, x234004, x234005, x235000, x235001, x235002, x235003, x235004, x235005, x7))
def thalwegref02_Ends.j1 : Nat → List (S23) → Bool → Int → Bool → Bool → Int → Int → Int → Int → Int → Bool → Int → Int → Int → Int → Int → Option (Bool × Int × Int × Int × Int × Int × Bool × Int × Int × Int × Int × Int × Bool)
  | 0, _, _, _, _, _, _, _, _, _, _, _, _, _, _, _, _ => none
  | k + 1, x0, x7, x8, x30, x234000, x234001, x234002, x234003, x234004, x234005, x235000, x235001, x235002, x235003, x235004, x235005 => if x30 = true then (if 0 ≤ x8 then (if x8 < (x0.length : Int) then (if x7 = true then ((thalwegref02_Less.f k x235000 x235001 x235002 x235003 x235004 x235005 ((rd_T23 x0 x8).f0) ((rd_T23 x0 x8).f1) ((rd_T23 x0 x8).f2) ((rd_T23 x0 x8).f3) ((rd_T23 x0 x8).f4) ((rd_T23 x0 x8).f5)).bind fun t241 => (if t241 = true then (thalwegref02_Ends.l0 k x0 true (wrap64 (x8 + 1)) ((rd_T23 x0 x8).f0) ((rd_T23 x0 x8).f1) ((rd_T23 x0 x8).f2) ((rd_T23 x0 x8).f3) ((rd_T23 x0 x8).f4) ((rd_T23 x0 x8).f5) ((rd_T23 x0 x8).f0) ((rd_T23 x0 x8).f1) ((rd_T23 x0 x8).f2) ((rd_T23 x0 x8).f3) ((rd_T23 x0 x8).f4) ((rd_T23 x0 x8).f5)) else (thalwegref02_Ends.l0 k x0 true (wrap64 (x8 + 1)) ((rd_T23 x0 x8).f0) ((rd_T23 x0 x8).f1) ((rd_T23 x0 x8).f2) ((rd_T23 x0 x8).f3) ((rd_T23 x0 x8).f4) ((rd_T23 x0 x8).f5) x235000 x235001 x235002 x235003 x235004 x235005))) else (thalwegref02_Ends.l0 k x0 true (wrap64 (x8 + 1)) ((rd_T23 x0 x8).f0) ((rd_T23 x0 x8).f1) ((rd_T23 x0 x8).f2) ((rd_T23 x0 x8).f3) ((rd_T23 x0 x8).f4) ((rd_T23 x0 x8).f5) ((rd_T23 x0 x8).f0) ((rd_T23 x0 x8).f1) ((rd_T23 x0 x8).f2) ((rd_T23 x0 x8).f3) ((rd_T23 x0 x8).f4) ((rd_T23 x0 x8).f5))) else (none)) else (none)) else (if x7 = true then (if 0 ≤ x8 then (if x8 < (x0.length : Int) then ((thalwegref02_Less.f k x235000 x235001 x235002 x235003 x235004 x235005 ((rd_T23 x0 x8).f0) ((rd_T23 x0 x8).f1) ((rd_T23 x0 x8).f2) ((rd_T23 x0 x8).f3) ((rd_T23 x0 x8).f4) ((rd_T23 x0 x8).f5)).bind fun t245 => (if t245 = true then (thalwegref02_Ends.l0 k x0 true (wrap64 (x8 + 1)) x234000 x234001 x234002 x234003 x234004 x234005 ((rd_T23 x0 x8).f0) ((rd_T23 x0 x8).f1) ((rd_T23 x0 x8).f2) ((rd_T23 x0 x8).f3) ((rd_T23 x0 x8).f4) ((rd_T23 x0 x8).f5)) else (thalwegref02_Ends.l0 k x0 true (wrap64 (x8 + 1)) x234000 x234001 x234002 x234003 x234004 x234005 x235000 x235001 x235002 x235003 x235004 x235005))) else (none)) else (none)) else (if 0 ≤ x8 then (if x8 < (x0.length : Int) then (thalwegref02_Ends.l0 k x0 true (wrap64 (x8 + 1)) x234000 x234001 x234002 x234003 x234004 x234005 ((rd_T23 x0 x8).f0) ((rd_T23 x0 x8).f1) ((rd_T23 x0 x8).f2) ((rd_T23 x0 x8).f3) ((rd_T23 x0 x8).f4) ((rd_T23 x0 x8).f5)) else (none)) else (none)))
end
def thalwegref02_Ends.f (k : Nat) (l0 : List (S23)) : Option (Bool × Int × Int × Int × Int × Int × Bool × Int × Int × Int × Int × Int × Bool) := thalwegref02_Ends.l0 k l0 false 0 false 0 0 0 0 0 false 0 0 0 0 0
theorem thalwegref02_Ends.mono_l : ∀ k, (∀ y0 y1 y2 y3 y4 y5 y6 y7 y8 y9 y10 y11 y12 y13 y14, LeO (thalwegref02_Ends.l0 k y0 y1 y2 y3 y4 y5 y6 y7 y8 y9 y10 y11 y12 y13 y14) (thalwegref02_Ends.l0 (k + 1) y0 y1 y2 y3 y4 y5 y6 y7 y8 y9 y10 y11 y12 y13 y14)) ∧ (∀ y0 y1 y2 y3 y4 y5 y6 y7 y8 y9 y10 y11 y12 y13 y14 y15, LeO (thalwegref02_Ends.j1 k y0 y1 y2 y3 y4 y5 y6 y7 y8 y9 y10 y11 y12 y13 y14 y15) (thalwegref02_Ends.j1 (k + 1) y0 y1 y2 y3 y4 y5 y6 y7 y8 y9 y10 y11 y12 y13 y14 y15))
  | 0 => ⟨fun _ _ _ _ _ _ _ _ _ _ _ _ _ _ _ r h => by simp [thalwegref02_Ends.l0] at h, fun _ _ _ _ _ _ _ _ _ _ _ _ _ _ _ _ r h => by simp [thalwegref02_Ends.j1] at h⟩
  | k + 1 => by
    obtain ⟨ih0, ih1⟩ := thalwegref02_Ends.mono_l k
    refine ⟨?_, ?_⟩
    · intro y0 y1 y2 y3 y4 y5 y6 y7 y8 y9 y10 y11 y12 y13 y14
      unfold thalwegref02_Ends.l0
      repeat' first
      | (with_reducible exact ih0 _ _ _ _ _ _ _ _ _ _ _ _ _ _ _)
      | (with_reducible exact ih1 _ _ _ _ _ _ _ _ _ _ _ _ _ _ _ _)
      | (with_reducible exact thalwegref02_Less.mono _ _ _ _ _ _ _ _ _ _ _ _ _)
      | (with_reducible exact thalwegref02_Told.mono _ _ _ _ _ _ _)
      | (with_reducible exact LeO.refl _)
      | (with_reducible exact LeO.none _)
      | (with_reducible refine LeO.ite ?_ ?_)
      | (with_reducible refine LeO.bind ?_ (fun _ => ?_))
      | exact ih0 _ _ _ _ _ _ _ _ _ _ _ _ _ _ _
      | exact ih1 _ _ _ _ _ _ _ _ _ _ _ _ _ _ _ _
      | exact thalwegref02_Less.mono _ _ _ _ _ _ _ _ _ _ _ _ _
      | exact thalwegref02_Told.mono _ _ _ _ _ _ _
      | exact LeO.none _
      | refine LeO.ite ?_ ?_
      | refine LeO.bind ?_ (fun _ => ?_)
    intro y0 y1 y2 y3 y4 y5 y6 y7 y8 y9 y10 y11 y12 y13 y14 y15
    unfold thalwegref02_Ends.j1
    repeat' first
    | (with_reducible exact ih0 _ _ _ _ _ _ _ _ _ _ _ _ _ _ _)
    | (with_reducible exact ih1 _ _ _ _ _ _ _ _ _ _ _ _ _ _ _ _)
    | (with_reducible exact thalwegref02_Less.mono _ _ _ _ _ _ _ _ _ _ _ _ _)
    | (with_reducible exact thalwegref02_Told.mono _ _ _ _ _ _ _)
    | (with_reducible exact LeO.refl _)
    | (with_reducible exact LeO.none _)
    | (with_reducible refine LeO.ite ?_ ?_)
    | (with_reducible refine LeO.bind ?_ (fun _ => ?_))
    | exact ih0 _ _ _ _ _ _ _ _ _ _ _ _ _ _ _
    | exact ih1 _ _ _ _ _ _ _ _ _ _ _ _ _ _ _ _
    | exact thalwegref02_Less.mono _ _ _ _ _ _ _ _ _ _ _ _ _
    | exact thalwegref02_Told.mono _ _ _ _ _ _ _
    | exact LeO.none _
    | refine LeO.ite ?_ ?_
    | refine LeO.bind ?_ (fun _ => ?_)
theorem thalwegref02_Ends.mono : ∀ a0 k, LeO (thalwegref02_Ends.f k a0) (thalwegref02_Ends.f (k + 1) a0) := by
  intro a0 k
  obtain ⟨ih0, ih1⟩ := thalwegref02_Ends.mono_l k
  unfold thalwegref02_Ends.f
  repeat' first
      | (with_reducible exact ih0 _ _ _ _ _ _ _ _ _ _ _ _ _ _ _)
      | (with_reducible exact ih1 _ _ _ _ _ _ _ _ _ _ _ _ _ _ _ _)
      | (with_reducible exact thalwegref02_Less.mono _ _ _ _ _ _ _ _ _ _ _ _ _)
      | (with_reducible exact thalwegref02_Told.mono _ _ _ _ _ _ _)
      | (with_reducible exact LeO.refl _)
      | (with_reducible exact LeO.none _)
      | (with_reducible refine LeO.ite ?_ ?_)
      | (with_reducible refine LeO.bind ?_ (fun _ => ?_))
      | exact ih0 _ _ _ _ _ _ _ _ _ _ _ _ _ _ _
      | exact ih1 _ _ _ _ _ _ _ _ _ _ _ _ _ _ _ _
      | exact thalwegref02_Less.mono _ _ _ _ _ _ _ _ _ _ _ _ _
      | exact thalwegref02_Told.mono _ _ _ _ _ _ _
      | exact LeO.none _
      | refine LeO.ite ?_ ?_
      | refine LeO.bind ?_ (fun _ => ?_)
def thalwegref02_Ends.T7 : Bool × List (List Nat × List Nat) := (true, [([], []), ([0], [0]), ([1], [1]), ([2], [2]), ([2], [2]), ([3, 4, 2], [2, 3, 4]), ([5, 2], [2, 5]), ([2], [2]), ([6, 7, 2, 2], [2, 6, 7]), ([2, 8], [2, 8])])
def thalwegref02_Ends.B7 : List Nat := [0, 1, 3, 7, 7, 31, 63, 7, 255, 511]
theorem thalwegref02_Ends.tab7 : rtab .any (opsOf Try.f26 7) = thalwegref02_Ends.T7 := by kernel_rfl
theorem thalwegref02_Ends.bits7 : waitsOk thalwegref02_Ends.T7.2 thalwegref02_Ends.B7 = true := by kernel_rfl
def thalwegref02_Ends.T9 : Bool × List (List Nat × List Nat) := (true, [([], []), ([0], [0]), ([1], [1]), ([2], [2]), ([2], [2]), ([2], [2]), ([4, 5, 2], [2, 4, 5]), ([6, 2], [2, 6]), ([3, 7, 2, 2], [2, 3, 7]), ([2, 8], [2, 8])])
def thalwegref02_Ends.B9 : List Nat := [0, 1, 3, 7, 7, 7, 55, 119, 255, 511]
theorem thalwegref02_Ends.tab9 : rtab .any (opsOf Try.f26 9) = thalwegref02_Ends.T9 := by kernel_rfl
theorem thalwegref02_Ends.bits9 : waitsOk thalwegref02_Ends.T9.2 thalwegref02_Ends.B9 = true := by kernel_rfl
set_option maxHeartbeats 8000000 in
set_option maxRecDepth 100000 in
theorem thalwegref02_Ends.calls (k : Nat) (A0 : Option Addr) (c0 : Nat) (l0 : List (S23)) (r1 : Bool) (r2 : Int) (r3 : Int) (r4 : Int) (r5 : Int) (r6 : Int) (r7 : Bool) (r8 : Int) (r9 : Int) (r10 : Int) (r11 : Int) (r12 : Int) (r13 : Bool) (w : World) (hr0 : Kd.C k23 w A0 l0.length l0) (hc0 : l0.length ≤ c0) (h : thalwegref02_Ends.f k l0 = some (r1, r2, r3, r4, r5, r6, r7, r8, r9, r10, r11, r12, r13)) :
    Calls Try.prog 26 #[.slice A0 l0.length c0] w fun e w' => e = .returned (.tuple #[.agg #[.bool r1, .int .i64 r2, .int .i64 r3, .int .i64 r4, .int .i64 r5, .int .i64 r6], .agg #[.bool r7, .int .i64 r8, .int .i64 r9, .int .i64 r10, .int .i64 r11, .int .i64 r12], .bool r13]) ∧ Below w.heap.size w w' := by
  have hu23 := Try.underlying23
  have HR0 := YL hr0; have HC0 := YL hc0; clear hr0 hc0
  have HB := YL (Below.refl w.heap.size w)
  have H : (thalwegref02_Ends.l0 k l0 false 0 false 0 0 0 0 0 false 0 0 0 0 0) = some (r1, r2, r3, r4, r5, r6, r7, r8, r9, r10, r11, r12, r13) := h
  clear h
  have H' := YL H
  clear H
  go_enter Try.func26, Try.ntmps26
  go_wp2_with (first | ((with_reducible refine gate_dst (N := 2) rfl ?_); refine box_event ?hg (N := 2) ?hd (cs := #[.bool false, .int .i64 0, .int .i64 0, .int .i64 0, .int .i64 0, .int .i64 0]) (t := 23) ?hr ?_; (case hd => rfl); (case hg => rfl); (case hr => first | (go_simp; done) | (go_simp; rfl)); intro gb231 hg w2 hbox hb; have n0_ := YL (YD (by repeat (first | (with_reducible first | exact HB.out | apply YA | apply YB | apply YC) | exact HB.out)) hb); have n1_ := YL (hbox); have n2_ := YL ((by rw [hg]; exact (YE (by repeat (first | (with_reducible first | exact HB.out | apply YA | apply YB | apply YC) | exact HB.out))) : w.heap.size ≤ gb231)); have n3_ := YL ((by rw [hg]; exact (YE (by repeat (first | (with_reducible first | exact HB.out | apply YA | apply YB | apply YC) | exact HB.out))) : w.heap.size ≤ gb231)); clear HB; have HB := n0_; have BK231 := n1_; have GW231 := n2_; have GE231 := n3_; clear n0_ n1_ n2_ n3_; clear hb hbox hg) | ((with_reducible refine gate_dst (N := 3) rfl ?_); refine box_event ?hg (N := 3) ?hd (cs := #[.bool false, .int .i64 0, .int .i64 0, .int .i64 0, .int .i64 0, .int .i64 0]) (t := 23) ?hr ?_; (case hd => rfl); (case hg => rfl); (case hr => first | (go_simp; done) | (go_simp; rfl)); intro gb232 hg w3 hbox hb; have n0_ := YL (YK (g := gb231) (o := .cells #[.bool false, .int .i64 0, .int .i64 0, .int .i64 0, .int .i64 0, .int .i64 0] 23 (0, 0)) (by (with_reducible repeat (first | refine YF ?_ _ | refine YG ?_ | refine YH ?_ _)); exact BK231.out) hb); have n1_ := YL (YD (by repeat (first | (with_reducible first | exact HB.out | apply YA | apply YB | apply YC | refine below_set ?_ GE231.out) | exact HB.out)) hb); have n2_ := YL (hbox); have n3_ := YL ((by rw [hg]; exact (YE (by repeat (first | (with_reducible first | exact HB.out | apply YA | apply YB | apply YC | refine below_set ?_ GE231.out) | exact HB.out))) : w.heap.size ≤ gb232)); have n4_ := YL ((by rw [hg]; exact (YE (by repeat (first | (with_reducible first | exact HB.out | apply YA | apply YB | apply YC | refine below_set ?_ GE231.out) | exact HB.out))) : w.heap.size ≤ gb232)); have n5_ := YL ((by rw [hg]; exact Nat.ne_of_lt (blk_lt (g := gb231) (o := .cells #[.bool false, .int .i64 0, .int .i64 0, .int .i64 0, .int .i64 0, .int .i64 0] 23 (0, 0)) (by (with_reducible repeat (first | refine YF ?_ _ | refine YG ?_ | refine YH ?_ _)); exact BK231.out)) : gb231 ≠ gb232)); have n6_ := YL ((by rw [hg]; exact Nat.ne_of_gt (blk_lt (g := gb231) (o := .cells #[.bool false, .int .i64 0, .int .i64 0, .int .i64 0, .int .i64 0, .int .i64 0] 23 (0, 0)) (by (with_reducible repeat (first | refine YF ?_ _ | refine YG ?_ | refine YH ?_ _)); exact BK231.out)) : gb232 ≠ gb231)); clear BK231; clear HB; have BK231 := n0_; have HB := n1_; have BK232 := n2_; have GW232 := n3_; have GE232 := n4_; have NB231_232 := n5_; have NB232_231 := n6_; clear n0_ n1_ n2_ n3_ n4_ n5_ n6_; clear hb hbox hg) | ((with_reducible refine gate_dst (N := 5) rfl ?_); refine box_event ?hg (N := 5) ?hd (cs := #[.bool false, .int .i64 0, .int .i64 0, .int .i64 0, .int .i64 0, .int .i64 0]) (t := 23) ?hr ?_; (case hd => rfl); (case hg => rfl); (case hr => first | (go_simp; done) | (go_simp; rfl)); intro gb233 hg w4 hbox hb; have n0_ := YL (YK (g := gb231) (o := .cells #[.bool false, .int .i64 0, .int .i64 0, .int .i64 0, .int .i64 0, .int .i64 0] 23 (0, 0)) (by (with_reducible repeat (first | refine YF ?_ _ | refine YG ?_ | refine YH ?_ _)); exact BK231.out) hb); have n1_ := YL (YK (g := gb232) (o := .cells #[.bool false, .int .i64 0, .int .i64 0, .int .i64 0, .int .i64 0, .int .i64 0] 23 (0, 0)) (by (with_reducible repeat (first | refine YF ?_ _ | refine YG ?_ | refine YH ?_ _)); exact BK232.out) hb); have n2_ := YL (YD (by repeat (first | (with_reducible first | exact HB.out | apply YA | apply YB | apply YC | refine below_set ?_ GE231.out | refine below_set ?_ GE232.out) | exact HB.out)) hb); have n3_ := YL (hbox); have n4_ := YL ((by rw [hg]; exact (YE (by repeat (first | (with_reducible first | exact HB.out | apply YA | apply YB | apply YC | refine below_set ?_ GE231.out | refine below_set ?_ GE232.out) | exact HB.out))) : w.heap.size ≤ gb233)); have n5_ := YL ((by rw [hg]; exact (YE (by repeat (first | (with_reducible first | exact HB.out | apply YA | apply YB | apply YC | refine below_set ?_ GE231.out | refine below_set ?_ GE232.out) | exact HB.out))) : w.heap.size ≤ gb233)); have n6_ := YL ((by rw [hg]; exact Nat.ne_of_lt (blk_lt (g := gb231) (o := .cells #[.bool false, .int .i64 0, .int .i64 0, .int .i64 0, .int .i64 0, .int .i64 0] 23 (0, 0)) (by (with_reducible repeat (first | refine YF ?_ _ | refine YG ?_ | refine YH ?_ _)); exact BK231.out)) : gb231 ≠ gb233)); have n7_ := YL ((by rw [hg]; exact Nat.ne_of_gt (blk_lt (g := gb231) (o := .cells #[.bool false, .int .i64 0, .int .i64 0, .int .i64 0, .int .i64 0, .int .i64 0] 23 (0, 0)) (by (with_reducible repeat (first | refine YF ?_ _ | refine YG ?_ | refine YH ?_ _)); exact BK231.out)) : gb233 ≠ gb231)); have n8_ := YL ((by rw [hg]; exact Nat.ne_of_lt (blk_lt (g := gb232) (o := .cells #[.bool false, .int .i64 0, .int .i64 0, .int .i64 0, .int .i64 0, .int .i64 0] 23 (0, 0)) (by (with_reducible repeat (first | refine YF ?_ _ | refine YG ?_ | refine YH ?_ _)); exact BK232.out)) : gb232 ≠ gb233)); have n9_ := YL ((by rw [hg]; exact Nat.ne_of_gt (blk_lt (g := gb232) (o := .cells #[.bool false, .int .i64 0, .int .i64 0, .int .i64 0, .int .i64 0, .int .i64 0] 23 (0, 0)) (by (with_reducible repeat (first | refine YF ?_ _ | refine YG ?_ | refine YH ?_ _)); exact BK232.out)) : gb233 ≠ gb232)); clear BK231; clear BK232; clear HB; have BK231 := n0_; have BK232 := n1_; have HB := n2_; have BK233 := n3_; have GW233 := n4_; have GE233 := n5_; have NB231_233 := n6_; have NB233_231 := n7_; have NB232_233 := n8_; have NB233_232 := n9_; clear n0_ n1_ n2_ n3_ n4_ n5_ n6_ n7_ n8_ n9_; clear hb hbox hg) | ((with_reducible refine gate_dst (N := 6) rfl ?_); refine box_event ?hg (N := 6) ?hd (cs := #[.bool false, .int .i64 0, .int .i64 0, .int .i64 0, .int .i64 0, .int .i64 0]) (t := 23) ?hr ?_; (case hd => rfl); (case hg => rfl); (case hr => first | (go_simp; done) | (go_simp; rfl)); intro gb234 hg w5 hbox hb; have n0_ := YL (YK (g := gb231) (o := .cells #[.bool false, .int .i64 0, .int .i64 0, .int .i64 0, .int .i64 0, .int .i64 0] 23 (0, 0)) (by (with_reducible repeat (first | refine YF ?_ _ | refine YG ?_ | refine YH ?_ _)); exact BK231.out) hb); have n1_ := YL (YK (g := gb232) (o := .cells #[.bool false, .int .i64 0, .int .i64 0, .int .i64 0, .int .i64 0, .int .i64 0] 23 (0, 0)) (by (with_reducible repeat (first | refine YF ?_ _ | refine YG ?_ | refine YH ?_ _)); exact BK232.out) hb); have n2_ := YL (YK (g := gb233) (o := .cells #[.bool false, .int .i64 0, .int .i64 0, .int .i64 0, .int .i64 0, .int .i64 0] 23 (0, 0)) (by (with_reducible repeat (first | refine YF ?_ _ | refine YG ?_ | refine YH ?_ _)); exact BK233.out) hb); have n3_ := YL (YD (by repeat (first | (with_reducible first | exact HB.out | apply YA | apply YB | apply YC | refine below_set ?_ GE231.out | refine below_set ?_ GE232.out | refine below_set ?_ GE233.out) | exact HB.out)) hb); have n4_ := YL (hbox); have n5_ := YL ((by rw [hg]; exact (YE (by repeat (first | (with_reducible first | exact HB.out | apply YA | apply YB | apply YC | refine below_set ?_ GE231.out | refine below_set ?_ GE232.out | refine below_set ?_ GE233.out) | exact HB.out))) : w.heap.size ≤ gb234)); have n6_ := YL ((by rw [hg]; exact (YE (by repeat (first | (with_reducible first | exact HB.out | apply YA | apply YB | apply YC | refine below_set ?_ GE231.out | refine below_set ?_ GE232.out | refine below_set ?_ GE233.out) | exact HB.out))) : w.heap.size ≤ gb234)); have n7_ := YL ((by rw [hg]; exact Nat.ne_of_lt (blk_lt (g := gb231) (o := .cells #[.bool false, .int .i64 0, .int .i64 0, .int .i64 0, .int .i64 0, .int .i64 0] 23 (0, 0)) (by (with_reducible repeat (first | refine YF ?_ _ | refine YG ?_ | refine YH ?_ _)); exact BK231.out)) : gb231 ≠ gb234)); have n8_ := YL ((by rw [hg]; exact Nat.ne_of_gt (blk_lt (g := gb231) (o := .cells #[.bool false, .int .i64 0, .int .i64 0, .int .i64 0, .int .i64 0, .int .i64 0] 23 (0, 0)) (by (with_reducible repeat (first | refine YF ?_ _ | refine YG ?_ | refine YH ?_ _)); exact BK231.out)) : gb234 ≠ gb231)); have n9_ := YL ((by rw [hg]; exact Nat.ne_of_lt (blk_lt (g := gb232) (o := .cells #[.bool false, .int .i64 0, .int .i64 0, .int .i64 0, .int .i64 0, .int .i64 0] 23 (0, 0)) (by (with_reducible repeat (first | refine YF ?_ _ | refine YG ?_ | refine YH ?_ _)); exact BK232.out)) : gb232 ≠ gb234)); have n10_ := YL ((by rw [hg]; exact Nat.ne_of_gt (blk_lt (g := gb232) (o := .cells #[.bool false, .int .i64 0, .int .i64 0, .int .i64 0, .int .i64 0, .int .i64 0] 23 (0, 0)) (by (with_reducible repeat (first | refine YF ?_ _ | refine YG ?_ | refine YH ?_ _)); exact BK232.out)) : gb234 ≠ gb232)); have n11_ := YL ((by rw [hg]; exact Nat.ne_of_lt (blk_lt (g := gb233) (o := .cells #[.bool false, .int .i64 0, .int .i64 0, .int .i64 0, .int .i64 0, .int .i64 0] 23 (0, 0)) (by (with_reducible repeat (first | refine YF ?_ _ | refine YG ?_ | refine YH ?_ _)); exact BK233.out)) : gb233 ≠ gb234)); have n12_ := YL ((by rw [hg]; exact Nat.ne_of_gt (blk_lt (g := gb233) (o := .cells #[.bool false, .int .i64 0, .int .i64 0, .int .i64 0, .int .i64 0, .int .i64 0] 23 (0, 0)) (by (with_reducible repeat (first | refine YF ?_ _ | refine YG ?_ | refine YH ?_ _)); exact BK233.out)) : gb234 ≠ gb233)); clear BK231; clear BK232; clear BK233; clear HB; have BK231 := n0_; have BK232 := n1_; have BK233 := n2_; have HB := n3_; have BK234 := n4_; have GW234 := n5_; have GE234 := n6_; have NB231_234 := n7_; have NB234_231 := n8_; have NB232_234 := n9_; have NB234_232 := n10_; have NB233_234 := n11_; have NB234_233 := n12_; clear n0_ n1_ n2_ n3_ n4_ n5_ n6_ n7_ n8_ n9_ n10_ n11_ n12_; clear hb hbox hg))
  go_loopg [7, 8] k (fun kq v7 v8 w' => ∃ (x7_1 : Bool) (x8_1 : Int) (x234000_1 : Bool) (x234001_1 : Int) (x234002_1 : Int) (x234003_1 : Int) (x234004_1 : Int) (x234005_1 : Int) (x235000_1 : Bool) (x235001_1 : Int) (x235002_1 : Int) (x235003_1 : Int) (x235004_1 : Int) (x235005_1 : Int), v7 = .bool x7_1 ∧ v8 = .int .i64 x8_1 ∧ Aside0 (thalwegref02_Ends.l0 kq l0 x7_1 x8_1 x234000_1 x234001_1 x234002_1 x234003_1 x234004_1 x234005_1 x235000_1 x235001_1 x235002_1 x235003_1 x235004_1 x235005_1 = some (r1, r2, r3, r4, r5, r6, r7, r8, r9, r10, r11, r12, r13)) ∧ Aside0 (kq ≤ k) ∧ Aside0 (w'.heap[gb231]? = some (.cells #[.bool false, .int .i64 0, .int .i64 0, .int .i64 0, .int .i64 0, .int .i64 0] 23 (0, 0))) ∧ Aside0 (w'.heap[gb232]? = some (.cells #[.bool false, .int .i64 0, .int .i64 0, .int .i64 0, .int .i64 0, .int .i64 0] 23 (0, 0))) ∧ Aside0 (w'.heap[gb233]? = some (.cells #[.bool x234000_1, .int .i64 x234001_1, .int .i64 x234002_1, .int .i64 x234003_1, .int .i64 x234004_1, .int .i64 x234005_1] 23 (0, 0))) ∧ Aside0 (w'.heap[gb234]? = some (.cells #[.bool x235000_1, .int .i64 x235001_1, .int .i64 x235002_1, .int .i64 x235003_1, .int .i64 x235004_1, .int .i64 x235005_1] 23 (0, 0))) ∧ Aside0 (Below w.heap.size w w'))
  case atStart => exact ⟨(false), (0), (false), (0), (0), (0), (0), (0), (false), (0), (0), (0), (0), (0), (by first | rfl | (simp; done) | (simp [*]; done)), (by first | rfl | (simp; done) | (simp [*]; done)), H', ⟨Nat.le_refl _⟩, ⟨by (with_reducible repeat (first | refine YF ?_ _ | refine YG ?_ | refine YH ?_ _)); exact BK231.out⟩, ⟨by (with_reducible repeat (first | refine YF ?_ _ | refine YG ?_ | refine YH ?_ _)); exact BK232.out⟩, ⟨by (with_reducible repeat (first | refine YF ?_ _ | refine YG ?_ | refine YH ?_ _)); exact BK233.out⟩, ⟨by (with_reducible repeat (first | refine YF ?_ _ | refine YG ?_ | refine YH ?_ _)); exact BK234.out⟩, ⟨by repeat (first | (with_reducible first | exact HB.out | apply YA | apply YB | apply YC | refine below_set ?_ GE231.out | refine below_set ?_ GE232.out | refine below_set ?_ GE233.out | refine below_set ?_ GE234.out) | exact HB.out)⟩⟩
  case round =>
    clear H'
    try clear c2
    try clear p2
    obtain ⟨x7_1, x8_1, x234000_1, x234001_1, x234002_1, x234003_1, x234004_1, x234005_1, x235000_1, x235001_1, x235002_1, x235003_1, x235004_1, x235005_1, rfl, rfl, HA, HK1, BK231, BK232, BK233, BK234, HB⟩ := hrel
    cases gk with
    | zero => exact absurd HA.out (by simp [thalwegref02_Ends.l0])
    | succ k1 =>
      have H := HA.out
      clear HA
      simp only [thalwegref02_Ends.l0] at H
      by_cases c6 : x8_1 < (l0.length : Int)
      · rw [if_pos c6] at H
        have c6b0 : decide (x8_1 < (l0.length : Int)) = true := decide_eq_true c6
        clear c6
        by_cases c7 : 0 ≤ x8_1
        rotate_left
        · rw [if_neg c7] at H
          exact absurd H (by simp)
        rw [if_pos c7] at H; have c7b0 : decide (0 ≤ x8_1) = true := decide_eq_true c7; clear c7; replace H := Option.bind_eq_some_iff.mp H; obtain ⟨t236, A80, H⟩ := H
        replace H : (if t236 = true then (if x7_1 = true then ((thalwegref02_Less.f k1 ((rd_T23 l0 x8_1).f0) ((rd_T23 l0 x8_1).f1) ((rd_T23 l0 x8_1).f2) ((rd_T23 l0 x8_1).f3) ((rd_T23 l0 x8_1).f4) ((rd_T23 l0 x8_1).f5) x234000_1 x234001_1 x234002_1 x234003_1 x234004_1 x234005_1).bind fun t238 => (thalwegref02_Ends.j1 k1 l0 true x8_1 t238 x234000_1 x234001_1 x234002_1 x234003_1 x234004_1 x234005_1 x235000_1 x235001_1 x235002_1 x235003_1 x235004_1 x235005_1)) else (thalwegref02_Ends.j1 k1 l0 false x8_1 true x234000_1 x234001_1 x234002_1 x234003_1 x234004_1 x234005_1 x235000_1 x235001_1 x235002_1 x235003_1 x235004_1 x235005_1)) else (thalwegref02_Ends.l0 k1 l0 x7_1 (wrap64 (x8_1 + 1)) x234000_1 x234001_1 x234002_1 x234003_1 x234004_1 x234005_1 x235000_1 x235001_1 x235002_1 x235003_1 x235004_1 x235005_1)) = some (r1, r2, r3, r4, r5, r6, r7, r8, r9, r10, r11, r12, r13) := H
        have A8 := YL A80; clear A80
        by_cases c9 : t236 = true
        · subst c9
          have H1 : (if x7_1 = true then ((thalwegref02_Less.f k1 ((rd_T23 l0 x8_1).f0) ((rd_T23 l0 x8_1).f1) ((rd_T23 l0 x8_1).f2) ((rd_T23 l0 x8_1).f3) ((rd_T23 l0 x8_1).f4) ((rd_T23 l0 x8_1).f5) x234000_1 x234001_1 x234002_1 x234003_1 x234004_1 x234005_1).bind fun t238 => (thalwegref02_Ends.j1 k1 l0 true x8_1 t238 x234000_1 x234001_1 x234002_1 x234003_1 x234004_1 x234005_1 x235000_1 x235001_1 x235002_1 x235003_1 x235004_1 x235005_1)) else (thalwegref02_Ends.j1 k1 l0 false x8_1 true x234000_1 x234001_1 x234002_1 x234003_1 x234004_1 x234005_1 x235000_1 x235001_1 x235002_1 x235003_1 x235004_1 x235005_1)) = some (r1, r2, r3, r4, r5, r6, r7, r8, r9, r10, r11, r12, r13) := by rw [if_pos rfl] at H; exact H
          clear H
          have H := H1
          clear H1; have HC10 := YL H; clear H
          have p235 : 0 ≤ (x8_1 : Int) := of_decide_eq_true (by first | (with_reducible assumption) | assumption)
          have q235 : x8_1 < (l0.length : Int) := of_decide_eq_true (by first | (with_reducible assumption) | assumption)
          obtain ⟨ad235, e235, hx235_0, hx235_1, hx235_2, hx235_3, hx235_4, hx235_5⟩ := at_T23 HR0.out x8_1 p235 q235
          cases e235
          replace hx235_0 := (HB.out.cell (World.block_lt_of_cell? w _ hx235_0)).trans hx235_0
          replace hx235_1 := (HB.out.cell (World.block_lt_of_cell? w _ hx235_1)).trans hx235_1
          replace hx235_2 := (HB.out.cell (World.block_lt_of_cell? w _ hx235_2)).trans hx235_2
          replace hx235_3 := (HB.out.cell (World.block_lt_of_cell? w _ hx235_3)).trans hx235_3
          replace hx235_4 := (HB.out.cell (World.block_lt_of_cell? w _ hx235_4)).trans hx235_4
          replace hx235_5 := (HB.out.cell (World.block_lt_of_cell? w _ hx235_5)).trans hx235_5
          replace p235 := eq_true p235
          replace q235 := eq_true q235
          go_upto_region 7 with (first | ((with_reducible refine gate_callee (f := 34) rfl ?_); refine goesL_ (some 19) rfl rfl Try.func34 (by kernel_rfl) rfl #[.agg #[.bool ((rd_T23 l0 x8_1).f0), .int .i64 ((rd_T23 l0 x8_1).f1), .int .i64 ((rd_T23 l0 x8_1).f2), .int .i64 ((rd_T23 l0 x8_1).f3), .int .i64 ((rd_T23 l0 x8_1).f4), .int .i64 ((rd_T23 l0 x8_1).f5)]] rfl (by (try simp only [YP, List.map_cons, List.map_nil]); first | done | rfl | (simp only [YR, YQ]; rfl)) ?_; (with_reducible refine (thalwegref02_Told.calls k1 ((rd_T23 l0 x8_1).f0) ((rd_T23 l0 x8_1).f1) ((rd_T23 l0 x8_1).f2) ((rd_T23 l0 x8_1).f3) ((rd_T23 l0 x8_1).f4) ((rd_T23 l0 x8_1).f5) true _ A8.out).mono ?_); rintro e w11 ⟨rfl, hb⟩; refine ⟨_, rfl, ?_⟩; have n0_ := YL (YK (g := gb231) (o := .cells #[.bool false, .int .i64 0, .int .i64 0, .int .i64 0, .int .i64 0, .int .i64 0] 23 (0, 0)) (by (with_reducible repeat (first | refine YF ?_ _ | refine YG ?_ | refine YH ?_ _)); exact BK231.out) hb); have n1_ := YL (YK (g := gb232) (o := .cells #[.bool false, .int .i64 0, .int .i64 0, .int .i64 0, .int .i64 0, .int .i64 0] 23 (0, 0)) (by (with_reducible repeat (first | refine YF ?_ _ | refine YG ?_ | refine YH ?_ _)); exact BK232.out) hb); have n2_ := YL (YK (g := gb233) (o := .cells #[.bool x234000_1, .int .i64 x234001_1, .int .i64 x234002_1, .int .i64 x234003_1, .int .i64 x234004_1, .int .i64 x234005_1] 23 (0, 0)) (by (with_reducible repeat (first | refine YF ?_ _ | refine YG ?_ | refine YH ?_ _)); exact BK233.out) hb); have n3_ := YL (YK (g := gb234) (o := .cells #[.bool x235000_1, .int .i64 x235001_1, .int .i64 x235002_1, .int .i64 x235003_1, .int .i64 x235004_1, .int .i64 x235005_1] 23 (0, 0)) (by (with_reducible repeat (first | refine YF ?_ _ | refine YG ?_ | refine YH ?_ _)); exact BK234.out) hb); have n4_ := YL (YD (by repeat (first | (with_reducible first | exact HB.out | apply YA | apply YB | apply YC | refine below_set ?_ GE231.out | refine below_set ?_ GE232.out | refine below_set ?_ GE233.out | refine below_set ?_ GE234.out) | exact HB.out)) hb); clear BK231; clear BK232; clear BK233; clear BK234; clear HB; have BK231 := n0_; have BK232 := n1_; have BK233 := n2_; have BK234 := n3_; have HB := n4_; clear n0_ n1_ n2_ n3_ n4_; (try clear hb); (try clear hb2); (try clear hk); (try clear hi)))
          (try simp only [Act.put, YM, YN, YO])
          go_cut [30] (fun v30 wc => ∃ (kq : Nat) (x30_9 : Bool), v30 = .bool x30_9 ∧ Aside0 (thalwegref02_Ends.j1 kq l0 x7_1 x8_1 x30_9 x234000_1 x234001_1 x234002_1 x234003_1 x234004_1 x234005_1 x235000_1 x235001_1 x235002_1 x235003_1 x235004_1 x235005_1 = some (r1, r2, r3, r4, r5, r6, r7, r8, r9, r10, r11, r12, r13)) ∧ Aside0 (kq ≤ k1) ∧ Aside0 (wc.heap[gb231]? = some (.cells #[.bool false, .int .i64 0, .int .i64 0, .int .i64 0, .int .i64 0, .int .i64 0] 23 (0, 0))) ∧ Aside0 (wc.heap[gb232]? = some (.cells #[.bool false, .int .i64 0, .int .i64 0, .int .i64 0, .int .i64 0, .int .i64 0] 23 (0, 0))) ∧ Aside0 (wc.heap[gb233]? = some (.cells #[.bool x234000_1, .int .i64 x234001_1, .int .i64 x234002_1, .int .i64 x234003_1, .int .i64 x234004_1, .int .i64 x234005_1] 23 (0, 0))) ∧ Aside0 (wc.heap[gb234]? = some (.cells #[.bool x235000_1, .int .i64 x235001_1, .int .i64 x235002_1, .int .i64 x235003_1, .int .i64 x235004_1, .int .i64 x235005_1] 23 (0, 0))) ∧ Aside0 (Below w.heap.size w wc))
          case first =>
            have H := HC10.out
            clear HC10
            by_cases c12 : x7_1 = true
            · subst c12
              have H1 : ((thalwegref02_Less.f k1 ((rd_T23 l0 x8_1).f0) ((rd_T23 l0 x8_1).f1) ((rd_T23 l0 x8_1).f2) ((rd_T23 l0 x8_1).f3) ((rd_T23 l0 x8_1).f4) ((rd_T23 l0 x8_1).f5) x234000_1 x234001_1 x234002_1 x234003_1 x234004_1 x234005_1).bind fun t238 => (thalwegref02_Ends.j1 k1 l0 true x8_1 t238 x234000_1 x234001_1 x234002_1 x234003_1 x234004_1 x234005_1 x235000_1 x235001_1 x235002_1 x235003_1 x235004_1 x235005_1)) = some (r1, r2, r3, r4, r5, r6, r7, r8, r9, r10, r11, r12, r13) := by rw [if_pos rfl] at H; exact H
              clear H
              have H := H1
              clear H1; replace H := Option.bind_eq_some_iff.mp H; obtain ⟨t238, A130, H⟩ := H
              replace H : (thalwegref02_Ends.j1 k1 l0 true x8_1 t238 x234000_1 x234001_1 x234002_1 x234003_1 x234004_1 x234005_1 x235000_1 x235001_1 x235002_1 x235003_1 x235004_1 x235005_1) = some (r1, r2, r3, r4, r5, r6, r7, r8, r9, r10, r11, r12, r13) := H
              have A13 := YL A130; clear A130
              have H' := YL H
              clear H
              try go_wp2
              have n0_ := YL (YG BK231.out)
              have n1_ := YL (YG BK232.out)
              have n2_ := YL (YG BK233.out)
              have n3_ := YL (YG BK234.out)
              have n4_ := YL (YC HB.out)
              clear BK231; clear BK232; clear BK233; clear BK234; clear HB; have BK231 := n0_; have BK232 := n1_; have BK233 := n2_; have BK234 := n3_; have HB := n4_; clear n0_ n1_ n2_ n3_ n4_
              have p237 : 0 ≤ (x8_1 : Int) := of_decide_eq_true (by first | (with_reducible assumption) | assumption)
              have q237 : x8_1 < (l0.length : Int) := of_decide_eq_true (by first | (with_reducible assumption) | assumption)
              obtain ⟨ad237, e237, hx237_0, hx237_1, hx237_2, hx237_3, hx237_4, hx237_5⟩ := at_T23 HR0.out x8_1 p237 q237
              have hw237_5 := hx237_5
              have hw237_4 := hx237_4
              have hw237_3 := hx237_3
              have hw237_2 := hx237_2
              have hw237_1 := hx237_1
              have hw237_0 := hx237_0
              obtain rfl : ad235 = ad237 := (by injection e237)
              replace hx237_0 := (HB.out.cell (World.block_lt_of_cell? w _ hx237_0)).trans hx237_0
              replace hx237_1 := (HB.out.cell (World.block_lt_of_cell? w _ hx237_1)).trans hx237_1
              replace hx237_2 := (HB.out.cell (World.block_lt_of_cell? w _ hx237_2)).trans hx237_2
              replace hx237_3 := (HB.out.cell (World.block_lt_of_cell? w _ hx237_3)).trans hx237_3
              replace hx237_4 := (HB.out.cell (World.block_lt_of_cell? w _ hx237_4)).trans hx237_4
              replace hx237_5 := (HB.out.cell (World.block_lt_of_cell? w _ hx237_5)).trans hx237_5
              replace p237 := eq_true p237
              replace q237 := eq_true q237
              refine start_ (n := 10) (S := fun w' => w'.cell? ⟨gb233, 0, none⟩ = some (.bool x234000_1) ∧ w'.cell? ⟨gb233, 1, none⟩ = some (.int .i64 x234001_1) ∧ w'.cell? ⟨gb233, 2, none⟩ = some (.int .i64 x234002_1) ∧ w'.cell? ⟨gb233, 3, none⟩ = some (.int .i64 x234003_1) ∧ w'.cell? ⟨gb233, 4, none⟩ = some (.int .i64 x234004_1) ∧ w'.cell? ⟨gb233, 5, none⟩ = some (.int .i64 x234005_1) ∧ w'.cell? (ad235.add ((x8_1).toNat * 6)) = some (.bool ((rd_T23 l0 x8_1).f0)) ∧ w'.cell? ⟨(ad235.add ((x8_1).toNat * 6)).block, (ad235.add ((x8_1).toNat * 6)).off + 1, none⟩ = some (.int .i64 ((rd_T23 l0 x8_1).f1)) ∧ w'.cell? ⟨(ad235.add ((x8_1).toNat * 6)).block, (ad235.add ((x8_1).toNat * 6)).off + 2, none⟩ = some (.int .i64 ((rd_T23 l0 x8_1).f2)) ∧ w'.cell? ⟨(ad235.add ((x8_1).toNat * 6)).block, (ad235.add ((x8_1).toNat * 6)).off + 3, none⟩ = some (.int .i64 ((rd_T23 l0 x8_1).f3)) ∧ w'.cell? ⟨(ad235.add ((x8_1).toNat * 6)).block, (ad235.add ((x8_1).toNat * 6)).off + 4, none⟩ = some (.int .i64 ((rd_T23 l0 x8_1).f4)) ∧ w'.cell? ⟨(ad235.add ((x8_1).toNat * 6)).block, (ad235.add ((x8_1).toNat * 6)).off + 5, none⟩ = some (.int .i64 ((rd_T23 l0 x8_1).f5))) (ds := []) #[false, false, false, false, false, false, false, false, false, false] (by kernel_rfl) rfl rfl ⟨(YI BK233.out 0).trans rfl, (YI BK233.out 1).trans rfl, (YI BK233.out 2).trans rfl, (YI BK233.out 3).trans rfl, (YI BK233.out 4).trans rfl, (YI BK233.out 5).trans rfl, ((HB.out.cell (World.block_lt_of_cell? w _ hw237_0)).trans hw237_0), ((HB.out.cell (World.block_lt_of_cell? w _ hw237_1)).trans hw237_1), ((HB.out.cell (World.block_lt_of_cell? w _ hw237_2)).trans hw237_2), ((HB.out.cell (World.block_lt_of_cell? w _ hw237_3)).trans hw237_3), ((HB.out.cell (World.block_lt_of_cell? w _ hw237_4)).trans hw237_4), ((HB.out.cell (World.block_lt_of_cell? w _ hw237_5)).trans hw237_5)⟩ (fun hHeld => ?_); refine with_tabW thalwegref02_Ends.tab7 thalwegref02_Ends.bits7 (fun HT_ HW_ => ?_)
              generalize w11.drew = w14 at BK231 BK232 BK233 BK234 HB hx237_0 hx237_1 hx237_2 hx237_3 hx237_4 hx237_5 hHeld ⊢
              refine pure_ (i := 0) (N := some 21) (v := ?_) (a' := ?_) #[true, false, false, false, false, false, false, false, false, false] rfl rfl (any_of HT_.out (by kernel_rfl)) (fun _ _ _ h => h) (Or.inl ⟨by rfl, ?_⟩) ?_ ?_
              rotate_left
              · intro w'
                go_simp; with_reducible rfl
              rotate_left
              · simp only [Act.put, YM, YN, YO, i64_w, i32_w]
                rfl
              refine pure_ (i := 1) (N := some 22) (v := ?_) (a' := ?_) #[true, true, false, false, false, false, false, false, false, false] rfl rfl (any_of HT_.out (by kernel_rfl)) (fun _ _ _ h => h) (Or.inl ⟨by rfl, ?_⟩) ?_ ?_
              rotate_left
              · intro w'
                go_simp; with_reducible rfl
              rotate_left
              · simp only [Act.put, YM, YN, YO, i64_w, i32_w]
                rfl
              refine pure_ (i := 2) (N := some 23) (v := ?_) (a' := ?_) #[true, true, true, false, false, false, false, false, false, false] rfl rfl (any_of HT_.out (by kernel_rfl)) (fun _ _ _ h => h) (Or.inl ⟨by rfl, ?_⟩) ?_ ?_
              rotate_left
              · intro w'
                go_simp; with_reducible rfl
              rotate_left
              · simp only [Act.put, YM, YN, YO, i64_w, i32_w]
                rfl
              refine pure_ (i := 3) (N := some 24) (v := ?_) (a' := ?_) #[true, true, true, true, false, false, false, false, false, false] rfl rfl (any_of HT_.out (by kernel_rfl)) (fun _ _ _ h => h) (Or.inl ⟨by rfl, ?_⟩) ?_ ?_
              rotate_left
              · intro w'
                go_simp; with_reducible rfl
              rotate_left
              · simp only [Act.put, YM, YN, YO, i64_w, i32_w]
                rfl
              refine pure_ (i := 4) (N := some 25) (v := ?_) (a' := ?_) #[true, true, true, true, true, false, false, false, false, false] rfl rfl (any_of HT_.out (by kernel_rfl)) (fun _ _ _ h => h) (Or.inl ⟨by rfl, ?_⟩) ?_ ?_
              rotate_left
              · intro w'
                go_simp; with_reducible rfl
              rotate_left
              · simp only [Act.put, YM, YN, YO, i64_w, i32_w]
                rfl
              refine pure_ (i := 5) (N := some 26) (v := ?_) (a' := ?_) #[true, true, true, true, true, true, false, false, false, false] rfl rfl (any_of HT_.out (by kernel_rfl)) (fun _ _ _ h => h) (Or.inl ⟨by rfl, ?_⟩) ?_ ?_
              rotate_left
              · intro w'
                go_simp; with_reducible rfl
              rotate_left
              · simp only [Act.put, YM, YN, YO, i64_w, i32_w]
                rfl
              refine take_ (i := 6) (N := some 27) (v := ?_) (a' := ?_) #[true, true, true, true, true, true, true, false, false, false] rfl rfl (take_ofW HT_.out HW_.out (by kernel_rfl)) (fun _ _ _ h => h) (Or.inl ⟨by rfl, ?_⟩) hHeld ?_ ?_
              rotate_left
              · rintro w' ⟨s0, s1, s2, s3, s4, s5, s6, s7, s8, s9, s10, s11⟩
                go_simp; with_reducible rfl
              rotate_left
              · simp only [Act.put, YM, YN, YO, i64_w, i32_w]
                rfl
              refine take_ (i := 7) (N := some 28) (v := ?_) (a' := ?_) #[true, true, true, true, true, true, true, true, false, false] rfl rfl (take_ofW HT_.out HW_.out (by kernel_rfl)) (fun _ _ _ h => h) (Or.inl ⟨by rfl, ?_⟩) hHeld ?_ ?_
              rotate_left
              · rintro w' ⟨s0, s1, s2, s3, s4, s5, s6, s7, s8, s9, s10, s11⟩
                go_simp; with_reducible rfl
              rotate_left
              · simp only [Act.put, YM, YN, YO, i64_w, i32_w]
                rfl
              refine one_ (i := 8) (N := some 29) #[true, true, true, true, true, true, true, true, true, false] rfl rfl (one_of HT_.out (by kernel_rfl)) (by decide) (fun K hK => ?_)
              refine goes_ Try.func15 (by kernel_rfl) rfl #[.agg #[.bool ((rd_T23 l0 x8_1).f0), .int .i64 ((rd_T23 l0 x8_1).f1), .int .i64 ((rd_T23 l0 x8_1).f2), .int .i64 ((rd_T23 l0 x8_1).f3), .int .i64 ((rd_T23 l0 x8_1).f4), .int .i64 ((rd_T23 l0 x8_1).f5)], .agg #[.bool x234000_1, .int .i64 x234001_1, .int .i64 x234002_1, .int .i64 x234003_1, .int .i64 x234004_1, .int .i64 x234005_1]] (by rfl) rfl rfl (by (try simp only [YP, List.map_cons, List.map_nil]); first | done | rfl | (simp only [YR, YQ]; rfl)) ?_
              with_reducible refine (thalwegref02_Less.calls k1 ((rd_T23 l0 x8_1).f0) ((rd_T23 l0 x8_1).f1) ((rd_T23 l0 x8_1).f2) ((rd_T23 l0 x8_1).f3) ((rd_T23 l0 x8_1).f4) ((rd_T23 l0 x8_1).f5) x234000_1 x234001_1 x234002_1 x234003_1 x234004_1 x234005_1 t238 _ A13.out).mono ?_
              rintro e w15 ⟨rfl, hb⟩
              refine ⟨_, rfl, ?_⟩
              have n0_ := YL (YK (g := gb231) (o := .cells #[.bool false, .int .i64 0, .int .i64 0, .int .i64 0, .int .i64 0, .int .i64 0] 23 (0, 0)) (by (with_reducible repeat (first | refine YF ?_ _ | refine YG ?_ | refine YH ?_ _)); exact BK231.out) hb)
              have n1_ := YL (YK (g := gb232) (o := .cells #[.bool false, .int .i64 0, .int .i64 0, .int .i64 0, .int .i64 0, .int .i64 0] 23 (0, 0)) (by (with_reducible repeat (first | refine YF ?_ _ | refine YG ?_ | refine YH ?_ _)); exact BK232.out) hb)
              have n2_ := YL (YK (g := gb233) (o := .cells #[.bool x234000_1, .int .i64 x234001_1, .int .i64 x234002_1, .int .i64 x234003_1, .int .i64 x234004_1, .int .i64 x234005_1] 23 (0, 0)) (by (with_reducible repeat (first | refine YF ?_ _ | refine YG ?_ | refine YH ?_ _)); exact BK233.out) hb)
              have n3_ := YL (YK (g := gb234) (o := .cells #[.bool x235000_1, .int .i64 x235001_1, .int .i64 x235002_1, .int .i64 x235003_1, .int .i64 x235004_1, .int .i64 x235005_1] 23 (0, 0)) (by (with_reducible repeat (first | refine YF ?_ _ | refine YG ?_ | refine YH ?_ _)); exact BK234.out) hb)
              have n4_ := YL (YD (by repeat (first | (with_reducible first | exact HB.out | apply YA | apply YB | apply YC | refine below_set ?_ GE231.out | refine below_set ?_ GE232.out | refine below_set ?_ GE233.out | refine below_set ?_ GE234.out) | exact HB.out)) hb)
              clear BK231; clear BK232; clear BK233; clear BK234; clear HB; have BK231 := n0_; have BK232 := n1_; have BK233 := n2_; have BK234 := n3_; have HB := n4_; clear n0_ n1_ n2_ n3_ n4_; (try clear hb); (try clear hb2); (try clear hk); (try clear hi)
              refine hK.out _ _ ⟨(YI BK233.out 0).trans rfl, (YI BK233.out 1).trans rfl, (YI BK233.out 2).trans rfl, (YI BK233.out 3).trans rfl, (YI BK233.out 4).trans rfl, (YI BK233.out 5).trans rfl, ((HB.out.cell (World.block_lt_of_cell? w _ hw237_0)).trans hw237_0), ((HB.out.cell (World.block_lt_of_cell? w _ hw237_1)).trans hw237_1), ((HB.out.cell (World.block_lt_of_cell? w _ hw237_2)).trans hw237_2), ((HB.out.cell (World.block_lt_of_cell? w _ hw237_3)).trans hw237_3), ((HB.out.cell (World.block_lt_of_cell? w _ hw237_4)).trans hw237_4), ((HB.out.cell (World.block_lt_of_cell? w _ hw237_5)).trans hw237_5)⟩ (fun hHeld => ?_)
              clear hK K
              refine norm_ (a' := ?_) ?_ ?_
              rotate_left
              · show Act.put _ (some 29) _ = _
                simp only [Act.put, YM, YN, YO, i64_w, i32_w]
                rfl
              refine pure_ (i := 9) (N := some 30) (v := ?_) (a' := ?_) #[true, true, true, true, true, true, true, true, true, true] rfl rfl (any_of HT_.out (by kernel_rfl)) (fun _ _ _ h => h) (Or.inl ⟨by rfl, ?_⟩) ?_ ?_
              rotate_left
              · intro w'
                go_simp; with_reducible rfl
              rotate_left
              · simp only [Act.put, YM, YN, YO, i64_w, i32_w]
                rfl
              refine done_ (done_of HT_.out (by kernel_rfl)) ?_
              try go_wp2
              go_meet
              case rel => exact ⟨_, (t238), (by first | rfl | (simp; done) | (simp [*]; done)), H', ⟨by have := HK1.out; first | omega | exact Nat.le_refl _⟩, ⟨by (with_reducible repeat (first | refine YF ?_ _ | refine YG ?_ | refine YH ?_ _)); exact BK231.out⟩, ⟨by (with_reducible repeat (first | refine YF ?_ _ | refine YG ?_ | refine YH ?_ _)); exact BK232.out⟩, ⟨by (with_reducible repeat (first | refine YF ?_ _ | refine YG ?_ | refine YH ?_ _)); exact BK233.out⟩, ⟨by (with_reducible repeat (first | refine YF ?_ _ | refine YG ?_ | refine YH ?_ _)); exact BK234.out⟩, ⟨by repeat (first | (with_reducible first | exact HB.out | apply YA | apply YB | apply YC | refine below_set ?_ GE231.out | refine below_set ?_ GE232.out | refine below_set ?_ GE233.out | refine below_set ?_ GE234.out) | exact HB.out)⟩⟩
            replace c12 := Bool.eq_false_iff.mpr c12
            subst c12
            have H1 : (thalwegref02_Ends.j1 k1 l0 false x8_1 true x234000_1 x234001_1 x234002_1 x234003_1 x234004_1 x234005_1 x235000_1 x235001_1 x235002_1 x235003_1 x235004_1 x235005_1) = some (r1, r2, r3, r4, r5, r6, r7, r8, r9, r10, r11, r12, r13) := by rw [if_neg (show ¬ (false = true) by decide)] at H; exact H
            clear H
            have H := H1
            clear H1
            have H' := YL H
            clear H
            try go_wp2
            have n0_ := YL (YG BK231.out)
            have n1_ := YL (YG BK232.out)
            have n2_ := YL (YG BK233.out)
            have n3_ := YL (YG BK234.out)
            have n4_ := YL (YC HB.out)
            clear BK231; clear BK232; clear BK233; clear BK234; clear HB; have BK231 := n0_; have BK232 := n1_; have BK233 := n2_; have BK234 := n3_; have HB := n4_; clear n0_ n1_ n2_ n3_ n4_
            refine start_ (n := 10) (S := fun w' => True) (ds := []) #[false, false, false, false, false, false, false, false, false, false] (by kernel_rfl) rfl rfl trivial (fun hHeld => ?_); refine with_tabW thalwegref02_Ends.tab7 thalwegref02_Ends.bits7 (fun HT_ HW_ => ?_)
            generalize w11.drew = w16 at BK231 BK232 BK233 BK234 HB hHeld ⊢
            refine pure_ (i := 0) (N := some 21) (v := ?_) (a' := ?_) #[true, false, false, false, false, false, false, false, false, false] rfl rfl (any_of HT_.out (by kernel_rfl)) (fun _ _ _ h => h) (Or.inl ⟨by rfl, ?_⟩) ?_ ?_
            rotate_left
            · intro w'
              go_simp; with_reducible rfl
            rotate_left
            · simp only [Act.put, YM, YN, YO, i64_w, i32_w]
              rfl
            refine pure_ (i := 1) (N := some 22) (v := ?_) (a' := ?_) #[true, true, false, false, false, false, false, false, false, false] rfl rfl (any_of HT_.out (by kernel_rfl)) (fun _ _ _ h => h) (Or.inl ⟨by rfl, ?_⟩) ?_ ?_
            rotate_left
            · intro w'
              go_simp; with_reducible rfl
            rotate_left
            · simp only [Act.put, YM, YN, YO, i64_w, i32_w]
              rfl
            refine pure_ (i := 2) (N := some 23) (v := ?_) (a' := ?_) #[true, true, true, false, false, false, false, false, false, false] rfl rfl (any_of HT_.out (by kernel_rfl)) (fun _ _ _ h => h) (Or.inl ⟨by rfl, ?_⟩) ?_ ?_
            rotate_left
            · intro w'
              go_simp; with_reducible rfl
            rotate_left
            · simp only [Act.put, YM, YN, YO, i64_w, i32_w]
              rfl
            refine pure_ (i := 3) (N := some 24) (v := undef) (a' := ?_) #[true, true, true, true, false, false, false, false, false, false] rfl rfl (any_of HT_.out (by kernel_rfl)) (fun _ _ _ h => h) (Or.inr ⟨by rfl, rfl⟩) ?_ ?_
            rotate_left
            · simp only [Act.put, YM, YN, YO, i64_w, i32_w]
              rfl
            refine pure_ (i := 4) (N := some 25) (v := undef) (a' := ?_) #[true, true, true, true, true, false, false, false, false, false] rfl rfl (any_of HT_.out (by kernel_rfl)) (fun _ _ _ h => h) (Or.inr ⟨by rfl, rfl⟩) ?_ ?_
            rotate_left
            · simp only [Act.put, YM, YN, YO, i64_w, i32_w]
              rfl
            refine pure_ (i := 5) (N := some 26) (v := undef) (a' := ?_) #[true, true, true, true, true, true, false, false, false, false] rfl rfl (any_of HT_.out (by kernel_rfl)) (fun _ _ _ h => h) (Or.inr ⟨by rfl, rfl⟩) ?_ ?_
            rotate_left
            · simp only [Act.put, YM, YN, YO, i64_w, i32_w]
              rfl
            refine pure_ (i := 6) (N := some 27) (v := undef) (a' := ?_) #[true, true, true, true, true, true, true, false, false, false] rfl rfl (any_of HT_.out (by kernel_rfl)) (fun _ _ _ h => h) (Or.inr ⟨by rfl, rfl⟩) ?_ ?_
            rotate_left
            · simp only [Act.put, YM, YN, YO, i64_w, i32_w]
              rfl
            refine pure_ (i := 7) (N := some 28) (v := undef) (a' := ?_) #[true, true, true, true, true, true, true, true, false, false] rfl rfl (any_of HT_.out (by kernel_rfl)) (fun _ _ _ h => h) (Or.inr ⟨by rfl, rfl⟩) ?_ ?_
            rotate_left
            · simp only [Act.put, YM, YN, YO, i64_w, i32_w]
              rfl
            refine pure_ (i := 8) (N := some 29) (v := undef) (a' := ?_) #[true, true, true, true, true, true, true, true, true, false] rfl rfl (any_of HT_.out (by kernel_rfl)) (fun _ _ _ h => h) (Or.inr ⟨by rfl, rfl⟩) ?_ ?_
            rotate_left
            · simp only [Act.put, YM, YN, YO, i64_w, i32_w]
              rfl
            refine pure_ (i := 9) (N := some 30) (v := ?_) (a' := ?_) #[true, true, true, true, true, true, true, true, true, true] rfl rfl (any_of HT_.out (by kernel_rfl)) (fun _ _ _ h => h) (Or.inl ⟨by rfl, ?_⟩) ?_ ?_
            rotate_left
            · intro w'
              go_simp; with_reducible rfl
            rotate_left
            · simp only [Act.put, YM, YN, YO, i64_w, i32_w]
              rfl
            refine done_ (done_of HT_.out (by kernel_rfl)) ?_
            try go_wp2
            go_meet
            case rel => exact ⟨_, (true), (by first | rfl | (simp; done) | (simp [*]; done)), H', ⟨by have := HK1.out; first | omega | exact Nat.le_refl _⟩, ⟨by (with_reducible repeat (first | refine YF ?_ _ | refine YG ?_ | refine YH ?_ _)); exact BK231.out⟩, ⟨by (with_reducible repeat (first | refine YF ?_ _ | refine YG ?_ | refine YH ?_ _)); exact BK232.out⟩, ⟨by (with_reducible repeat (first | refine YF ?_ _ | refine YG ?_ | refine YH ?_ _)); exact BK233.out⟩, ⟨by (with_reducible repeat (first | refine YF ?_ _ | refine YG ?_ | refine YH ?_ _)); exact BK234.out⟩, ⟨by repeat (first | (with_reducible first | exact HB.out | apply YA | apply YB | apply YC | refine below_set ?_ GE231.out | refine below_set ?_ GE232.out | refine below_set ?_ GE233.out | refine below_set ?_ GE234.out) | exact HB.out)⟩⟩
          case rest =>
            clear HC10
            try clear c1
            try clear c2
            try clear p2
            try clear q2
            try clear hx2
            try clear c3
            try clear c6
            try clear c6b0
            try clear p6
            try clear c7
            try clear c7b0
            try clear c9
            try clear c12
            try clear c15
            try clear hx235_0
            try clear hx235_1
            try clear hx235_2
            try clear hx235_3
            try clear hx235_4
            try clear hx235_5
            try clear hx237_0
            try clear hx237_1
            try clear hx237_2
            try clear hx237_3
            try clear hx237_4
            try clear hx237_5
            try clear p2
            try clear p235
            try clear p237
            try clear q235
            try clear q237
            obtain ⟨kq, x30_9, rfl, HA, HJ9, BK231, BK232, BK233, BK234, HB⟩ := hcut
            cases kq with
            | zero => exact absurd HA.out (by simp [thalwegref02_Ends.j1])
            | succ kj9 =>
              have H := HA.out
              clear HA
              simp only [thalwegref02_Ends.j1] at H
              by_cases c17 : x30_9 = true
              · subst c17
                have H1 : (if 0 ≤ x8_1 then (if x8_1 < (l0.length : Int) then (if x7_1 = true then ((thalwegref02_Less.f kj9 x235000_1 x235001_1 x235002_1 x235003_1 x235004_1 x235005_1 ((rd_T23 l0 x8_1).f0) ((rd_T23 l0 x8_1).f1) ((rd_T23 l0 x8_1).f2) ((rd_T23 l0 x8_1).f3) ((rd_T23 l0 x8_1).f4) ((rd_T23 l0 x8_1).f5)).bind fun t241 => (if t241 = true then (thalwegref02_Ends.l0 kj9 l0 true (wrap64 (x8_1 + 1)) ((rd_T23 l0 x8_1).f0) ((rd_T23 l0 x8_1).f1) ((rd_T23 l0 x8_1).f2) ((rd_T23 l0 x8_1).f3) ((rd_T23 l0 x8_1).f4) ((rd_T23 l0 x8_1).f5) ((rd_T23 l0 x8_1).f0) ((rd_T23 l0 x8_1).f1) ((rd_T23 l0 x8_1).f2) ((rd_T23 l0 x8_1).f3) ((rd_T23 l0 x8_1).f4) ((rd_T23 l0 x8_1).f5)) else (thalwegref02_Ends.l0 kj9 l0 true (wrap64 (x8_1 + 1)) ((rd_T23 l0 x8_1).f0) ((rd_T23 l0 x8_1).f1) ((rd_T23 l0 x8_1).f2) ((rd_T23 l0 x8_1).f3) ((rd_T23 l0 x8_1).f4) ((rd_T23 l0 x8_1).f5) x235000_1 x235001_1 x235002_1 x235003_1 x235004_1 x235005_1))) else (thalwegref02_Ends.l0 kj9 l0 true (wrap64 (x8_1 + 1)) ((rd_T23 l0 x8_1).f0) ((rd_T23 l0 x8_1).f1) ((rd_T23 l0 x8_1).f2) ((rd_T23 l0 x8_1).f3) ((rd_T23 l0 x8_1).f4) ((rd_T23 l0 x8_1).f5) ((rd_T23 l0 x8_1).f0) ((rd_T23 l0 x8_1).f1) ((rd_T23 l0 x8_1).f2) ((rd_T23 l0 x8_1).f3) ((rd_T23 l0 x8_1).f4) ((rd_T23 l0 x8_1).f5))) else (none)) else (none)) = some (r1, r2, r3, r4, r5, r6, r7, r8, r9, r10, r11, r12, r13) := by rw [if_pos rfl] at H; exact H
                clear H
                have H := H1
                clear H1
                by_cases c18 : 0 ≤ x8_1
                rotate_left
                · rw [if_neg c18] at H
                  exact absurd H (by simp)
                rw [if_pos c18] at H; have c18b0 : decide (0 ≤ x8_1) = true := decide_eq_true c18; clear c18
                by_cases c19 : x8_1 < (l0.length : Int)
                rotate_left
                · rw [if_neg c19] at H
                  exact absurd H (by simp)
                rw [if_pos c19] at H
                have c19b0 : decide (x8_1 < (l0.length : Int)) = true := decide_eq_true c19
                clear c19
                by_cases c20 : x7_1 = true
                · subst c20
                  have H1 : ((thalwegref02_Less.f kj9 x235000_1 x235001_1 x235002_1 x235003_1 x235004_1 x235005_1 ((rd_T23 l0 x8_1).f0) ((rd_T23 l0 x8_1).f1) ((rd_T23 l0 x8_1).f2) ((rd_T23 l0 x8_1).f3) ((rd_T23 l0 x8_1).f4) ((rd_T23 l0 x8_1).f5)).bind fun t241 => (if t241 = true then (thalwegref02_Ends.l0 kj9 l0 true (wrap64 (x8_1 + 1)) ((rd_T23 l0 x8_1).f0) ((rd_T23 l0 x8_1).f1) ((rd_T23 l0 x8_1).f2) ((rd_T23 l0 x8_1).f3) ((rd_T23 l0 x8_1).f4) ((rd_T23 l0 x8_1).f5) ((rd_T23 l0 x8_1).f0) ((rd_T23 l0 x8_1).f1) ((rd_T23 l0 x8_1).f2) ((rd_T23 l0 x8_1).f3) ((rd_T23 l0 x8_1).f4) ((rd_T23 l0 x8_1).f5)) else (thalwegref02_Ends.l0 kj9 l0 true (wrap64 (x8_1 + 1)) ((rd_T23 l0 x8_1).f0) ((rd_T23 l0 x8_1).f1) ((rd_T23 l0 x8_1).f2) ((rd_T23 l0 x8_1).f3) ((rd_T23 l0 x8_1).f4) ((rd_T23 l0 x8_1).f5) x235000_1 x235001_1 x235002_1 x235003_1 x235004_1 x235005_1))) = some (r1, r2, r3, r4, r5, r6, r7, r8, r9, r10, r11, r12, r13) := by rw [if_pos rfl] at H; exact H
                  clear H
                  have H := H1
                  clear H1; replace H := Option.bind_eq_some_iff.mp H; obtain ⟨t241, A210, H⟩ := H
                  replace H : (if t241 = true then (thalwegref02_Ends.l0 kj9 l0 true (wrap64 (x8_1 + 1)) ((rd_T23 l0 x8_1).f0) ((rd_T23 l0 x8_1).f1) ((rd_T23 l0 x8_1).f2) ((rd_T23 l0 x8_1).f3) ((rd_T23 l0 x8_1).f4) ((rd_T23 l0 x8_1).f5) ((rd_T23 l0 x8_1).f0) ((rd_T23 l0 x8_1).f1) ((rd_T23 l0 x8_1).f2) ((rd_T23 l0 x8_1).f3) ((rd_T23 l0 x8_1).f4) ((rd_T23 l0 x8_1).f5)) else (thalwegref02_Ends.l0 kj9 l0 true (wrap64 (x8_1 + 1)) ((rd_T23 l0 x8_1).f0) ((rd_T23 l0 x8_1).f1) ((rd_T23 l0 x8_1).f2) ((rd_T23 l0 x8_1).f3) ((rd_T23 l0 x8_1).f4) ((rd_T23 l0 x8_1).f5) x235000_1 x235001_1 x235002_1 x235003_1 x235004_1 x235005_1)) = some (r1, r2, r3, r4, r5, r6, r7, r8, r9, r10, r11, r12, r13) := H
                  have A21 := YL A210; clear A210
                  by_cases c22 : t241 = true
                  · subst c22
                    have H1 : (thalwegref02_Ends.l0 kj9 l0 true (wrap64 (x8_1 + 1)) ((rd_T23 l0 x8_1).f0) ((rd_T23 l0 x8_1).f1) ((rd_T23 l0 x8_1).f2) ((rd_T23 l0 x8_1).f3) ((rd_T23 l0 x8_1).f4) ((rd_T23 l0 x8_1).f5) ((rd_T23 l0 x8_1).f0) ((rd_T23 l0 x8_1).f1) ((rd_T23 l0 x8_1).f2) ((rd_T23 l0 x8_1).f3) ((rd_T23 l0 x8_1).f4) ((rd_T23 l0 x8_1).f5)) = some (r1, r2, r3, r4, r5, r6, r7, r8, r9, r10, r11, r12, r13) := by rw [if_pos rfl] at H; exact H
                    clear H
                    have H := H1
                    clear H1
                    have H' := YL H
                    clear H
                    have p239 : 0 ≤ (x8_1 : Int) := of_decide_eq_true (by first | (with_reducible assumption) | assumption)
                    have q239 : x8_1 < (l0.length : Int) := of_decide_eq_true (by first | (with_reducible assumption) | assumption)
                    obtain ⟨ad239, e239, hx239_0, hx239_1, hx239_2, hx239_3, hx239_4, hx239_5⟩ := at_T23 HR0.out x8_1 p239 q239
                    obtain rfl : ad235 = ad239 := (by injection e239)
                    replace hx239_0 := (HB.out.cell (World.block_lt_of_cell? w _ hx239_0)).trans hx239_0
                    replace hx239_1 := (HB.out.cell (World.block_lt_of_cell? w _ hx239_1)).trans hx239_1
                    replace hx239_2 := (HB.out.cell (World.block_lt_of_cell? w _ hx239_2)).trans hx239_2
                    replace hx239_3 := (HB.out.cell (World.block_lt_of_cell? w _ hx239_3)).trans hx239_3
                    replace hx239_4 := (HB.out.cell (World.block_lt_of_cell? w _ hx239_4)).trans hx239_4
                    replace hx239_5 := (HB.out.cell (World.block_lt_of_cell? w _ hx239_5)).trans hx239_5
                    replace p239 := eq_true p239
                    replace q239 := eq_true q239
                    have hnb23 := NB233_231.out
                    have hnc23 := NB231_233.out
                    have hnb24 := NB233_232.out
                    have hnc24 := NB232_233.out
                    have hnb25 := NB233_234.out
                    have hnc25 := NB234_233.out
                    have hcz26_0 : wc.cell? ⟨gb233, 0, none⟩ = some (.bool x234000_1) := (YI BK233.out 0).trans rfl
                    have hcz26_1 : wc.cell? ⟨gb233, 1, none⟩ = some (.int .i64 x234001_1) := (YI BK233.out 1).trans rfl
                    have hcz26_2 : wc.cell? ⟨gb233, 2, none⟩ = some (.int .i64 x234002_1) := (YI BK233.out 2).trans rfl
                    have hcz26_3 : wc.cell? ⟨gb233, 3, none⟩ = some (.int .i64 x234003_1) := (YI BK233.out 3).trans rfl
                    have hcz26_4 : wc.cell? ⟨gb233, 4, none⟩ = some (.int .i64 x234004_1) := (YI BK233.out 4).trans rfl
                    have hcz26_5 : wc.cell? ⟨gb233, 5, none⟩ = some (.int .i64 x234005_1) := (YI BK233.out 5).trans rfl
                    have hfz26_0 := YJ BK233.out 0
                    have hfz26_1 := YJ BK233.out 1
                    have hfz26_2 := YJ BK233.out 2
                    have hfz26_3 := YJ BK233.out 3
                    have hfz26_4 := YJ BK233.out 4
                    have hfz26_5 := YJ BK233.out 5
                    try go_wp2
                    have n0_ : Aside0 (((((((wc.setCell ⟨gb233, 0, none⟩ (.bool ((rd_T23 l0 x8_1).f0))).setCell ⟨gb233, 1, none⟩ (.int .i64 ((rd_T23 l0 x8_1).f1))).setCell ⟨gb233, 2, none⟩ (.int .i64 ((rd_T23 l0 x8_1).f2))).setCell ⟨gb233, 3, none⟩ (.int .i64 ((rd_T23 l0 x8_1).f3))).setCell ⟨gb233, 4, none⟩ (.int .i64 ((rd_T23 l0 x8_1).f4))).setCell ⟨gb233, 5, none⟩ (.int .i64 ((rd_T23 l0 x8_1).f5))).heap[gb231]? = some (.cells #[.bool false, .int .i64 0, .int .i64 0, .int .i64 0, .int .i64 0, .int .i64 0] 23 (0, 0))) := ⟨by (with_reducible repeat (first | refine YF ?_ _ | refine YG ?_ | refine YH ?_ _)); refine blk_far ?_ NB231_233.out _; (with_reducible repeat (first | refine YF ?_ _ | refine YG ?_ | refine YH ?_ _)); refine blk_far ?_ NB231_233.out _; (with_reducible repeat (first | refine YF ?_ _ | refine YG ?_ | refine YH ?_ _)); refine blk_far ?_ NB231_233.out _; (with_reducible repeat (first | refine YF ?_ _ | refine YG ?_ | refine YH ?_ _)); refine blk_far ?_ NB231_233.out _; (with_reducible repeat (first | refine YF ?_ _ | refine YG ?_ | refine YH ?_ _)); refine blk_far ?_ NB231_233.out _; (with_reducible repeat (first | refine YF ?_ _ | refine YG ?_ | refine YH ?_ _)); refine blk_far ?_ NB231_233.out _; (with_reducible repeat (first | refine YF ?_ _ | refine YG ?_ | refine YH ?_ _)); exact BK231.out⟩
                    have n1_ : Aside0 (((((((wc.setCell ⟨gb233, 0, none⟩ (.bool ((rd_T23 l0 x8_1).f0))).setCell ⟨gb233, 1, none⟩ (.int .i64 ((rd_T23 l0 x8_1).f1))).setCell ⟨gb233, 2, none⟩ (.int .i64 ((rd_T23 l0 x8_1).f2))).setCell ⟨gb233, 3, none⟩ (.int .i64 ((rd_T23 l0 x8_1).f3))).setCell ⟨gb233, 4, none⟩ (.int .i64 ((rd_T23 l0 x8_1).f4))).setCell ⟨gb233, 5, none⟩ (.int .i64 ((rd_T23 l0 x8_1).f5))).heap[gb232]? = some (.cells #[.bool false, .int .i64 0, .int .i64 0, .int .i64 0, .int .i64 0, .int .i64 0] 23 (0, 0))) := ⟨by (with_reducible repeat (first | refine YF ?_ _ | refine YG ?_ | refine YH ?_ _)); refine blk_far ?_ NB232_233.out _; (with_reducible repeat (first | refine YF ?_ _ | refine YG ?_ | refine YH ?_ _)); refine blk_far ?_ NB232_233.out _; (with_reducible repeat (first | refine YF ?_ _ | refine YG ?_ | refine YH ?_ _)); refine blk_far ?_ NB232_233.out _; (with_reducible repeat (first | refine YF ?_ _ | refine YG ?_ | refine YH ?_ _)); refine blk_far ?_ NB232_233.out _; (with_reducible repeat (first | refine YF ?_ _ | refine YG ?_ | refine YH ?_ _)); refine blk_far ?_ NB232_233.out _; (with_reducible repeat (first | refine YF ?_ _ | refine YG ?_ | refine YH ?_ _)); refine blk_far ?_ NB232_233.out _; (with_reducible repeat (first | refine YF ?_ _ | refine YG ?_ | refine YH ?_ _)); exact BK232.out⟩
                    have n2_ : Aside0 (((((((wc.setCell ⟨gb233, 0, none⟩ (.bool ((rd_T23 l0 x8_1).f0))).setCell ⟨gb233, 1, none⟩ (.int .i64 ((rd_T23 l0 x8_1).f1))).setCell ⟨gb233, 2, none⟩ (.int .i64 ((rd_T23 l0 x8_1).f2))).setCell ⟨gb233, 3, none⟩ (.int .i64 ((rd_T23 l0 x8_1).f3))).setCell ⟨gb233, 4, none⟩ (.int .i64 ((rd_T23 l0 x8_1).f4))).setCell ⟨gb233, 5, none⟩ (.int .i64 ((rd_T23 l0 x8_1).f5))).heap[gb233]? = some (.cells #[.bool ((rd_T23 l0 x8_1).f0), .int .i64 ((rd_T23 l0 x8_1).f1), .int .i64 ((rd_T23 l0 x8_1).f2), .int .i64 ((rd_T23 l0 x8_1).f3), .int .i64 ((rd_T23 l0 x8_1).f4), .int .i64 ((rd_T23 l0 x8_1).f5)] 23 (0, 0))) := ⟨by (with_reducible repeat (first | refine YF ?_ _ | refine YG ?_ | refine YH ?_ _)); refine blk_put (cs := #[.bool ((rd_T23 l0 x8_1).f0), .int .i64 ((rd_T23 l0 x8_1).f1), .int .i64 ((rd_T23 l0 x8_1).f2), .int .i64 ((rd_T23 l0 x8_1).f3), .int .i64 ((rd_T23 l0 x8_1).f4), .int .i64 x234005_1]) ?_ 5 _ rfl; (with_reducible repeat (first | refine YF ?_ _ | refine YG ?_ | refine YH ?_ _)); refine blk_put (cs := #[.bool ((rd_T23 l0 x8_1).f0), .int .i64 ((rd_T23 l0 x8_1).f1), .int .i64 ((rd_T23 l0 x8_1).f2), .int .i64 ((rd_T23 l0 x8_1).f3), .int .i64 x234004_1, .int .i64 x234005_1]) ?_ 4 _ rfl; (with_reducible repeat (first | refine YF ?_ _ | refine YG ?_ | refine YH ?_ _)); refine blk_put (cs := #[.bool ((rd_T23 l0 x8_1).f0), .int .i64 ((rd_T23 l0 x8_1).f1), .int .i64 ((rd_T23 l0 x8_1).f2), .int .i64 x234003_1, .int .i64 x234004_1, .int .i64 x234005_1]) ?_ 3 _ rfl; (with_reducible repeat (first | refine YF ?_ _ | refine YG ?_ | refine YH ?_ _)); refine blk_put (cs := #[.bool ((rd_T23 l0 x8_1).f0), .int .i64 ((rd_T23 l0 x8_1).f1), .int .i64 x234002_1, .int .i64 x234003_1, .int .i64 x234004_1, .int .i64 x234005_1]) ?_ 2 _ rfl; (with_reducible repeat (first | refine YF ?_ _ | refine YG ?_ | refine YH ?_ _)); refine blk_put (cs := #[.bool ((rd_T23 l0 x8_1).f0), .int .i64 x234001_1, .int .i64 x234002_1, .int .i64 x234003_1, .int .i64 x234004_1, .int .i64 x234005_1]) ?_ 1 _ rfl; (with_reducible repeat (first | refine YF ?_ _ | refine YG ?_ | refine YH ?_ _)); refine blk_put (cs := #[.bool x234000_1, .int .i64 x234001_1, .int .i64 x234002_1, .int .i64 x234003_1, .int .i64 x234004_1, .int .i64 x234005_1]) ?_ 0 _ rfl; (with_reducible repeat (first | refine YF ?_ _ | refine YG ?_ | refine YH ?_ _)); exact BK233.out⟩
                    have n3_ : Aside0 (((((((wc.setCell ⟨gb233, 0, none⟩ (.bool ((rd_T23 l0 x8_1).f0))).setCell ⟨gb233, 1, none⟩ (.int .i64 ((rd_T23 l0 x8_1).f1))).setCell ⟨gb233, 2, none⟩ (.int .i64 ((rd_T23 l0 x8_1).f2))).setCell ⟨gb233, 3, none⟩ (.int .i64 ((rd_T23 l0 x8_1).f3))).setCell ⟨gb233, 4, none⟩ (.int .i64 ((rd_T23 l0 x8_1).f4))).setCell ⟨gb233, 5, none⟩ (.int .i64 ((rd_T23 l0 x8_1).f5))).heap[gb234]? = some (.cells #[.bool x235000_1, .int .i64 x235001_1, .int .i64 x235002_1, .int .i64 x235003_1, .int .i64 x235004_1, .int .i64 x235005_1] 23 (0, 0))) := ⟨by (with_reducible repeat (first | refine YF ?_ _ | refine YG ?_ | refine YH ?_ _)); refine blk_far ?_ NB234_233.out _; (with_reducible repeat (first | refine YF ?_ _ | refine YG ?_ | refine YH ?_ _)); refine blk_far ?_ NB234_233.out _; (with_reducible repeat (first | refine YF ?_ _ | refine YG ?_ | refine YH ?_ _)); refine blk_far ?_ NB234_233.out _; (with_reducible repeat (first | refine YF ?_ _ | refine YG ?_ | refine YH ?_ _)); refine blk_far ?_ NB234_233.out _; (with_reducible repeat (first | refine YF ?_ _ | refine YG ?_ | refine YH ?_ _)); refine blk_far ?_ NB234_233.out _; (with_reducible repeat (first | refine YF ?_ _ | refine YG ?_ | refine YH ?_ _)); refine blk_far ?_ NB234_233.out _; (with_reducible repeat (first | refine YF ?_ _ | refine YG ?_ | refine YH ?_ _)); exact BK234.out⟩
                    have n4_ : Aside0 (Below w.heap.size w ((((((wc.setCell ⟨gb233, 0, none⟩ (.bool ((rd_T23 l0 x8_1).f0))).setCell ⟨gb233, 1, none⟩ (.int .i64 ((rd_T23 l0 x8_1).f1))).setCell ⟨gb233, 2, none⟩ (.int .i64 ((rd_T23 l0 x8_1).f2))).setCell ⟨gb233, 3, none⟩ (.int .i64 ((rd_T23 l0 x8_1).f3))).setCell ⟨gb233, 4, none⟩ (.int .i64 ((rd_T23 l0 x8_1).f4))).setCell ⟨gb233, 5, none⟩ (.int .i64 ((rd_T23 l0 x8_1).f5)))) := ⟨by repeat (first | (with_reducible first | exact HB.out | apply YA | apply YB | apply YC | refine below_set ?_ GE231.out | refine below_set ?_ GE232.out | refine below_set ?_ GE233.out | refine below_set ?_ GE234.out) | exact HB.out)⟩
                    (try clear BK231); (try clear BK232); (try clear BK233); (try clear BK234); (try clear HB)
                    generalize ((((((wc.setCell ⟨gb233, 0, none⟩ (.bool ((rd_T23 l0 x8_1).f0))).setCell ⟨gb233, 1, none⟩ (.int .i64 ((rd_T23 l0 x8_1).f1))).setCell ⟨gb233, 2, none⟩ (.int .i64 ((rd_T23 l0 x8_1).f2))).setCell ⟨gb233, 3, none⟩ (.int .i64 ((rd_T23 l0 x8_1).f3))).setCell ⟨gb233, 4, none⟩ (.int .i64 ((rd_T23 l0 x8_1).f4))).setCell ⟨gb233, 5, none⟩ (.int .i64 ((rd_T23 l0 x8_1).f5))) = w27 at n0_ n1_ n2_ n3_ n4_ ⊢
                    have BK231 := n0_; have BK232 := n1_; have BK233 := n2_; have BK234 := n3_; have HB := n4_; clear n0_ n1_ n2_ n3_ n4_
                    have n0_ := YL (YG BK231.out)
                    have n1_ := YL (YG BK232.out)
                    have n2_ := YL (YG BK233.out)
                    have n3_ := YL (YG BK234.out)
                    have n4_ := YL (YC HB.out)
                    clear BK231; clear BK232; clear BK233; clear BK234; clear HB; have BK231 := n0_; have BK232 := n1_; have BK233 := n2_; have BK234 := n3_; have HB := n4_; clear n0_ n1_ n2_ n3_ n4_
                    have p240 : 0 ≤ (x8_1 : Int) := of_decide_eq_true (by first | (with_reducible assumption) | assumption)
                    have q240 : x8_1 < (l0.length : Int) := of_decide_eq_true (by first | (with_reducible assumption) | assumption)
                    obtain ⟨ad240, e240, hx240_0, hx240_1, hx240_2, hx240_3, hx240_4, hx240_5⟩ := at_T23 HR0.out x8_1 p240 q240
                    have hw240_5 := hx240_5
                    have hw240_4 := hx240_4
                    have hw240_3 := hx240_3
                    have hw240_2 := hx240_2
                    have hw240_1 := hx240_1
                    have hw240_0 := hx240_0
                    obtain rfl : ad235 = ad240 := (by injection e240)
                    replace hx240_0 := (HB.out.cell (World.block_lt_of_cell? w _ hx240_0)).trans hx240_0
                    replace hx240_1 := (HB.out.cell (World.block_lt_of_cell? w _ hx240_1)).trans hx240_1
                    replace hx240_2 := (HB.out.cell (World.block_lt_of_cell? w _ hx240_2)).trans hx240_2
                    replace hx240_3 := (HB.out.cell (World.block_lt_of_cell? w _ hx240_3)).trans hx240_3
                    replace hx240_4 := (HB.out.cell (World.block_lt_of_cell? w _ hx240_4)).trans hx240_4
                    replace hx240_5 := (HB.out.cell (World.block_lt_of_cell? w _ hx240_5)).trans hx240_5
                    replace p240 := eq_true p240
                    replace q240 := eq_true q240
                    refine start_ (n := 10) (S := fun w' => w'.cell? ⟨gb234, 0, none⟩ = some (.bool x235000_1) ∧ w'.cell? ⟨gb234, 1, none⟩ = some (.int .i64 x235001_1) ∧ w'.cell? ⟨gb234, 2, none⟩ = some (.int .i64 x235002_1) ∧ w'.cell? ⟨gb234, 3, none⟩ = some (.int .i64 x235003_1) ∧ w'.cell? ⟨gb234, 4, none⟩ = some (.int .i64 x235004_1) ∧ w'.cell? ⟨gb234, 5, none⟩ = some (.int .i64 x235005_1) ∧ w'.cell? (ad235.add ((x8_1).toNat * 6)) = some (.bool ((rd_T23 l0 x8_1).f0)) ∧ w'.cell? ⟨(ad235.add ((x8_1).toNat * 6)).block, (ad235.add ((x8_1).toNat * 6)).off + 1, none⟩ = some (.int .i64 ((rd_T23 l0 x8_1).f1)) ∧ w'.cell? ⟨(ad235.add ((x8_1).toNat * 6)).block, (ad235.add ((x8_1).toNat * 6)).off + 2, none⟩ = some (.int .i64 ((rd_T23 l0 x8_1).f2)) ∧ w'.cell? ⟨(ad235.add ((x8_1).toNat * 6)).block, (ad235.add ((x8_1).toNat * 6)).off + 3, none⟩ = some (.int .i64 ((rd_T23 l0 x8_1).f3)) ∧ w'.cell? ⟨(ad235.add ((x8_1).toNat * 6)).block, (ad235.add ((x8_1).toNat * 6)).off + 4, none⟩ = some (.int .i64 ((rd_T23 l0 x8_1).f4)) ∧ w'.cell? ⟨(ad235.add ((x8_1).toNat * 6)).block, (ad235.add ((x8_1).toNat * 6)).off + 5, none⟩ = some (.int .i64 ((rd_T23 l0 x8_1).f5))) (ds := []) #[false, false, false, false, false, false, false, false, false, false] (by kernel_rfl) rfl rfl ⟨(YI BK234.out 0).trans rfl, (YI BK234.out 1).trans rfl, (YI BK234.out 2).trans rfl, (YI BK234.out 3).trans rfl, (YI BK234.out 4).trans rfl, (YI BK234.out 5).trans rfl, ((HB.out.cell (World.block_lt_of_cell? w _ hw240_0)).trans hw240_0), ((HB.out.cell (World.block_lt_of_cell? w _ hw240_1)).trans hw240_1), ((HB.out.cell (World.block_lt_of_cell? w _ hw240_2)).trans hw240_2), ((HB.out.cell (World.block_lt_of_cell? w _ hw240_3)).trans hw240_3), ((HB.out.cell (World.block_lt_of_cell? w _ hw240_4)).trans hw240_4), ((HB.out.cell (World.block_lt_of_cell? w _ hw240_5)).trans hw240_5)⟩ (fun hHeld => ?_); refine with_tabW thalwegref02_Ends.tab9 thalwegref02_Ends.bits9 (fun HT_ HW_ => ?_)
                    generalize w27.drew = w28 at BK231 BK232 BK233 BK234 HB hx240_0 hx240_1 hx240_2 hx240_3 hx240_4 hx240_5 hHeld ⊢
                    refine pure_ (i := 0) (N := some 35) (v := ?_) (a' := ?_) #[true, false, false, false, false, false, false, false, false, false] rfl rfl (any_of HT_.out (by kernel_rfl)) (fun _ _ _ h => h) (Or.inl ⟨by rfl, ?_⟩) ?_ ?_
                    rotate_left
                    · intro w'
                      go_simp; with_reducible rfl
                    rotate_left
                    · simp only [Act.put, YM, YN, YO, i64_w, i32_w]
                      rfl
                    refine pure_ (i := 1) (N := some 36) (v := ?_) (a' := ?_) #[true, true, false, false, false, false, false, false, false, false] rfl rfl (any_of HT_.out (by kernel_rfl)) (fun _ _ _ h => h) (Or.inl ⟨by rfl, ?_⟩) ?_ ?_
                    rotate_left
                    · intro w'
                      go_simp; with_reducible rfl
                    rotate_left
                    · simp only [Act.put, YM, YN, YO, i64_w, i32_w]
                      rfl
                    refine pure_ (i := 2) (N := some 37) (v := ?_) (a' := ?_) #[true, true, true, false, false, false, false, false, false, false] rfl rfl (any_of HT_.out (by kernel_rfl)) (fun _ _ _ h => h) (Or.inl ⟨by rfl, ?_⟩) ?_ ?_
                    rotate_left
                    · intro w'
                      go_simp; with_reducible rfl
                    rotate_left
                    · simp only [Act.put, YM, YN, YO, i64_w, i32_w]
                      rfl
                    refine pure_ (i := 4) (N := some 39) (v := ?_) (a' := ?_) #[true, true, true, false, true, false, false, false, false, false] rfl rfl (any_of HT_.out (by kernel_rfl)) (fun _ _ _ h => h) (Or.inl ⟨by rfl, ?_⟩) ?_ ?_
                    rotate_left
                    · intro w'
                      go_simp; with_reducible rfl
                    rotate_left
                    · simp only [Act.put, YM, YN, YO, i64_w, i32_w]
                      rfl
                    refine pure_ (i := 5) (N := some 40) (v := ?_) (a' := ?_) #[true, true, true, false, true, true, false, false, false, false] rfl rfl (any_of HT_.out (by kernel_rfl)) (fun _ _ _ h => h) (Or.inl ⟨by rfl, ?_⟩) ?_ ?_
                    rotate_left
                    · intro w'
                      go_simp; with_reducible rfl
                    rotate_left
                    · simp only [Act.put, YM, YN, YO, i64_w, i32_w]
                      rfl
                    refine pure_ (i := 6) (N := some 41) (v := ?_) (a' := ?_) #[true, true, true, false, true, true, true, false, false, false] rfl rfl (any_of HT_.out (by kernel_rfl)) (fun _ _ _ h => h) (Or.inl ⟨by rfl, ?_⟩) ?_ ?_
                    rotate_left
                    · intro w'
                      go_simp; with_reducible rfl
                    rotate_left
                    · simp only [Act.put, YM, YN, YO, i64_w, i32_w]
                      rfl
                    refine take_ (i := 3) (N := some 38) (v := ?_) (a' := ?_) #[true, true, true, true, true, true, true, false, false, false] rfl rfl (take_ofW HT_.out HW_.out (by kernel_rfl)) (fun _ _ _ h => h) (Or.inl ⟨by rfl, ?_⟩) hHeld ?_ ?_
                    rotate_left
                    · rintro w' ⟨s0, s1, s2, s3, s4, s5, s6, s7, s8, s9, s10, s11⟩
                      go_simp; with_reducible rfl
                    rotate_left
                    · simp only [Act.put, YM, YN, YO, i64_w, i32_w]
                      rfl
                    refine take_ (i := 7) (N := some 42) (v := ?_) (a' := ?_) #[true, true, true, true, true, true, true, true, false, false] rfl rfl (take_ofW HT_.out HW_.out (by kernel_rfl)) (fun _ _ _ h => h) (Or.inl ⟨by rfl, ?_⟩) hHeld ?_ ?_
                    rotate_left
                    · rintro w' ⟨s0, s1, s2, s3, s4, s5, s6, s7, s8, s9, s10, s11⟩
                      go_simp; with_reducible rfl
                    rotate_left
                    · simp only [Act.put, YM, YN, YO, i64_w, i32_w]
                      rfl
                    refine one_ (i := 8) (N := some 43) #[true, true, true, true, true, true, true, true, true, false] rfl rfl (one_of HT_.out (by kernel_rfl)) (by decide) (fun K hK => ?_)
                    refine goes_ Try.func15 (by kernel_rfl) rfl #[.agg #[.bool x235000_1, .int .i64 x235001_1, .int .i64 x235002_1, .int .i64 x235003_1, .int .i64 x235004_1, .int .i64 x235005_1], .agg #[.bool ((rd_T23 l0 x8_1).f0), .int .i64 ((rd_T23 l0 x8_1).f1), .int .i64 ((rd_T23 l0 x8_1).f2), .int .i64 ((rd_T23 l0 x8_1).f3), .int .i64 ((rd_T23 l0 x8_1).f4), .int .i64 ((rd_T23 l0 x8_1).f5)]] (by rfl) rfl rfl (by (try simp only [YP, List.map_cons, List.map_nil]); first | done | rfl | (simp only [YR, YQ]; rfl)) ?_
                    with_reducible refine (thalwegref02_Less.calls kj9 x235000_1 x235001_1 x235002_1 x235003_1 x235004_1 x235005_1 ((rd_T23 l0 x8_1).f0) ((rd_T23 l0 x8_1).f1) ((rd_T23 l0 x8_1).f2) ((rd_T23 l0 x8_1).f3) ((rd_T23 l0 x8_1).f4) ((rd_T23 l0 x8_1).f5) true _ A21.out).mono ?_
                    rintro e w29 ⟨rfl, hb⟩
                    refine ⟨_, rfl, ?_⟩
                    have n0_ := YL (YK (g := gb231) (o := .cells #[.bool false, .int .i64 0, .int .i64 0, .int .i64 0, .int .i64 0, .int .i64 0] 23 (0, 0)) (by (with_reducible repeat (first | refine YF ?_ _ | refine YG ?_ | refine YH ?_ _)); exact BK231.out) hb)
                    have n1_ := YL (YK (g := gb232) (o := .cells #[.bool false, .int .i64 0, .int .i64 0, .int .i64 0, .int .i64 0, .int .i64 0] 23 (0, 0)) (by (with_reducible repeat (first | refine YF ?_ _ | refine YG ?_ | refine YH ?_ _)); exact BK232.out) hb)
                    have n2_ := YL (YK (g := gb233) (o := .cells #[.bool ((rd_T23 l0 x8_1).f0), .int .i64 ((rd_T23 l0 x8_1).f1), .int .i64 ((rd_T23 l0 x8_1).f2), .int .i64 ((rd_T23 l0 x8_1).f3), .int .i64 ((rd_T23 l0 x8_1).f4), .int .i64 ((rd_T23 l0 x8_1).f5)] 23 (0, 0)) (by (with_reducible repeat (first | refine YF ?_ _ | refine YG ?_ | refine YH ?_ _)); exact BK233.out) hb)
                    have n3_ := YL (YK (g := gb234) (o := .cells #[.bool x235000_1, .int .i64 x235001_1, .int .i64 x235002_1, .int .i64 x235003_1, .int .i64 x235004_1, .int .i64 x235005_1] 23 (0, 0)) (by (with_reducible repeat (first | refine YF ?_ _ | refine YG ?_ | refine YH ?_ _)); exact BK234.out) hb)
                    have n4_ := YL (YD (by repeat (first | (with_reducible first | exact HB.out | apply YA | apply YB | apply YC | refine below_set ?_ GE231.out | refine below_set ?_ GE232.out | refine below_set ?_ GE233.out | refine below_set ?_ GE234.out) | exact HB.out)) hb)
                    clear BK231; clear BK232; clear BK233; clear BK234; clear HB; have BK231 := n0_; have BK232 := n1_; have BK233 := n2_; have BK234 := n3_; have HB := n4_; clear n0_ n1_ n2_ n3_ n4_; (try clear hb); (try clear hb2); (try clear hk); (try clear hi)
                    refine hK.out _ _ ⟨(YI BK234.out 0).trans rfl, (YI BK234.out 1).trans rfl, (YI BK234.out 2).trans rfl, (YI BK234.out 3).trans rfl, (YI BK234.out 4).trans rfl, (YI BK234.out 5).trans rfl, ((HB.out.cell (World.block_lt_of_cell? w _ hw240_0)).trans hw240_0), ((HB.out.cell (World.block_lt_of_cell? w _ hw240_1)).trans hw240_1), ((HB.out.cell (World.block_lt_of_cell? w _ hw240_2)).trans hw240_2), ((HB.out.cell (World.block_lt_of_cell? w _ hw240_3)).trans hw240_3), ((HB.out.cell (World.block_lt_of_cell? w _ hw240_4)).trans hw240_4), ((HB.out.cell (World.block_lt_of_cell? w _ hw240_5)).trans hw240_5)⟩ (fun hHeld => ?_)
                    clear hK K
                    refine norm_ (a' := ?_) ?_ ?_
                    rotate_left
                    · show Act.put _ (some 43) _ = _
                      simp only [Act.put, YM, YN, YO, i64_w, i32_w]
                      rfl
                    refine pure_ (i := 9) (N := some 44) (v := ?_) (a' := ?_) #[true, true, true, true, true, true, true, true, true, true] rfl rfl (any_of HT_.out (by kernel_rfl)) (fun _ _ _ h => h) (Or.inl ⟨by rfl, ?_⟩) ?_ ?_
                    rotate_left
                    · intro w'
                      go_simp; with_reducible rfl
                    rotate_left
                    · simp only [Act.put, YM, YN, YO, i64_w, i32_w]
                      rfl
                    refine done_ (done_of HT_.out (by kernel_rfl)) ?_
                    have p242 : 0 ≤ (x8_1 : Int) := of_decide_eq_true (by first | (with_reducible assumption) | assumption)
                    have q242 : x8_1 < (l0.length : Int) := of_decide_eq_true (by first | (with_reducible assumption) | assumption)
                    obtain ⟨ad242, e242, hx242_0, hx242_1, hx242_2, hx242_3, hx242_4, hx242_5⟩ := at_T23 HR0.out x8_1 p242 q242
                    obtain rfl : ad235 = ad242 := (by injection e242)
                    replace hx242_0 := (HB.out.cell (World.block_lt_of_cell? w _ hx242_0)).trans hx242_0
                    replace hx242_1 := (HB.out.cell (World.block_lt_of_cell? w _ hx242_1)).trans hx242_1
                    replace hx242_2 := (HB.out.cell (World.block_lt_of_cell? w _ hx242_2)).trans hx242_2
                    replace hx242_3 := (HB.out.cell (World.block_lt_of_cell? w _ hx242_3)).trans hx242_3
                    replace hx242_4 := (HB.out.cell (World.block_lt_of_cell? w _ hx242_4)).trans hx242_4
                    replace hx242_5 := (HB.out.cell (World.block_lt_of_cell? w _ hx242_5)).trans hx242_5
                    replace p242 := eq_true p242
                    replace q242 := eq_true q242
                    have hnb30 := NB234_231.out
                    have hnc30 := NB231_234.out
                    have hnb31 := NB234_232.out
                    have hnc31 := NB232_234.out
                    have hcz32_0 : w29.cell? ⟨gb234, 0, none⟩ = some (.bool x235000_1) := (YI BK234.out 0).trans rfl
                    have hcz32_1 : w29.cell? ⟨gb234, 1, none⟩ = some (.int .i64 x235001_1) := (YI BK234.out 1).trans rfl
                    have hcz32_2 : w29.cell? ⟨gb234, 2, none⟩ = some (.int .i64 x235002_1) := (YI BK234.out 2).trans rfl
                    have hcz32_3 : w29.cell? ⟨gb234, 3, none⟩ = some (.int .i64 x235003_1) := (YI BK234.out 3).trans rfl
                    have hcz32_4 : w29.cell? ⟨gb234, 4, none⟩ = some (.int .i64 x235004_1) := (YI BK234.out 4).trans rfl
                    have hcz32_5 : w29.cell? ⟨gb234, 5, none⟩ = some (.int .i64 x235005_1) := (YI BK234.out 5).trans rfl
                    have hfz32_0 := YJ BK234.out 0
                    have hfz32_1 := YJ BK234.out 1
                    have hfz32_2 := YJ BK234.out 2
                    have hfz32_3 := YJ BK234.out 3
                    have hfz32_4 := YJ BK234.out 4
                    have hfz32_5 := YJ BK234.out 5
                    try go_wp2
                    go_roundg kj9
                    case measure => have := HK1.out; have := HJ9.out; omega
                    case rel => exact ⟨(true), (wrap64 (x8_1 + 1)), ((rd_T23 l0 x8_1).f0), ((rd_T23 l0 x8_1).f1), ((rd_T23 l0 x8_1).f2), ((rd_T23 l0 x8_1).f3), ((rd_T23 l0 x8_1).f4), ((rd_T23 l0 x8_1).f5), ((rd_T23 l0 x8_1).f0), ((rd_T23 l0 x8_1).f1), ((rd_T23 l0 x8_1).f2), ((rd_T23 l0 x8_1).f3), ((rd_T23 l0 x8_1).f4), ((rd_T23 l0 x8_1).f5), (by first | rfl | (simp; done) | (simp [*]; done)), (by first | rfl | (simp; done) | (simp [*]; done)), H', ⟨by have := HK1.out; have := HJ9.out; omega⟩, ⟨by (with_reducible repeat (first | refine YF ?_ _ | refine YG ?_ | refine YH ?_ _)); refine blk_far ?_ NB231_234.out _; (with_reducible repeat (first | refine YF ?_ _ | refine YG ?_ | refine YH ?_ _)); refine blk_far ?_ NB231_234.out _; (with_reducible repeat (first | refine YF ?_ _ | refine YG ?_ | refine YH ?_ _)); refine blk_far ?_ NB231_234.out _; (with_reducible repeat (first | refine YF ?_ _ | refine YG ?_ | refine YH ?_ _)); refine blk_far ?_ NB231_234.out _; (with_reducible repeat (first | refine YF ?_ _ | refine YG ?_ | refine YH ?_ _)); refine blk_far ?_ NB231_234.out _; (with_reducible repeat (first | refine YF ?_ _ | refine YG ?_ | refine YH ?_ _)); refine blk_far ?_ NB231_234.out _; (with_reducible repeat (first | refine YF ?_ _ | refine YG ?_ | refine YH ?_ _)); exact BK231.out⟩, ⟨by (with_reducible repeat (first | refine YF ?_ _ | refine YG ?_ | refine YH ?_ _)); refine blk_far ?_ NB232_234.out _; (with_reducible repeat (first | refine YF ?_ _ | refine YG ?_ | refine YH ?_ _)); refine blk_far ?_ NB232_234.out _; (with_reducible repeat (first | refine YF ?_ _ | refine YG ?_ | refine YH ?_ _)); refine blk_far ?_ NB232_234.out _; (with_reducible repeat (first | refine YF ?_ _ | refine YG ?_ | refine YH ?_ _)); refine blk_far ?_ NB232_234.out _; (with_reducible repeat (first | refine YF ?_ _ | refine YG ?_ | refine YH ?_ _)); refine blk_far ?_ NB232_234.out _; (with_reducible repeat (first | refine YF ?_ _ | refine YG ?_ | refine YH ?_ _)); refine blk_far ?_ NB232_234.out _; (with_reducible repeat (first | refine YF ?_ _ | refine YG ?_ | refine YH ?_ _)); exact BK232.out⟩, ⟨by (with_reducible repeat (first | refine YF ?_ _ | refine YG ?_ | refine YH ?_ _)); refine blk_far ?_ NB233_234.out _; (with_reducible repeat (first | refine YF ?_ _ | refine YG ?_ | refine YH ?_ _)); refine blk_far ?_ NB233_234.out _; (with_reducible repeat (first | refine YF ?_ _ | refine YG ?_ | refine YH ?_ _)); refine blk_far ?_ NB233_234.out _; (with_reducible repeat (first | refine YF ?_ _ | refine YG ?_ | refine YH ?_ _)); refine blk_far ?_ NB233_234.out _; (with_reducible repeat (first | refine YF ?_ _ | refine YG ?_ | refine YH ?_ _)); refine blk_far ?_ NB233_234.out _; (with_reducible repeat (first | refine YF ?_ _ | refine YG ?_ | refine YH ?_ _)); refine blk_far ?_ NB233_234.out _; (with_reducible repeat (first | refine YF ?_ _ | refine YG ?_ | refine YH ?_ _)); exact BK233.out⟩, ⟨by (with_reducible repeat (first | refine YF ?_ _ | refine YG ?_ | refine YH ?_ _)); refine blk_put (cs := #[.bool ((rd_T23 l0 x8_1).f0), .int .i64 ((rd_T23 l0 x8_1).f1), .int .i64 ((rd_T23 l0 x8_1).f2), .int .i64 ((rd_T23 l0 x8_1).f3), .int .i64 ((rd_T23 l0 x8_1).f4), .int .i64 x235005_1]) ?_ 5 _ rfl; (with_reducible repeat (first | refine YF ?_ _ | refine YG ?_ | refine YH ?_ _)); refine blk_put (cs := #[.bool ((rd_T23 l0 x8_1).f0), .int .i64 ((rd_T23 l0 x8_1).f1), .int .i64 ((rd_T23 l0 x8_1).f2), .int .i64 ((rd_T23 l0 x8_1).f3), .int .i64 x235004_1, .int .i64 x235005_1]) ?_ 4 _ rfl; (with_reducible repeat (first | refine YF ?_ _ | refine YG ?_ | refine YH ?_ _)); refine blk_put (cs := #[.bool ((rd_T23 l0 x8_1).f0), .int .i64 ((rd_T23 l0 x8_1).f1), .int .i64 ((rd_T23 l0 x8_1).f2), .int .i64 x235003_1, .int .i64 x235004_1, .int .i64 x235005_1]) ?_ 3 _ rfl; (with_reducible repeat (first | refine YF ?_ _ | refine YG ?_ | refine YH ?_ _)); refine blk_put (cs := #[.bool ((rd_T23 l0 x8_1).f0), .int .i64 ((rd_T23 l0 x8_1).f1), .int .i64 x235002_1, .int .i64 x235003_1, .int .i64 x235004_1, .int .i64 x235005_1]) ?_ 2 _ rfl; (with_reducible repeat (first | refine YF ?_ _ | refine YG ?_ | refine YH ?_ _)); refine blk_put (cs := #[.bool ((rd_T23 l0 x8_1).f0), .int .i64 x235001_1, .int .i64 x235002_1, .int .i64 x235003_1, .int .i64 x235004_1, .int .i64 x235005_1]) ?_ 1 _ rfl; (with_reducible repeat (first | refine YF ?_ _ | refine YG ?_ | refine YH ?_ _)); refine blk_put (cs := #[.bool x235000_1, .int .i64 x235001_1, .int .i64 x235002_1, .int .i64 x235003_1, .int .i64 x235004_1, .int .i64 x235005_1]) ?_ 0 _ rfl; (with_reducible repeat (first | refine YF ?_ _ | refine YG ?_ | refine YH ?_ _)); exact BK234.out⟩, ⟨by repeat (first | (with_reducible first | exact HB.out | apply YA | apply YB | apply YC | refine below_set ?_ GE231.out | refine below_set ?_ GE232.out | refine below_set ?_ GE233.out | refine below_set ?_ GE234.out) | exact HB.out)⟩⟩
                  replace c22 := Bool.eq_false_iff.mpr c22
                  subst c22
                  have H1 : (thalwegref02_Ends.l0 kj9 l0 true (wrap64 (x8_1 + 1)) ((rd_T23 l0 x8_1).f0) ((rd_T23 l0 x8_1).f1) ((rd_T23 l0 x8_1).f2) ((rd_T23 l0 x8_1).f3) ((rd_T23 l0 x8_1).f4) ((rd_T23 l0 x8_1).f5) x235000_1 x235001_1 x235002_1 x235003_1 x235004_1 x235005_1) = some (r1, r2, r3, r4, r5, r6, r7, r8, r9, r10, r11, r12, r13) := by rw [if_neg (show ¬ (false = true) by decide)] at H; exact H
                  clear H
                  have H := H1
                  clear H1
                  have H' := YL H
                  clear H
                  have p239 : 0 ≤ (x8_1 : Int) := of_decide_eq_true (by first | (with_reducible assumption) | assumption)
                  have q239 : x8_1 < (l0.length : Int) := of_decide_eq_true (by first | (with_reducible assumption) | assumption)
                  obtain ⟨ad239, e239, hx239_0, hx239_1, hx239_2, hx239_3, hx239_4, hx239_5⟩ := at_T23 HR0.out x8_1 p239 q239
                  obtain rfl : ad235 = ad239 := (by injection e239)
                  replace hx239_0 := (HB.out.cell (World.block_lt_of_cell? w _ hx239_0)).trans hx239_0
                  replace hx239_1 := (HB.out.cell (World.block_lt_of_cell? w _ hx239_1)).trans hx239_1
                  replace hx239_2 := (HB.out.cell (World.block_lt_of_cell? w _ hx239_2)).trans hx239_2
                  replace hx239_3 := (HB.out.cell (World.block_lt_of_cell? w _ hx239_3)).trans hx239_3
                  replace hx239_4 := (HB.out.cell (World.block_lt_of_cell? w _ hx239_4)).trans hx239_4
                  replace hx239_5 := (HB.out.cell (World.block_lt_of_cell? w _ hx239_5)).trans hx239_5
                  replace p239 := eq_true p239
                  replace q239 := eq_true q239
                  have hnb33 := NB233_231.out
                  have hnc33 := NB231_233.out
                  have hnb34 := NB233_232.out
                  have hnc34 := NB232_233.out
                  have hnb35 := NB233_234.out
                  have hnc35 := NB234_233.out
                  have hcz36_0 : wc.cell? ⟨gb233, 0, none⟩ = some (.bool x234000_1) := (YI BK233.out 0).trans rfl
                  have hcz36_1 : wc.cell? ⟨gb233, 1, none⟩ = some (.int .i64 x234001_1) := (YI BK233.out 1).trans rfl
                  have hcz36_2 : wc.cell? ⟨gb233, 2, none⟩ = some (.int .i64 x234002_1) := (YI BK233.out 2).trans rfl
                  have hcz36_3 : wc.cell? ⟨gb233, 3, none⟩ = some (.int .i64 x234003_1) := (YI BK233.out 3).trans rfl
                  have hcz36_4 : wc.cell? ⟨gb233, 4, none⟩ = some (.int .i64 x234004_1) := (YI BK233.out 4).trans rfl
                  have hcz36_5 : wc.cell? ⟨gb233, 5, none⟩ = some (.int .i64 x234005_1) := (YI BK233.out 5).trans rfl
                  have hfz36_0 := YJ BK233.out 0
                  have hfz36_1 := YJ BK233.out 1
                  have hfz36_2 := YJ BK233.out 2
                  have hfz36_3 := YJ BK233.out 3
                  have hfz36_4 := YJ BK233.out 4
                  have hfz36_5 := YJ BK233.out 5
                  try go_wp2
                  have n0_ : Aside0 (((((((wc.setCell ⟨gb233, 0, none⟩ (.bool ((rd_T23 l0 x8_1).f0))).setCell ⟨gb233, 1, none⟩ (.int .i64 ((rd_T23 l0 x8_1).f1))).setCell ⟨gb233, 2, none⟩ (.int .i64 ((rd_T23 l0 x8_1).f2))).setCell ⟨gb233, 3, none⟩ (.int .i64 ((rd_T23 l0 x8_1).f3))).setCell ⟨gb233, 4, none⟩ (.int .i64 ((rd_T23 l0 x8_1).f4))).setCell ⟨gb233, 5, none⟩ (.int .i64 ((rd_T23 l0 x8_1).f5))).heap[gb231]? = some (.cells #[.bool false, .int .i64 0, .int .i64 0, .int .i64 0, .int .i64 0, .int .i64 0] 23 (0, 0))) := ⟨by (with_reducible repeat (first | refine YF ?_ _ | refine YG ?_ | refine YH ?_ _)); refine blk_far ?_ NB231_233.out _; (with_reducible repeat (first | refine YF ?_ _ | refine YG ?_ | refine YH ?_ _)); refine blk_far ?_ NB231_233.out _; (with_reducible repeat (first | refine YF ?_ _ | refine YG ?_ | refine YH ?_ _)); refine blk_far ?_ NB231_233.out _; (with_reducible repeat (first | refine YF ?_ _ | refine YG ?_ | refine YH ?_ _)); refine blk_far ?_ NB231_233.out _; (with_reducible repeat (first | refine YF ?_ _ | refine YG ?_ | refine YH ?_ _)); refine blk_far ?_ NB231_233.out _; (with_reducible repeat (first | refine YF ?_ _ | refine YG ?_ | refine YH ?_ _)); refine blk_far ?_ NB231_233.out _; (with_reducible repeat (first | refine YF ?_ _ | refine YG ?_ | refine YH ?_ _)); exact BK231.out⟩
                  have n1_ : Aside0 (((((((wc.setCell ⟨gb233, 0, none⟩ (.bool ((rd_T23 l0 x8_1).f0))).setCell ⟨gb233, 1, none⟩ (.int .i64 ((rd_T23 l0 x8_1).f1))).setCell ⟨gb233, 2, none⟩ (.int .i64 ((rd_T23 l0 x8_1).f2))).setCell ⟨gb233, 3, none⟩ (.int .i64 ((rd_T23 l0 x8_1).f3))).setCell ⟨gb233, 4, none⟩ (.int .i64 ((rd_T23 l0 x8_1).f4))).setCell ⟨gb233, 5, none⟩ (.int .i64 ((rd_T23 l0 x8_1).f5))).heap[gb232]? = some (.cells #[.bool false, .int .i64 0, .int .i64 0, .int .i64 0, .int .i64 0, .int .i64 0] 23 (0, 0))) := ⟨by (with_reducible repeat (first | refine YF ?_ _ | refine YG ?_ | refine YH ?_ _)); refine blk_far ?_ NB232_233.out _; (with_reducible repeat (first | refine YF ?_ _ | refine YG ?_ | refine YH ?_ _)); refine blk_far ?_ NB232_233.out _; (with_reducible repeat (first | refine YF ?_ _ | refine YG ?_ | refine YH ?_ _)); refine blk_far ?_ NB232_233.out _; (with_reducible repeat (first | refine YF ?_ _ | refine YG ?_ | refine YH ?_ _)); refine blk_far ?_ NB232_233.out _; (with_reducible repeat (first | refine YF ?_ _ | refine YG ?_ | refine YH ?_ _)); refine blk_far ?_ NB232_233.out _; (with_reducible repeat (first | refine YF ?_ _ | refine YG ?_ | refine YH ?_ _)); refine blk_far ?_ NB232_233.out _; (with_reducible repeat (first | refine YF ?_ _ | refine YG ?_ | refine YH ?_ _)); exact BK232.out⟩
                  have n2_ : Aside0 (((((((wc.setCell ⟨gb233, 0, none⟩ (.bool ((rd_T23 l0 x8_1).f0))).setCell ⟨gb233, 1, none⟩ (.int .i64 ((rd_T23 l0 x8_1).f1))).setCell ⟨gb233, 2, none⟩ (.int .i64 ((rd_T23 l0 x8_1).f2))).setCell ⟨gb233, 3, none⟩ (.int .i64 ((rd_T23 l0 x8_1).f3))).setCell ⟨gb233, 4, none⟩ (.int .i64 ((rd_T23 l0 x8_1).f4))).setCell ⟨gb233, 5, none⟩ (.int .i64 ((rd_T23 l0 x8_1).f5))).heap[gb233]? = some (.cells #[.bool ((rd_T23 l0 x8_1).f0), .int .i64 ((rd_T23 l0 x8_1).f1), .int .i64 ((rd_T23 l0 x8_1).f2), .int .i64 ((rd_T23 l0 x8_1).f3), .int .i64 ((rd_T23 l0 x8_1).f4), .int .i64 ((rd_T23 l0 x8_1).f5)] 23 (0, 0))) := ⟨by (with_reducible repeat (first | refine YF ?_ _ | refine YG ?_ | refine YH ?_ _)); refine blk_put (cs := #[.bool ((rd_T23 l0 x8_1).f0), .int .i64 ((rd_T23 l0 x8_1).f1), .int .i64 ((rd_T23 l0 x8_1).f2), .int .i64 ((rd_T23 l0 x8_1).f3), .int .i64 ((rd_T23 l0 x8_1).f4), .int .i64 x234005_1]) ?_ 5 _ rfl; (with_reducible repeat (first | refine YF ?_ _ | refine YG ?_ | refine YH ?_ _)); refine blk_put (cs := #[.bool ((rd_T23 l0 x8_1).f0), .int .i64 ((rd_T23 l0 x8_1).f1), .int .i64 ((rd_T23 l0 x8_1).f2), .int .i64 ((rd_T23 l0 x8_1).f3), .int .i64 x234004_1, .int .i64 x234005_1]) ?_ 4 _ rfl; (with_reducible repeat (first | refine YF ?_ _ | refine YG ?_ | refine YH ?_ _)); refine blk_put (cs := #[.bool ((rd_T23 l0 x8_1).f0), .int .i64 ((rd_T23 l0 x8_1).f1), .int .i64 ((rd_T23 l0 x8_1).f2), .int .i64 x234003_1, .int .i64 x234004_1, .int .i64 x234005_1]) ?_ 3 _ rfl; (with_reducible repeat (first | refine YF ?_ _ | refine YG ?_ | refine YH ?_ _)); refine blk_put (cs := #[.bool ((rd_T23 l0 x8_1).f0), .int .i64 ((rd_T23 l0 x8_1).f1), .int .i64 x234002_1, .int .i64 x234003_1, .int .i64 x234004_1, .int .i64 x234005_1]) ?_ 2 _ rfl; (with_reducible repeat (first | refine YF ?_ _ | refine YG ?_ | refine YH ?_ _)); refine blk_put (cs := #[.bool ((rd_T23 l0 x8_1).f0), .int .i64 x234001_1, .int .i64 x234002_1, .int .i64 x234003_1, .int .i64 x234004_1, .int .i64 x234005_1]) ?_ 1 _ rfl; (with_reducible repeat (first | refine YF ?_ _ | refine YG ?_ | refine YH ?_ _)); refine blk_put (cs := #[.bool x234000_1, .int .i64 x234001_1, .int .i64 x234002_1, .int .i64 x234003_1, .int .i64 x234004_1, .int .i64 x234005_1]) ?_ 0 _ rfl; (with_reducible repeat (first | refine YF ?_ _ | refine YG ?_ | refine YH ?_ _)); exact BK233.out⟩
                  have n3_ : Aside0 (((((((wc.setCell ⟨gb233, 0, none⟩ (.bool ((rd_T23 l0 x8_1).f0))).setCell ⟨gb233, 1, none⟩ (.int .i64 ((rd_T23 l0 x8_1).f1))).setCell ⟨gb233, 2, none⟩ (.int .i64 ((rd_T23 l0 x8_1).f2))).setCell ⟨gb233, 3, none⟩ (.int .i64 ((rd_T23 l0 x8_1).f3))).setCell ⟨gb233, 4, none⟩ (.int .i64 ((rd_T23 l0 x8_1).f4))).setCell ⟨gb233, 5, none⟩ (.int .i64 ((rd_T23 l0 x8_1).f5))).heap[gb234]? = some (.cells #[.bool x235000_1, .int .i64 x235001_1, .int .i64 x235002_1, .int .i64 x235003_1, .int .i64 x235004_1, .int .i64 x235005_1] 23 (0, 0))) := ⟨by (with_reducible repeat (first | refine YF ?_ _ | refine YG ?_ | refine YH ?_ _)); refine blk_far ?_ NB234_233.out _; (with_reducible repeat (first | refine YF ?_ _ | refine YG ?_ | refine YH ?_ _)); refine blk_far ?_ NB234_233.out _; (with_reducible repeat (first | refine YF ?_ _ | refine YG ?_ | refine YH ?_ _)); refine blk_far ?_ NB234_233.out _; (with_reducible repeat (first | refine YF ?_ _ | refine YG ?_ | refine YH ?_ _)); refine blk_far ?_ NB234_233.out _; (with_reducible repeat (first | refine YF ?_ _ | refine YG ?_ | refine YH ?_ _)); refine blk_far ?_ NB234_233.out _; (with_reducible repeat (first | refine YF ?_ _ | refine YG ?_ | refine YH ?_ _)); refine blk_far ?_ NB234_233.out _; (with_reducible repeat (first | refine YF ?_ _ | refine YG ?_ | refine YH ?_ _)); exact BK234.out⟩
                  have n4_ : Aside0 (Below w.heap.size w ((((((wc.setCell ⟨gb233, 0, none⟩ (.bool ((rd_T23 l0 x8_1).f0))).setCell ⟨gb233, 1, none⟩ (.int .i64 ((rd_T23 l0 x8_1).f1))).setCell ⟨gb233, 2, none⟩ (.int .i64 ((rd_T23 l0 x8_1).f2))).setCell ⟨gb233, 3, none⟩ (.int .i64 ((rd_T23 l0 x8_1).f3))).setCell ⟨gb233, 4, none⟩ (.int .i64 ((rd_T23 l0 x8_1).f4))).setCell ⟨gb233, 5, none⟩ (.int .i64 ((rd_T23 l0 x8_1).f5)))) := ⟨by repeat (first | (with_reducible first | exact HB.out | apply YA | apply YB | apply YC | refine below_set ?_ GE231.out | refine below_set ?_ GE232.out | refine below_set ?_ GE233.out | refine below_set ?_ GE234.out) | exact HB.out)⟩
                  (try clear BK231); (try clear BK232); (try clear BK233); (try clear BK234); (try clear HB)
                  generalize ((((((wc.setCell ⟨gb233, 0, none⟩ (.bool ((rd_T23 l0 x8_1).f0))).setCell ⟨gb233, 1, none⟩ (.int .i64 ((rd_T23 l0 x8_1).f1))).setCell ⟨gb233, 2, none⟩ (.int .i64 ((rd_T23 l0 x8_1).f2))).setCell ⟨gb233, 3, none⟩ (.int .i64 ((rd_T23 l0 x8_1).f3))).setCell ⟨gb233, 4, none⟩ (.int .i64 ((rd_T23 l0 x8_1).f4))).setCell ⟨gb233, 5, none⟩ (.int .i64 ((rd_T23 l0 x8_1).f5))) = w37 at n0_ n1_ n2_ n3_ n4_ ⊢
                  have BK231 := n0_; have BK232 := n1_; have BK233 := n2_; have BK234 := n3_; have HB := n4_; clear n0_ n1_ n2_ n3_ n4_
                  have n0_ := YL (YG BK231.out)
                  have n1_ := YL (YG BK232.out)
                  have n2_ := YL (YG BK233.out)
                  have n3_ := YL (YG BK234.out)
                  have n4_ := YL (YC HB.out)
                  clear BK231; clear BK232; clear BK233; clear BK234; clear HB; have BK231 := n0_; have BK232 := n1_; have BK233 := n2_; have BK234 := n3_; have HB := n4_; clear n0_ n1_ n2_ n3_ n4_
                  have p240 : 0 ≤ (x8_1 : Int) := of_decide_eq_true (by first | (with_reducible assumption) | assumption)
                  have q240 : x8_1 < (l0.length : Int) := of_decide_eq_true (by first | (with_reducible assumption) | assumption)
                  obtain ⟨ad240, e240, hx240_0, hx240_1, hx240_2, hx240_3, hx240_4, hx240_5⟩ := at_T23 HR0.out x8_1 p240 q240
                  have hw240_5 := hx240_5
                  have hw240_4 := hx240_4
                  have hw240_3 := hx240_3
                  have hw240_2 := hx240_2
                  have hw240_1 := hx240_1
                  have hw240_0 := hx240_0
                  obtain rfl : ad235 = ad240 := (by injection e240)
                  replace hx240_0 := (HB.out.cell (World.block_lt_of_cell? w _ hx240_0)).trans hx240_0
                  replace hx240_1 := (HB.out.cell (World.block_lt_of_cell? w _ hx240_1)).trans hx240_1
                  replace hx240_2 := (HB.out.cell (World.block_lt_of_cell? w _ hx240_2)).trans hx240_2
                  replace hx240_3 := (HB.out.cell (World.block_lt_of_cell? w _ hx240_3)).trans hx240_3
                  replace hx240_4 := (HB.out.cell (World.block_lt_of_cell? w _ hx240_4)).trans hx240_4
                  replace hx240_5 := (HB.out.cell (World.block_lt_of_cell? w _ hx240_5)).trans hx240_5
                  replace p240 := eq_true p240
                  replace q240 := eq_true q240
                  refine start_ (n := 10) (S := fun w' => w'.cell? ⟨gb234, 0, none⟩ = some (.bool x235000_1) ∧ w'.cell? ⟨gb234, 1, none⟩ = some (.int .i64 x235001_1) ∧ w'.cell? ⟨gb234, 2, none⟩ = some (.int .i64 x235002_1) ∧ w'.cell? ⟨gb234, 3, none⟩ = some (.int .i64 x235003_1) ∧ w'.cell? ⟨gb234, 4, none⟩ = some (.int .i64 x235004_1) ∧ w'.cell? ⟨gb234, 5, none⟩ = some (.int .i64 x235005_1) ∧ w'.cell? (ad235.add ((x8_1).toNat * 6)) = some (.bool ((rd_T23 l0 x8_1).f0)) ∧ w'.cell? ⟨(ad235.add ((x8_1).toNat * 6)).block, (ad235.add ((x8_1).toNat * 6)).off + 1, none⟩ = some (.int .i64 ((rd_T23 l0 x8_1).f1)) ∧ w'.cell? ⟨(ad235.add ((x8_1).toNat * 6)).block, (ad235.add ((x8_1).toNat * 6)).off + 2, none⟩ = some (.int .i64 ((rd_T23 l0 x8_1).f2)) ∧ w'.cell? ⟨(ad235.add ((x8_1).toNat * 6)).block, (ad235.add ((x8_1).toNat * 6)).off + 3, none⟩ = some (.int .i64 ((rd_T23 l0 x8_1).f3)) ∧ w'.cell? ⟨(ad235.add ((x8_1).toNat * 6)).block, (ad235.add ((x8_1).toNat * 6)).off + 4, none⟩ = some (.int .i64 ((rd_T23 l0 x8_1).f4)) ∧ w'.cell? ⟨(ad235.add ((x8_1).toNat * 6)).block, (ad235.add ((x8_1).toNat * 6)).off + 5, none⟩ = some (.int .i64 ((rd_T23 l0 x8_1).f5))) (ds := []) #[false, false, false, false, false, false, false, false, false, false] (by kernel_rfl) rfl rfl ⟨(YI BK234.out 0).trans rfl, (YI BK234.out 1).trans rfl, (YI BK234.out 2).trans rfl, (YI BK234.out 3).trans rfl, (YI BK234.out 4).trans rfl, (YI BK234.out 5).trans rfl, ((HB.out.cell (World.block_lt_of_cell? w _ hw240_0)).trans hw240_0), ((HB.out.cell (World.block_lt_of_cell? w _ hw240_1)).trans hw240_1), ((HB.out.cell (World.block_lt_of_cell? w _ hw240_2)).trans hw240_2), ((HB.out.cell (World.block_lt_of_cell? w _ hw240_3)).trans hw240_3), ((HB.out.cell (World.block_lt_of_cell? w _ hw240_4)).trans hw240_4), ((HB.out.cell (World.block_lt_of_cell? w _ hw240_5)).trans hw240_5)⟩ (fun hHeld => ?_); refine with_tabW thalwegref02_Ends.tab9 thalwegref02_Ends.bits9 (fun HT_ HW_ => ?_)
                  generalize w37.drew = w38 at BK231 BK232 BK233 BK234 HB hx240_0 hx240_1 hx240_2 hx240_3 hx240_4 hx240_5 hHeld ⊢
                  refine pure_ (i := 0) (N := some 35) (v := ?_) (a' := ?_) #[true, false, false, false, false, false, false, false, false, false] rfl rfl (any_of HT_.out (by kernel_rfl)) (fun _ _ _ h => h) (Or.inl ⟨by rfl, ?_⟩) ?_ ?_
                  rotate_left
                  · intro w'
                    go_simp; with_reducible rfl
                  rotate_left
                  · simp only [Act.put, YM, YN, YO, i64_w, i32_w]
                    rfl
                  refine pure_ (i := 1) (N := some 36) (v := ?_) (a' := ?_) #[true, true, false, false, false, false, false, false, false, false] rfl rfl (any_of HT_.out (by kernel_rfl)) (fun _ _ _ h => h) (Or.inl ⟨by rfl, ?_⟩) ?_ ?_
                  rotate_left
                  · intro w'
                    go_simp; with_reducible rfl
                  rotate_left
                  · simp only [Act.put, YM, YN, YO, i64_w, i32_w]
                    rfl
                  refine pure_ (i := 2) (N := some 37) (v := ?_) (a' := ?_) #[true, true, true, false, false, false, false, false, false, false] rfl rfl (any_of HT_.out (by kernel_rfl)) (fun _ _ _ h => h) (Or.inl ⟨by rfl, ?_⟩) ?_ ?_
                  rotate_left
                  · intro w'
                    go_simp; with_reducible rfl
                  rotate_left
                  · simp only [Act.put, YM, YN, YO, i64_w, i32_w]
                    rfl
                  refine pure_ (i := 4) (N := some 39) (v := ?_) (a' := ?_) #[true, true, true, false, true, false, false, false, false, false] rfl rfl (any_of HT_.out (by kernel_rfl)) (fun _ _ _ h => h) (Or.inl ⟨by rfl, ?_⟩) ?_ ?_
                  rotate_left
                  · intro w'
                    go_simp; with_reducible rfl
                  rotate_left
                  · simp only [Act.put, YM, YN, YO, i64_w, i32_w]
                    rfl
                  refine pure_ (i := 5) (N := some 40) (v := ?_) (a' := ?_) #[true, true, true, false, true, true, false, false, false, false] rfl rfl (any_of HT_.out (by kernel_rfl)) (fun _ _ _ h => h) (Or.inl ⟨by rfl, ?_⟩) ?_ ?_
                  rotate_left
                  · intro w'
                    go_simp; with_reducible rfl
                  rotate_left
                  · simp only [Act.put, YM, YN, YO, i64_w, i32_w]
                    rfl
                  refine pure_ (i := 6) (N := some 41) (v := ?_) (a' := ?_) #[true, true, true, false, true, true, true, false, false, false] rfl rfl (any_of HT_.out (by kernel_rfl)) (fun _ _ _ h => h) (Or.inl ⟨by rfl, ?_⟩) ?_ ?_
                  rotate_left
                  · intro w'
                    go_simp; with_reducible rfl
                  rotate_left
                  · simp only [Act.put, YM, YN, YO, i64_w, i32_w]
                    rfl
                  refine take_ (i := 3) (N := some 38) (v := ?_) (a' := ?_) #[true, true, true, true, true, true, true, false, false, false] rfl rfl (take_ofW HT_.out HW_.out (by kernel_rfl)) (fun _ _ _ h => h) (Or.inl ⟨by rfl, ?_⟩) hHeld ?_ ?_
                  rotate_left
                  · rintro w' ⟨s0, s1, s2, s3, s4, s5, s6, s7, s8, s9, s10, s11⟩
                    go_simp; with_reducible rfl
                  rotate_left
                  · simp only [Act.put, YM, YN, YO, i64_w, i32_w]
                    rfl
                  refine take_ (i := 7) (N := some 42) (v := ?_) (a' := ?_) #[true, true, true, true, true, true, true, true, false, false] rfl rfl (take_ofW HT_.out HW_.out (by kernel_rfl)) (fun _ _ _ h => h) (Or.inl ⟨by rfl, ?_⟩) hHeld ?_ ?_
                  rotate_left
                  · rintro w' ⟨s0, s1, s2, s3, s4, s5, s6, s7, s8, s9, s10, s11⟩
                    go_simp; with_reducible rfl
                  rotate_left
                  · simp only [Act.put, YM, YN, YO, i64_w, i32_w]
                    rfl
                  refine one_ (i := 8) (N := some 43) #[true, true, true, true, true, true, true, true, true, false] rfl rfl (one_of HT_.out (by kernel_rfl)) (by decide) (fun K hK => ?_)
                  refine goes_ Try.func15 (by kernel_rfl) rfl #[.agg #[.bool x235000_1, .int .i64 x235001_1, .int .i64 x235002_1, .int .i64 x235003_1, .int .i64 x235004_1, .int .i64 x235005_1], .agg #[.bool ((rd_T23 l0 x8_1).f0), .int .i64 ((rd_T23 l0 x8_1).f1), .int .i64 ((rd_T23 l0 x8_1).f2), .int .i64 ((rd_T23 l0 x8_1).f3), .int .i64 ((rd_T23 l0 x8_1).f4), .int .i64 ((rd_T23 l0 x8_1).f5)]] (by rfl) rfl rfl (by (try simp only [YP, List.map_cons, List.map_nil]); first | done | rfl | (simp only [YR, YQ]; rfl)) ?_
                  with_reducible refine (thalwegref02_Less.calls kj9 x235000_1 x235001_1 x235002_1 x235003_1 x235004_1 x235005_1 ((rd_T23 l0 x8_1).f0) ((rd_T23 l0 x8_1).f1) ((rd_T23 l0 x8_1).f2) ((rd_T23 l0 x8_1).f3) ((rd_T23 l0 x8_1).f4) ((rd_T23 l0 x8_1).f5) false _ A21.out).mono ?_
                  rintro e w39 ⟨rfl, hb⟩
                  refine ⟨_, rfl, ?_⟩
                  have n0_ := YL (YK (g := gb231) (o := .cells #[.bool false, .int .i64 0, .int .i64 0, .int .i64 0, .int .i64 0, .int .i64 0] 23 (0, 0)) (by (with_reducible repeat (first | refine YF ?_ _ | refine YG ?_ | refine YH ?_ _)); exact BK231.out) hb)
                  have n1_ := YL (YK (g := gb232) (o := .cells #[.bool false, .int .i64 0, .int .i64 0, .int .i64 0, .int .i64 0, .int .i64 0] 23 (0, 0)) (by (with_reducible repeat (first | refine YF ?_ _ | refine YG ?_ | refine YH ?_ _)); exact BK232.out) hb)
                  have n2_ := YL (YK (g := gb233) (o := .cells #[.bool ((rd_T23 l0 x8_1).f0), .int .i64 ((rd_T23 l0 x8_1).f1), .int .i64 ((rd_T23 l0 x8_1).f2), .int .i64 ((rd_T23 l0 x8_1).f3), .int .i64 ((rd_T23 l0 x8_1).f4), .int .i64 ((rd_T23 l0 x8_1).f5)] 23 (0, 0)) (by (with_reducible repeat (first | refine YF ?_ _ | refine YG ?_ | refine YH ?_ _)); exact BK233.out) hb)
                  have n3_ := YL (YK (g := gb234) (o := .cells #[.bool x235000_1, .int .i64 x235001_1, .int .i64 x235002_1, .int .i64 x235003_1, .int .i64 x235004_1, .int .i64 x235005_1] 23 (0, 0)) (by (with_reducible repeat (first | refine YF ?_ _ | refine YG ?_ | refine YH ?_ _)); exact BK234.out) hb)
                  have n4_ := YL (YD (by repeat (first | (with_reducible first | exact HB.out | apply YA | apply YB | apply YC | refine below_set ?_ GE231.out | refine below_set ?_ GE232.out | refine below_set ?_ GE233.out | refine below_set ?_ GE234.out) | exact HB.out)) hb)
                  clear BK231; clear BK232; clear BK233; clear BK234; clear HB; have BK231 := n0_; have BK232 := n1_; have BK233 := n2_; have BK234 := n3_; have HB := n4_; clear n0_ n1_ n2_ n3_ n4_; (try clear hb); (try clear hb2); (try clear hk); (try clear hi)
                  refine hK.out _ _ ⟨(YI BK234.out 0).trans rfl, (YI BK234.out 1).trans rfl, (YI BK234.out 2).trans rfl, (YI BK234.out 3).trans rfl, (YI BK234.out 4).trans rfl, (YI BK234.out 5).trans rfl, ((HB.out.cell (World.block_lt_of_cell? w _ hw240_0)).trans hw240_0), ((HB.out.cell (World.block_lt_of_cell? w _ hw240_1)).trans hw240_1), ((HB.out.cell (World.block_lt_of_cell? w _ hw240_2)).trans hw240_2), ((HB.out.cell (World.block_lt_of_cell? w _ hw240_3)).trans hw240_3), ((HB.out.cell (World.block_lt_of_cell? w _ hw240_4)).trans hw240_4), ((HB.out.cell (World.block_lt_of_cell? w _ hw240_5)).trans hw240_5)⟩ (fun hHeld => ?_)
                  clear hK K
                  refine norm_ (a' := ?_) ?_ ?_
                  rotate_left
                  · show Act.put _ (some 43) _ = _
                    simp only [Act.put, YM, YN, YO, i64_w, i32_w]
                    rfl
                  refine pure_ (i := 9) (N := some 44) (v := ?_) (a' := ?_) #[true, true, true, true, true, true, true, true, true, true] rfl rfl (any_of HT_.out (by kernel_rfl)) (fun _ _ _ h => h) (Or.inl ⟨by rfl, ?_⟩) ?_ ?_
                  rotate_left
                  · intro w'
                    go_simp; with_reducible rfl
                  rotate_left
                  · simp only [Act.put, YM, YN, YO, i64_w, i32_w]
                    rfl
                  refine done_ (done_of HT_.out (by kernel_rfl)) ?_
                  try go_wp2
                  go_roundg kj9
                  case measure => have := HK1.out; have := HJ9.out; omega
                  case rel => exact ⟨(true), (wrap64 (x8_1 + 1)), ((rd_T23 l0 x8_1).f0), ((rd_T23 l0 x8_1).f1), ((rd_T23 l0 x8_1).f2), ((rd_T23 l0 x8_1).f3), ((rd_T23 l0 x8_1).f4), ((rd_T23 l0 x8_1).f5), (x235000_1), (x235001_1), (x235002_1), (x235003_1), (x235004_1), (x235005_1), (by first | rfl | (simp; done) | (simp [*]; done)), (by first | rfl | (simp; done) | (simp [*]; done)), H', ⟨by have := HK1.out; have := HJ9.out; omega⟩, ⟨by (with_reducible repeat (first | refine YF ?_ _ | refine YG ?_ | refine YH ?_ _)); exact BK231.out⟩, ⟨by (with_reducible repeat (first | refine YF ?_ _ | refine YG ?_ | refine YH ?_ _)); exact BK232.out⟩, ⟨by (with_reducible repeat (first | refine YF ?_ _ | refine YG ?_ | refine YH ?_ _)); exact BK233.out⟩, ⟨by (with_reducible repeat (first | refine YF ?_ _ | refine YG ?_ | refine YH ?_ _)); exact BK234.out⟩, ⟨by repeat (first | (with_reducible first | exact HB.out | apply YA | apply YB | apply YC | refine below_set ?_ GE231.out | refine below_set ?_ GE232.out | refine below_set ?_ GE233.out | refine below_set ?_ GE234.out) | exact HB.out)⟩⟩
                replace c20 := Bool.eq_false_iff.mpr c20
                subst c20
                have H1 : (thalwegref02_Ends.l0 kj9 l0 true (wrap64 (x8_1 + 1)) ((rd_T23 l0 x8_1).f0) ((rd_T23 l0 x8_1).f1) ((rd_T23 l0 x8_1).f2) ((rd_T23 l0 x8_1).f3) ((rd_T23 l0 x8_1).f4) ((rd_T23 l0 x8_1).f5) ((rd_T23 l0 x8_1).f0) ((rd_T23 l0 x8_1).f1) ((rd_T23 l0 x8_1).f2) ((rd_T23 l0 x8_1).f3) ((rd_T23 l0 x8_1).f4) ((rd_T23 l0 x8_1).f5)) = some (r1, r2, r3, r4, r5, r6, r7, r8, r9, r10, r11, r12, r13) := by rw [if_neg (show ¬ (false = true) by decide)] at H; exact H
                clear H
                have H := H1
                clear H1
                have H' := YL H
                clear H
                have p239 : 0 ≤ (x8_1 : Int) := of_decide_eq_true (by first | (with_reducible assumption) | assumption)
                have q239 : x8_1 < (l0.length : Int) := of_decide_eq_true (by first | (with_reducible assumption) | assumption)
                obtain ⟨ad239, e239, hx239_0, hx239_1, hx239_2, hx239_3, hx239_4, hx239_5⟩ := at_T23 HR0.out x8_1 p239 q239
                obtain rfl : ad235 = ad239 := (by injection e239)
                replace hx239_0 := (HB.out.cell (World.block_lt_of_cell? w _ hx239_0)).trans hx239_0
                replace hx239_1 := (HB.out.cell (World.block_lt_of_cell? w _ hx239_1)).trans hx239_1
                replace hx239_2 := (HB.out.cell (World.block_lt_of_cell? w _ hx239_2)).trans hx239_2
                replace hx239_3 := (HB.out.cell (World.block_lt_of_cell? w _ hx239_3)).trans hx239_3
                replace hx239_4 := (HB.out.cell (World.block_lt_of_cell? w _ hx239_4)).trans hx239_4
                replace hx239_5 := (HB.out.cell (World.block_lt_of_cell? w _ hx239_5)).trans hx239_5
                replace p239 := eq_true p239
                replace q239 := eq_true q239
                have hnb40 := NB233_231.out
                have hnc40 := NB231_233.out
                have hnb41 := NB233_232.out
                have hnc41 := NB232_233.out
                have hnb42 := NB233_234.out
                have hnc42 := NB234_233.out
                have hcz43_0 : wc.cell? ⟨gb233, 0, none⟩ = some (.bool x234000_1) := (YI BK233.out 0).trans rfl
                have hcz43_1 : wc.cell? ⟨gb233, 1, none⟩ = some (.int .i64 x234001_1) := (YI BK233.out 1).trans rfl
                have hcz43_2 : wc.cell? ⟨gb233, 2, none⟩ = some (.int .i64 x234002_1) := (YI BK233.out 2).trans rfl
                have hcz43_3 : wc.cell? ⟨gb233, 3, none⟩ = some (.int .i64 x234003_1) := (YI BK233.out 3).trans rfl
                have hcz43_4 : wc.cell? ⟨gb233, 4, none⟩ = some (.int .i64 x234004_1) := (YI BK233.out 4).trans rfl
                have hcz43_5 : wc.cell? ⟨gb233, 5, none⟩ = some (.int .i64 x234005_1) := (YI BK233.out 5).trans rfl
                have hfz43_0 := YJ BK233.out 0
                have hfz43_1 := YJ BK233.out 1
                have hfz43_2 := YJ BK233.out 2
                have hfz43_3 := YJ BK233.out 3
                have hfz43_4 := YJ BK233.out 4
                have hfz43_5 := YJ BK233.out 5
                try go_wp2
                have n0_ : Aside0 (((((((wc.setCell ⟨gb233, 0, none⟩ (.bool ((rd_T23 l0 x8_1).f0))).setCell ⟨gb233, 1, none⟩ (.int .i64 ((rd_T23 l0 x8_1).f1))).setCell ⟨gb233, 2, none⟩ (.int .i64 ((rd_T23 l0 x8_1).f2))).setCell ⟨gb233, 3, none⟩ (.int .i64 ((rd_T23 l0 x8_1).f3))).setCell ⟨gb233, 4, none⟩ (.int .i64 ((rd_T23 l0 x8_1).f4))).setCell ⟨gb233, 5, none⟩ (.int .i64 ((rd_T23 l0 x8_1).f5))).heap[gb231]? = some (.cells #[.bool false, .int .i64 0, .int .i64 0, .int .i64 0, .int .i64 0, .int .i64 0] 23 (0, 0))) := ⟨by (with_reducible repeat (first | refine YF ?_ _ | refine YG ?_ | refine YH ?_ _)); refine blk_far ?_ NB231_233.out _; (with_reducible repeat (first | refine YF ?_ _ | refine YG ?_ | refine YH ?_ _)); refine blk_far ?_ NB231_233.out _; (with_reducible repeat (first | refine YF ?_ _ | refine YG ?_ | refine YH ?_ _)); refine blk_far ?_ NB231_233.out _; (with_reducible repeat (first | refine YF ?_ _ | refine YG ?_ | refine YH ?_ _)); refine blk_far ?_ NB231_233.out _; (with_reducible repeat (first | refine YF ?_ _ | refine YG ?_ | refine YH ?_ _)); refine blk_far ?_ NB231_233.out _; (with_reducible repeat (first | refine YF ?_ _ | refine YG ?_ | refine YH ?_ _)); refine blk_far ?_ NB231_233.out _; (with_reducible repeat (first | refine YF ?_ _ | refine YG ?_ | refine YH ?_ _)); exact BK231.out⟩
                have n1_ : Aside0 (((((((wc.setCell ⟨gb233, 0, none⟩ (.bool ((rd_T23 l0 x8_1).f0))).setCell ⟨gb233, 1, none⟩ (.int .i64 ((rd_T23 l0 x8_1).f1))).setCell ⟨gb233, 2, none⟩ (.int .i64 ((rd_T23 l0 x8_1).f2))).setCell ⟨gb233, 3, none⟩ (.int .i64 ((rd_T23 l0 x8_1).f3))).setCell ⟨gb233, 4, none⟩ (.int .i64 ((rd_T23 l0 x8_1).f4))).setCell ⟨gb233, 5, none⟩ (.int .i64 ((rd_T23 l0 x8_1).f5))).heap[gb232]? = some (.cells #[.bool false, .int .i64 0, .int .i64 0, .int .i64 0, .int .i64 0, .int .i64 0] 23 (0, 0))) := ⟨by (with_reducible repeat (first | refine YF ?_ _ | refine YG ?_ | refine YH ?_ _)); refine blk_far ?_ NB232_233.out _; (with_reducible repeat (first | refine YF ?_ _ | refine YG ?_ | refine YH ?_ _)); refine blk_far ?_ NB232_233.out _; (with_reducible repeat (first | refine YF ?_ _ | refine YG ?_ | refine YH ?_ _)); refine blk_far ?_ NB232_233.out _; (with_reducible repeat (first | refine YF ?_ _ | refine YG ?_ | refine YH ?_ _)); refine blk_far ?_ NB232_233.out _; (with_reducible repeat (first | refine YF ?_ _ | refine YG ?_ | refine YH ?_ _)); refine blk_far ?_ NB232_233.out _; (with_reducible repeat (first | refine YF ?_ _ | refine YG ?_ | refine YH ?_ _)); refine blk_far ?_ NB232_233.out _; (with_reducible repeat (first | refine YF ?_ _ | refine YG ?_ | refine YH ?_ _)); exact BK232.out⟩
                have n2_ : Aside0 (((((((wc.setCell ⟨gb233, 0, none⟩ (.bool ((rd_T23 l0 x8_1).f0))).setCell ⟨gb233, 1, none⟩ (.int .i64 ((rd_T23 l0 x8_1).f1))).setCell ⟨gb233, 2, none⟩ (.int .i64 ((rd_T23 l0 x8_1).f2))).setCell ⟨gb233, 3, none⟩ (.int .i64 ((rd_T23 l0 x8_1).f3))).setCell ⟨gb233, 4, none⟩ (.int .i64 ((rd_T23 l0 x8_1).f4))).setCell ⟨gb233, 5, none⟩ (.int .i64 ((rd_T23 l0 x8_1).f5))).heap[gb233]? = some (.cells #[.bool ((rd_T23 l0 x8_1).f0), .int .i64 ((rd_T23 l0 x8_1).f1), .int .i64 ((rd_T23 l0 x8_1).f2), .int .i64 ((rd_T23 l0 x8_1).f3), .int .i64 ((rd_T23 l0 x8_1).f4), .int .i64 ((rd_T23 l0 x8_1).f5)] 23 (0, 0))) := ⟨by (with_reducible repeat (first | refine YF ?_ _ | refine YG ?_ | refine YH ?_ _)); refine blk_put (cs := #[.bool ((rd_T23 l0 x8_1).f0), .int .i64 ((rd_T23 l0 x8_1).f1), .int .i64 ((rd_T23 l0 x8_1).f2), .int .i64 ((rd_T23 l0 x8_1).f3), .int .i64 ((rd_T23 l0 x8_1).f4), .int .i64 x234005_1]) ?_ 5 _ rfl; (with_reducible repeat (first | refine YF ?_ _ | refine YG ?_ | refine YH ?_ _)); refine blk_put (cs := #[.bool ((rd_T23 l0 x8_1).f0), .int .i64 ((rd_T23 l0 x8_1).f1), .int .i64 ((rd_T23 l0 x8_1).f2), .int .i64 ((rd_T23 l0 x8_1).f3), .int .i64 x234004_1, .int .i64 x234005_1]) ?_ 4 _ rfl; (with_reducible repeat (first | refine YF ?_ _ | refine YG ?_ | refine YH ?_ _)); refine blk_put (cs := #[.bool ((rd_T23 l0 x8_1).f0), .int .i64 ((rd_T23 l0 x8_1).f1), .int .i64 ((rd_T23 l0 x8_1).f2), .int .i64 x234003_1, .int .i64 x234004_1, .int .i64 x234005_1]) ?_ 3 _ rfl; (with_reducible repeat (first | refine YF ?_ _ | refine YG ?_ | refine YH ?_ _)); refine blk_put (cs := #[.bool ((rd_T23 l0 x8_1).f0), .int .i64 ((rd_T23 l0 x8_1).f1), .int .i64 x234002_1, .int .i64 x234003_1, .int .i64 x234004_1, .int .i64 x234005_1]) ?_ 2 _ rfl; (with_reducible repeat (first | refine YF ?_ _ | refine YG ?_ | refine YH ?_ _)); refine blk_put (cs := #[.bool ((rd_T23 l0 x8_1).f0), .int .i64 x234001_1, .int .i64 x234002_1, .int .i64 x234003_1, .int .i64 x234004_1, .int .i64 x234005_1]) ?_ 1 _ rfl; (with_reducible repeat (first | refine YF ?_ _ | refine YG ?_ | refine YH ?_ _)); refine blk_put (cs := #[.bool x234000_1, .int .i64 x234001_1, .int .i64 x234002_1, .int .i64 x234003_1, .int .i64 x234004_1, .int .i64 x234005_1]) ?_ 0 _ rfl; (with_reducible repeat (first | refine YF ?_ _ | refine YG ?_ | refine YH ?_ _)); exact BK233.out⟩
                have n3_ : Aside0 (((((((wc.setCell ⟨gb233, 0, none⟩ (.bool ((rd_T23 l0 x8_1).f0))).setCell ⟨gb233, 1, none⟩ (.int .i64 ((rd_T23 l0 x8_1).f1))).setCell ⟨gb233, 2, none⟩ (.int .i64 ((rd_T23 l0 x8_1).f2))).setCell ⟨gb233, 3, none⟩ (.int .i64 ((rd_T23 l0 x8_1).f3))).setCell ⟨gb233, 4, none⟩ (.int .i64 ((rd_T23 l0 x8_1).f4))).setCell ⟨gb233, 5, none⟩ (.int .i64 ((rd_T23 l0 x8_1).f5))).heap[gb234]? = some (.cells #[.bool x235000_1, .int .i64 x235001_1, .int .i64 x235002_1, .int .i64 x235003_1, .int .i64 x235004_1, .int .i64 x235005_1] 23 (0, 0))) := ⟨by (with_reducible repeat (first | refine YF ?_ _ | refine YG ?_ | refine YH ?_ _)); refine blk_far ?_ NB234_233.out _; (with_reducible repeat (first | refine YF ?_ _ | refine YG ?_ | refine YH ?_ _)); refine blk_far ?_ NB234_233.out _; (with_reducible repeat (first | refine YF ?_ _ | refine YG ?_ | refine YH ?_ _)); refine blk_far ?_ NB234_233.out _; (with_reducible repeat (first | refine YF ?_ _ | refine YG ?_ | refine YH ?_ _)); refine blk_far ?_ NB234_233.out _; (with_reducible repeat (first | refine YF ?_ _ | refine YG ?_ | refine YH ?_ _)); refine blk_far ?_ NB234_233.out _; (with_reducible repeat (first | refine YF ?_ _ | refine YG ?_ | refine YH ?_ _)); refine blk_far ?_ NB234_233.out _; (with_reducible repeat (first | refine YF ?_ _ | refine YG ?_ | refine YH ?_ _)); exact BK234.out⟩
                have n4_ : Aside0 (Below w.heap.size w ((((((wc.setCell ⟨gb233, 0, none⟩ (.bool ((rd_T23 l0 x8_1).f0))).setCell ⟨gb233, 1, none⟩ (.int .i64 ((rd_T23 l0 x8_1).f1))).setCell ⟨gb233, 2, none⟩ (.int .i64 ((rd_T23 l0 x8_1).f2))).setCell ⟨gb233, 3, none⟩ (.int .i64 ((rd_T23 l0 x8_1).f3))).setCell ⟨gb233, 4, none⟩ (.int .i64 ((rd_T23 l0 x8_1).f4))).setCell ⟨gb233, 5, none⟩ (.int .i64 ((rd_T23 l0 x8_1).f5)))) := ⟨by repeat (first | (with_reducible first | exact HB.out | apply YA | apply YB | apply YC | refine below_set ?_ GE231.out | refine below_set ?_ GE232.out | refine below_set ?_ GE233.out | refine below_set ?_ GE234.out) | exact HB.out)⟩
                (try clear BK231); (try clear BK232); (try clear BK233); (try clear BK234); (try clear HB)
                generalize ((((((wc.setCell ⟨gb233, 0, none⟩ (.bool ((rd_T23 l0 x8_1).f0))).setCell ⟨gb233, 1, none⟩ (.int .i64 ((rd_T23 l0 x8_1).f1))).setCell ⟨gb233, 2, none⟩ (.int .i64 ((rd_T23 l0 x8_1).f2))).setCell ⟨gb233, 3, none⟩ (.int .i64 ((rd_T23 l0 x8_1).f3))).setCell ⟨gb233, 4, none⟩ (.int .i64 ((rd_T23 l0 x8_1).f4))).setCell ⟨gb233, 5, none⟩ (.int .i64 ((rd_T23 l0 x8_1).f5))) = w44 at n0_ n1_ n2_ n3_ n4_ ⊢
                have BK231 := n0_; have BK232 := n1_; have BK233 := n2_; have BK234 := n3_; have HB := n4_; clear n0_ n1_ n2_ n3_ n4_
                have n0_ := YL (YG BK231.out)
                have n1_ := YL (YG BK232.out)
                have n2_ := YL (YG BK233.out)
                have n3_ := YL (YG BK234.out)
                have n4_ := YL (YC HB.out)
                clear BK231; clear BK232; clear BK233; clear BK234; clear HB; have BK231 := n0_; have BK232 := n1_; have BK233 := n2_; have BK234 := n3_; have HB := n4_; clear n0_ n1_ n2_ n3_ n4_
                refine start_ (n := 10) (S := fun w' => True) (ds := []) #[false, false, false, false, false, false, false, false, false, false] (by kernel_rfl) rfl rfl trivial (fun hHeld => ?_); refine with_tabW thalwegref02_Ends.tab9 thalwegref02_Ends.bits9 (fun HT_ HW_ => ?_)
                generalize w44.drew = w45 at BK231 BK232 BK233 BK234 HB hHeld ⊢
                refine pure_ (i := 0) (N := some 35) (v := ?_) (a' := ?_) #[true, false, false, false, false, false, false, false, false, false] rfl rfl (any_of HT_.out (by kernel_rfl)) (fun _ _ _ h => h) (Or.inl ⟨by rfl, ?_⟩) ?_ ?_
                rotate_left
                · intro w'
                  go_simp; with_reducible rfl
                rotate_left
                · simp only [Act.put, YM, YN, YO, i64_w, i32_w]
                  rfl
                refine pure_ (i := 1) (N := some 36) (v := ?_) (a' := ?_) #[true, true, false, false, false, false, false, false, false, false] rfl rfl (any_of HT_.out (by kernel_rfl)) (fun _ _ _ h => h) (Or.inl ⟨by rfl, ?_⟩) ?_ ?_
                rotate_left
                · intro w'
                  go_simp; with_reducible rfl
                rotate_left
                · simp only [Act.put, YM, YN, YO, i64_w, i32_w]
                  rfl
                refine pure_ (i := 2) (N := some 37) (v := ?_) (a' := ?_) #[true, true, true, false, false, false, false, false, false, false] rfl rfl (any_of HT_.out (by kernel_rfl)) (fun _ _ _ h => h) (Or.inl ⟨by rfl, ?_⟩) ?_ ?_
                rotate_left
                · intro w'
                  go_simp; with_reducible rfl
                rotate_left
                · simp only [Act.put, YM, YN, YO, i64_w, i32_w]
                  rfl
                refine pure_ (i := 3) (N := some 38) (v := undef) (a' := ?_) #[true, true, true, true, false, false, false, false, false, false] rfl rfl (any_of HT_.out (by kernel_rfl)) (fun _ _ _ h => h) (Or.inr ⟨by rfl, rfl⟩) ?_ ?_
                rotate_left
                · simp only [Act.put, YM, YN, YO, i64_w, i32_w]
                  rfl
                refine pure_ (i := 4) (N := some 39) (v := undef) (a' := ?_) #[true, true, true, true, true, false, false, false, false, false] rfl rfl (any_of HT_.out (by kernel_rfl)) (fun _ _ _ h => h) (Or.inr ⟨by rfl, rfl⟩) ?_ ?_
                rotate_left
                · simp only [Act.put, YM, YN, YO, i64_w, i32_w]
                  rfl
                refine pure_ (i := 5) (N := some 40) (v := undef) (a' := ?_) #[true, true, true, true, true, true, false, false, false, false] rfl rfl (any_of HT_.out (by kernel_rfl)) (fun _ _ _ h => h) (Or.inr ⟨by rfl, rfl⟩) ?_ ?_
                rotate_left
                · simp only [Act.put, YM, YN, YO, i64_w, i32_w]
                  rfl
                refine pure_ (i := 6) (N := some 41) (v := undef) (a' := ?_) #[true, true, true, true, true, true, true, false, false, false] rfl rfl (any_of HT_.out (by kernel_rfl)) (fun _ _ _ h => h) (Or.inr ⟨by rfl, rfl⟩) ?_ ?_
                rotate_left
                · simp only [Act.put, YM, YN, YO, i64_w, i32_w]
                  rfl
                refine pure_ (i := 7) (N := some 42) (v := undef) (a' := ?_) #[true, true, true, true, true, true, true, true, false, false] rfl rfl (any_of HT_.out (by kernel_rfl)) (fun _ _ _ h => h) (Or.inr ⟨by rfl, rfl⟩) ?_ ?_
                rotate_left
                · simp only [Act.put, YM, YN, YO, i64_w, i32_w]
                  rfl
                refine pure_ (i := 8) (N := some 43) (v := undef) (a' := ?_) #[true, true, true, true, true, true, true, true, true, false] rfl rfl (any_of HT_.out (by kernel_rfl)) (fun _ _ _ h => h) (Or.inr ⟨by rfl, rfl⟩) ?_ ?_
                rotate_left
                · simp only [Act.put, YM, YN, YO, i64_w, i32_w]
                  rfl
                refine pure_ (i := 9) (N := some 44) (v := ?_) (a' := ?_) #[true, true, true, true, true, true, true, true, true, true] rfl rfl (any_of HT_.out (by kernel_rfl)) (fun _ _ _ h => h) (Or.inl ⟨by rfl, ?_⟩) ?_ ?_
                rotate_left
                · intro w'
                  go_simp; with_reducible rfl
                rotate_left
                · simp only [Act.put, YM, YN, YO, i64_w, i32_w]
                  rfl
                refine done_ (done_of HT_.out (by kernel_rfl)) ?_
                have p243 : 0 ≤ (x8_1 : Int) := of_decide_eq_true (by first | (with_reducible assumption) | assumption)
                have q243 : x8_1 < (l0.length : Int) := of_decide_eq_true (by first | (with_reducible assumption) | assumption)
                obtain ⟨ad243, e243, hx243_0, hx243_1, hx243_2, hx243_3, hx243_4, hx243_5⟩ := at_T23 HR0.out x8_1 p243 q243
                obtain rfl : ad235 = ad243 := (by injection e243)
                replace hx243_0 := (HB.out.cell (World.block_lt_of_cell? w _ hx243_0)).trans hx243_0
                replace hx243_1 := (HB.out.cell (World.block_lt_of_cell? w _ hx243_1)).trans hx243_1
                replace hx243_2 := (HB.out.cell (World.block_lt_of_cell? w _ hx243_2)).trans hx243_2
                replace hx243_3 := (HB.out.cell (World.block_lt_of_cell? w _ hx243_3)).trans hx243_3
                replace hx243_4 := (HB.out.cell (World.block_lt_of_cell? w _ hx243_4)).trans hx243_4
                replace hx243_5 := (HB.out.cell (World.block_lt_of_cell? w _ hx243_5)).trans hx243_5
                replace p243 := eq_true p243
                replace q243 := eq_true q243
                have hnb46 := NB234_231.out
                have hnc46 := NB231_234.out
                have hnb47 := NB234_232.out
                have hnc47 := NB232_234.out
                have hcz48_0 : w45.cell? ⟨gb234, 0, none⟩ = some (.bool x235000_1) := (YI BK234.out 0).trans rfl
                have hcz48_1 : w45.cell? ⟨gb234, 1, none⟩ = some (.int .i64 x235001_1) := (YI BK234.out 1).trans rfl
                have hcz48_2 : w45.cell? ⟨gb234, 2, none⟩ = some (.int .i64 x235002_1) := (YI BK234.out 2).trans rfl
                have hcz48_3 : w45.cell? ⟨gb234, 3, none⟩ = some (.int .i64 x235003_1) := (YI BK234.out 3).trans rfl
                have hcz48_4 : w45.cell? ⟨gb234, 4, none⟩ = some (.int .i64 x235004_1) := (YI BK234.out 4).trans rfl
                have hcz48_5 : w45.cell? ⟨gb234, 5, none⟩ = some (.int .i64 x235005_1) := (YI BK234.out 5).trans rfl
                have hfz48_0 := YJ BK234.out 0
                have hfz48_1 := YJ BK234.out 1
                have hfz48_2 := YJ BK234.out 2
                have hfz48_3 := YJ BK234.out 3
                have hfz48_4 := YJ BK234.out 4
                have hfz48_5 := YJ BK234.out 5
                try go_wp2
                go_roundg kj9
                case measure => have := HK1.out; have := HJ9.out; omega
                case rel => exact ⟨(true), (wrap64 (x8_1 + 1)), ((rd_T23 l0 x8_1).f0), ((rd_T23 l0 x8_1).f1), ((rd_T23 l0 x8_1).f2), ((rd_T23 l0 x8_1).f3), ((rd_T23 l0 x8_1).f4), ((rd_T23 l0 x8_1).f5), ((rd_T23 l0 x8_1).f0), ((rd_T23 l0 x8_1).f1), ((rd_T23 l0 x8_1).f2), ((rd_T23 l0 x8_1).f3), ((rd_T23 l0 x8_1).f4), ((rd_T23 l0 x8_1).f5), (by first | rfl | (simp; done) | (simp [*]; done)), (by first | rfl | (simp; done) | (simp [*]; done)), H', ⟨by have := HK1.out; have := HJ9.out; omega⟩, ⟨by (with_reducible repeat (first | refine YF ?_ _ | refine YG ?_ | refine YH ?_ _)); refine blk_far ?_ NB231_234.out _; (with_reducible repeat (first | refine YF ?_ _ | refine YG ?_ | refine YH ?_ _)); refine blk_far ?_ NB231_234.out _; (with_reducible repeat (first | refine YF ?_ _ | refine YG ?_ | refine YH ?_ _)); refine blk_far ?_ NB231_234.out _; (with_reducible repeat (first | refine YF ?_ _ | refine YG ?_ | refine YH ?_ _)); refine blk_far ?_ NB231_234.out _; (with_reducible repeat (first | refine YF ?_ _ | refine YG ?_ | refine YH ?_ _)); refine blk_far ?_ NB231_234.out _; (with_reducible repeat (first | refine YF ?_ _ | refine YG ?_ | refine YH ?_ _)); refine blk_far ?_ NB231_234.out _; (with_reducible repeat (first | refine YF ?_ _ | refine YG ?_ | refine YH ?_ _)); exact BK231.out⟩, ⟨by (with_reducible repeat (first | refine YF ?_ _ | refine YG ?_ | refine YH ?_ _)); refine blk_far ?_ NB232_234.out _; (with_reducible repeat (first | refine YF ?_ _ | refine YG ?_ | refine YH ?_ _)); refine blk_far ?_ NB232_234.out _; (with_reducible repeat (first | refine YF ?_ _ | refine YG ?_ | refine YH ?_ _)); refine blk_far ?_ NB232_234.out _; (with_reducible repeat (first | refine YF ?_ _ | refine YG ?_ | refine YH ?_ _)); refine blk_far ?_ NB232_234.out _; (with_reducible repeat (first | refine YF ?_ _ | refine YG ?_ | refine YH ?_ _)); refine blk_far ?_ NB232_234.out _; (with_reducible repeat (first | refine YF ?_ _ | refine YG ?_ | refine YH ?_ _)); refine blk_far ?_ NB232_234.out _; (with_reducible repeat (first | refine YF ?_ _ | refine YG ?_ | refine YH ?_ _)); exact BK232.out⟩, ⟨by (with_reducible repeat (first | refine YF ?_ _ | refine YG ?_ | refine YH ?_ _)); refine blk_far ?_ NB233_234.out _; (with_reducible repeat (first | refine YF ?_ _ | refine YG ?_ | refine YH ?_ _)); refine blk_far ?_ NB233_234.out _; (with_reducible repeat (first | refine YF ?_ _ | refine YG ?_ | refine YH ?_ _)); refine blk_far ?_ NB233_234.out _; (with_reducible repeat (first | refine YF ?_ _ | refine YG ?_ | refine YH ?_ _)); refine blk_far ?_ NB233_234.out _; (with_reducible repeat (first | refine YF ?_ _ | refine YG ?_ | refine YH ?_ _)); refine blk_far ?_ NB233_234.out _; (with_reducible repeat (first | refine YF ?_ _ | refine YG ?_ | refine YH ?_ _)); refine blk_far ?_ NB233_234.out _; (with_reducible repeat (first | refine YF ?_ _ | refine YG ?_ | refine YH ?_ _)); exact BK233.out⟩, ⟨by (with_reducible repeat (first | refine YF ?_ _ | refine YG ?_ | refine YH ?_ _)); refine blk_put (cs := #[.bool ((rd_T23 l0 x8_1).f0), .int .i64 ((rd_T23 l0 x8_1).f1), .int .i64 ((rd_T23 l0 x8_1).f2), .int .i64 ((rd_T23 l0 x8_1).f3), .int .i64 ((rd_T23 l0 x8_1).f4), .int .i64 x235005_1]) ?_ 5 _ rfl; (with_reducible repeat (first | refine YF ?_ _ | refine YG ?_ | refine YH ?_ _)); refine blk_put (cs := #[.bool ((rd_T23 l0 x8_1).f0), .int .i64 ((rd_T23 l0 x8_1).f1), .int .i64 ((rd_T23 l0 x8_1).f2), .int .i64 ((rd_T23 l0 x8_1).f3), .int .i64 x235004_1, .int .i64 x235005_1]) ?_ 4 _ rfl; (with_reducible repeat (first | refine YF ?_ _ | refine YG ?_ | refine YH ?_ _)); refine blk_put (cs := #[.bool ((rd_T23 l0 x8_1).f0), .int .i64 ((rd_T23 l0 x8_1).f1), .int .i64 ((rd_T23 l0 x8_1).f2), .int .i64 x235003_1, .int .i64 x235004_1, .int .i64 x235005_1]) ?_ 3 _ rfl; (with_reducible repeat (first | refine YF ?_ _ | refine YG ?_ | refine YH ?_ _)); refine blk_put (cs := #[.bool ((rd_T23 l0 x8_1).f0), .int .i64 ((rd_T23 l0 x8_1).f1), .int .i64 x235002_1, .int .i64 x235003_1, .int .i64 x235004_1, .int .i64 x235005_1]) ?_ 2 _ rfl; (with_reducible repeat (first | refine YF ?_ _ | refine YG ?_ | refine YH ?_ _)); refine blk_put (cs := #[.bool ((rd_T23 l0 x8_1).f0), .int .i64 x235001_1, .int .i64 x235002_1, .int .i64 x235003_1, .int .i64 x235004_1, .int .i64 x235005_1]) ?_ 1 _ rfl; (with_reducible repeat (first | refine YF ?_ _ | refine YG ?_ | refine YH ?_ _)); refine blk_put (cs := #[.bool x235000_1, .int .i64 x235001_1, .int .i64 x235002_1, .int .i64 x235003_1, .int .i64 x235004_1, .int .i64 x235005_1]) ?_ 0 _ rfl; (with_reducible repeat (first | refine YF ?_ _ | refine YG ?_ | refine YH ?_ _)); exact BK234.out⟩, ⟨by repeat (first | (with_reducible first | exact HB.out | apply YA | apply YB | apply YC | refine below_set ?_ GE231.out | refine below_set ?_ GE232.out | refine below_set ?_ GE233.out | refine below_set ?_ GE234.out) | exact HB.out)⟩⟩
              replace c17 := Bool.eq_false_iff.mpr c17
              subst c17
              have H1 : (if x7_1 = true then (if 0 ≤ x8_1 then (if x8_1 < (l0.length : Int) then ((thalwegref02_Less.f kj9 x235000_1 x235001_1 x235002_1 x235003_1 x235004_1 x235005_1 ((rd_T23 l0 x8_1).f0) ((rd_T23 l0 x8_1).f1) ((rd_T23 l0 x8_1).f2) ((rd_T23 l0 x8_1).f3) ((rd_T23 l0 x8_1).f4) ((rd_T23 l0 x8_1).f5)).bind fun t245 => (if t245 = true then (thalwegref02_Ends.l0 kj9 l0 true (wrap64 (x8_1 + 1)) x234000_1 x234001_1 x234002_1 x234003_1 x234004_1 x234005_1 ((rd_T23 l0 x8_1).f0) ((rd_T23 l0 x8_1).f1) ((rd_T23 l0 x8_1).f2) ((rd_T23 l0 x8_1).f3) ((rd_T23 l0 x8_1).f4) ((rd_T23 l0 x8_1).f5)) else (thalwegref02_Ends.l0 kj9 l0 true (wrap64 (x8_1 + 1)) x234000_1 x234001_1 x234002_1 x234003_1 x234004_1 x234005_1 x235000_1 x235001_1 x235002_1 x235003_1 x235004_1 x235005_1))) else (none)) else (none)) else (if 0 ≤ x8_1 then (if x8_1 < (l0.length : Int) then (thalwegref02_Ends.l0 kj9 l0 true (wrap64 (x8_1 + 1)) x234000_1 x234001_1 x234002_1 x234003_1 x234004_1 x234005_1 ((rd_T23 l0 x8_1).f0) ((rd_T23 l0 x8_1).f1) ((rd_T23 l0 x8_1).f2) ((rd_T23 l0 x8_1).f3) ((rd_T23 l0 x8_1).f4) ((rd_T23 l0 x8_1).f5)) else (none)) else (none))) = some (r1, r2, r3, r4, r5, r6, r7, r8, r9, r10, r11, r12, r13) := by rw [if_neg (show ¬ (false = true) by decide)] at H; exact H
              clear H
              have H := H1
              clear H1
              by_cases c49 : x7_1 = true
              · subst c49
                have H1 : (if 0 ≤ x8_1 then (if x8_1 < (l0.length : Int) then ((thalwegref02_Less.f kj9 x235000_1 x235001_1 x235002_1 x235003_1 x235004_1 x235005_1 ((rd_T23 l0 x8_1).f0) ((rd_T23 l0 x8_1).f1) ((rd_T23 l0 x8_1).f2) ((rd_T23 l0 x8_1).f3) ((rd_T23 l0 x8_1).f4) ((rd_T23 l0 x8_1).f5)).bind fun t245 => (if t245 = true then (thalwegref02_Ends.l0 kj9 l0 true (wrap64 (x8_1 + 1)) x234000_1 x234001_1 x234002_1 x234003_1 x234004_1 x234005_1 ((rd_T23 l0 x8_1).f0) ((rd_T23 l0 x8_1).f1) ((rd_T23 l0 x8_1).f2) ((rd_T23 l0 x8_1).f3) ((rd_T23 l0 x8_1).f4) ((rd_T23 l0 x8_1).f5)) else (thalwegref02_Ends.l0 kj9 l0 true (wrap64 (x8_1 + 1)) x234000_1 x234001_1 x234002_1 x234003_1 x234004_1 x234005_1 x235000_1 x235001_1 x235002_1 x235003_1 x235004_1 x235005_1))) else (none)) else (none)) = some (r1, r2, r3, r4, r5, r6, r7, r8, r9, r10, r11, r12, r13) := by rw [if_pos rfl] at H; exact H
                clear H
                have H := H1
                clear H1
                by_cases c50 : 0 ≤ x8_1
                rotate_left
                · rw [if_neg c50] at H
                  exact absurd H (by simp)
                rw [if_pos c50] at H; have c50b0 : decide (0 ≤ x8_1) = true := decide_eq_true c50; clear c50
                by_cases c51 : x8_1 < (l0.length : Int)
                rotate_left
                · rw [if_neg c51] at H
                  exact absurd H (by simp)
                rw [if_pos c51] at H
                have c51b0 : decide (x8_1 < (l0.length : Int)) = true := decide_eq_true c51
                clear c51; replace H := Option.bind_eq_some_iff.mp H; obtain ⟨t245, A520, H⟩ := H
                replace H : (if t245 = true then (thalwegref02_Ends.l0 kj9 l0 true (wrap64 (x8_1 + 1)) x234000_1 x234001_1 x234002_1 x234003_1 x234004_1 x234005_1 ((rd_T23 l0 x8_1).f0) ((rd_T23 l0 x8_1).f1) ((rd_T23 l0 x8_1).f2) ((rd_T23 l0 x8_1).f3) ((rd_T23 l0 x8_1).f4) ((rd_T23 l0 x8_1).f5)) else (thalwegref02_Ends.l0 kj9 l0 true (wrap64 (x8_1 + 1)) x234000_1 x234001_1 x234002_1 x234003_1 x234004_1 x234005_1 x235000_1 x235001_1 x235002_1 x235003_1 x235004_1 x235005_1)) = some (r1, r2, r3, r4, r5, r6, r7, r8, r9, r10, r11, r12, r13) := H
                have A52 := YL A520; clear A520
                by_cases c53 : t245 = true
                · subst c53
                  have H1 : (thalwegref02_Ends.l0 kj9 l0 true (wrap64 (x8_1 + 1)) x234000_1 x234001_1 x234002_1 x234003_1 x234004_1 x234005_1 ((rd_T23 l0 x8_1).f0) ((rd_T23 l0 x8_1).f1) ((rd_T23 l0 x8_1).f2) ((rd_T23 l0 x8_1).f3) ((rd_T23 l0 x8_1).f4) ((rd_T23 l0 x8_1).f5)) = some (r1, r2, r3, r4, r5, r6, r7, r8, r9, r10, r11, r12, r13) := by rw [if_pos rfl] at H; exact H
                  clear H
                  have H := H1
                  clear H1
                  have H' := YL H
                  clear H
                  try go_wp2
                  have n0_ := YL (YG BK231.out)
                  have n1_ := YL (YG BK232.out)
                  have n2_ := YL (YG BK233.out)
                  have n3_ := YL (YG BK234.out)
                  have n4_ := YL (YC HB.out)
                  clear BK231; clear BK232; clear BK233; clear BK234; clear HB; have BK231 := n0_; have BK232 := n1_; have BK233 := n2_; have BK234 := n3_; have HB := n4_; clear n0_ n1_ n2_ n3_ n4_
                  have p244 : 0 ≤ (x8_1 : Int) := of_decide_eq_true (by first | (with_reducible assumption) | assumption)
                  have q244 : x8_1 < (l0.length : Int) := of_decide_eq_true (by first | (with_reducible assumption) | assumption)
                  obtain ⟨ad244, e244, hx244_0, hx244_1, hx244_2, hx244_3, hx244_4, hx244_5⟩ := at_T23 HR0.out x8_1 p244 q244
                  have hw244_5 := hx244_5
                  have hw244_4 := hx244_4
                  have hw244_3 := hx244_3
                  have hw244_2 := hx244_2
                  have hw244_1 := hx244_1
                  have hw244_0 := hx244_0
                  obtain rfl : ad235 = ad244 := (by injection e244)
                  replace hx244_0 := (HB.out.cell (World.block_lt_of_cell? w _ hx244_0)).trans hx244_0
                  replace hx244_1 := (HB.out.cell (World.block_lt_of_cell? w _ hx244_1)).trans hx244_1
                  replace hx244_2 := (HB.out.cell (World.block_lt_of_cell? w _ hx244_2)).trans hx244_2
                  replace hx244_3 := (HB.out.cell (World.block_lt_of_cell? w _ hx244_3)).trans hx244_3
                  replace hx244_4 := (HB.out.cell (World.block_lt_of_cell? w _ hx244_4)).trans hx244_4
                  replace hx244_5 := (HB.out.cell (World.block_lt_of_cell? w _ hx244_5)).trans hx244_5
                  replace p244 := eq_true p244
                  replace q244 := eq_true q244
                  refine start_ (n := 10) (S := fun w' => w'.cell? ⟨gb234, 0, none⟩ = some (.bool x235000_1) ∧ w'.cell? ⟨gb234, 1, none⟩ = some (.int .i64 x235001_1) ∧ w'.cell? ⟨gb234, 2, none⟩ = some (.int .i64 x235002_1) ∧ w'.cell? ⟨gb234, 3, none⟩ = some (.int .i64 x235003_1) ∧ w'.cell? ⟨gb234, 4, none⟩ = some (.int .i64 x235004_1) ∧ w'.cell? ⟨gb234, 5, none⟩ = some (.int .i64 x235005_1) ∧ w'.cell? (ad235.add ((x8_1).toNat * 6)) = some (.bool ((rd_T23 l0 x8_1).f0)) ∧ w'.cell? ⟨(ad235.add ((x8_1).toNat * 6)).block, (ad235.add ((x8_1).toNat * 6)).off + 1, none⟩ = some (.int .i64 ((rd_T23 l0 x8_1).f1)) ∧ w'.cell? ⟨(ad235.add ((x8_1).toNat * 6)).block, (ad235.add ((x8_1).toNat * 6)).off + 2, none⟩ = some (.int .i64 ((rd_T23 l0 x8_1).f2)) ∧ w'.cell? ⟨(ad235.add ((x8_1).toNat * 6)).block, (ad235.add ((x8_1).toNat * 6)).off + 3, none⟩ = some (.int .i64 ((rd_T23 l0 x8_1).f3)) ∧ w'.cell? ⟨(ad235.add ((x8_1).toNat * 6)).block, (ad235.add ((x8_1).toNat * 6)).off + 4, none⟩ = some (.int .i64 ((rd_T23 l0 x8_1).f4)) ∧ w'.cell? ⟨(ad235.add ((x8_1).toNat * 6)).block, (ad235.add ((x8_1).toNat * 6)).off + 5, none⟩ = some (.int .i64 ((rd_T23 l0 x8_1).f5))) (ds := []) #[false, false, false, false, false, false, false, false, false, false] (by kernel_rfl) rfl rfl ⟨(YI BK234.out 0).trans rfl, (YI BK234.out 1).trans rfl, (YI BK234.out 2).trans rfl, (YI BK234.out 3).trans rfl, (YI BK234.out 4).trans rfl, (YI BK234.out 5).trans rfl, ((HB.out.cell (World.block_lt_of_cell? w _ hw244_0)).trans hw244_0), ((HB.out.cell (World.block_lt_of_cell? w _ hw244_1)).trans hw244_1), ((HB.out.cell (World.block_lt_of_cell? w _ hw244_2)).trans hw244_2), ((HB.out.cell (World.block_lt_of_cell? w _ hw244_3)).trans hw244_3), ((HB.out.cell (World.block_lt_of_cell? w _ hw244_4)).trans hw244_4), ((HB.out.cell (World.block_lt_of_cell? w _ hw244_5)).trans hw244_5)⟩ (fun hHeld => ?_); refine with_tabW thalwegref02_Ends.tab9 thalwegref02_Ends.bits9 (fun HT_ HW_ => ?_)
                  generalize wc.drew = w54 at BK231 BK232 BK233 BK234 HB hx244_0 hx244_1 hx244_2 hx244_3 hx244_4 hx244_5 hHeld ⊢
                  refine pure_ (i := 0) (N := some 35) (v := ?_) (a' := ?_) #[true, false, false, false, false, false, false, false, false, false] rfl rfl (any_of HT_.out (by kernel_rfl)) (fun _ _ _ h => h) (Or.inl ⟨by rfl, ?_⟩) ?_ ?_
                  rotate_left
                  · intro w'
                    go_simp; with_reducible rfl
                  rotate_left
                  · simp only [Act.put, YM, YN, YO, i64_w, i32_w]
                    rfl
                  refine pure_ (i := 1) (N := some 36) (v := ?_) (a' := ?_) #[true, true, false, false, false, false, false, false, false, false] rfl rfl (any_of HT_.out (by kernel_rfl)) (fun _ _ _ h => h) (Or.inl ⟨by rfl, ?_⟩) ?_ ?_
                  rotate_left
                  · intro w'
                    go_simp; with_reducible rfl
                  rotate_left
                  · simp only [Act.put, YM, YN, YO, i64_w, i32_w]
                    rfl
                  refine pure_ (i := 2) (N := some 37) (v := ?_) (a' := ?_) #[true, true, true, false, false, false, false, false, false, false] rfl rfl (any_of HT_.out (by kernel_rfl)) (fun _ _ _ h => h) (Or.inl ⟨by rfl, ?_⟩) ?_ ?_
                  rotate_left
                  · intro w'
                    go_simp; with_reducible rfl
                  rotate_left
                  · simp only [Act.put, YM, YN, YO, i64_w, i32_w]
                    rfl
                  refine pure_ (i := 4) (N := some 39) (v := ?_) (a' := ?_) #[true, true, true, false, true, false, false, false, false, false] rfl rfl (any_of HT_.out (by kernel_rfl)) (fun _ _ _ h => h) (Or.inl ⟨by rfl, ?_⟩) ?_ ?_
                  rotate_left
                  · intro w'
                    go_simp; with_reducible rfl
                  rotate_left
                  · simp only [Act.put, YM, YN, YO, i64_w, i32_w]
                    rfl
                  refine pure_ (i := 5) (N := some 40) (v := ?_) (a' := ?_) #[true, true, true, false, true, true, false, false, false, false] rfl rfl (any_of HT_.out (by kernel_rfl)) (fun _ _ _ h => h) (Or.inl ⟨by rfl, ?_⟩) ?_ ?_
                  rotate_left
                  · intro w'
                    go_simp; with_reducible rfl
                  rotate_left
                  · simp only [Act.put, YM, YN, YO, i64_w, i32_w]
                    rfl
                  refine pure_ (i := 6) (N := some 41) (v := ?_) (a' := ?_) #[true, true, true, false, true, true, true, false, false, false] rfl rfl (any_of HT_.out (by kernel_rfl)) (fun _ _ _ h => h) (Or.inl ⟨by rfl, ?_⟩) ?_ ?_
                  rotate_left
                  · intro w'
                    go_simp; with_reducible rfl
                  rotate_left
                  · simp only [Act.put, YM, YN, YO, i64_w, i32_w]
                    rfl
                  refine take_ (i := 3) (N := some 38) (v := ?_) (a' := ?_) #[true, true, true, true, true, true, true, false, false, false] rfl rfl (take_ofW HT_.out HW_.out (by kernel_rfl)) (fun _ _ _ h => h) (Or.inl ⟨by rfl, ?_⟩) hHeld ?_ ?_
                  rotate_left
                  · rintro w' ⟨s0, s1, s2, s3, s4, s5, s6, s7, s8, s9, s10, s11⟩
                    go_simp; with_reducible rfl
                  rotate_left
                  · simp only [Act.put, YM, YN, YO, i64_w, i32_w]
                    rfl
                  refine take_ (i := 7) (N := some 42) (v := ?_) (a' := ?_) #[true, true, true, true, true, true, true, true, false, false] rfl rfl (take_ofW HT_.out HW_.out (by kernel_rfl)) (fun _ _ _ h => h) (Or.inl ⟨by rfl, ?_⟩) hHeld ?_ ?_
                  rotate_left
                  · rintro w' ⟨s0, s1, s2, s3, s4, s5, s6, s7, s8, s9, s10, s11⟩
                    go_simp; with_reducible rfl
                  rotate_left
                  · simp only [Act.put, YM, YN, YO, i64_w, i32_w]
                    rfl
                  refine one_ (i := 8) (N := some 43) #[true, true, true, true, true, true, true, true, true, false] rfl rfl (one_of HT_.out (by kernel_rfl)) (by decide) (fun K hK => ?_)
                  refine goes_ Try.func15 (by kernel_rfl) rfl #[.agg #[.bool x235000_1, .int .i64 x235001_1, .int .i64 x235002_1, .int .i64 x235003_1, .int .i64 x235004_1, .int .i64 x235005_1], .agg #[.bool ((rd_T23 l0 x8_1).f0), .int .i64 ((rd_T23 l0 x8_1).f1), .int .i64 ((rd_T23 l0 x8_1).f2), .int .i64 ((rd_T23 l0 x8_1).f3), .int .i64 ((rd_T23 l0 x8_1).f4), .int .i64 ((rd_T23 l0 x8_1).f5)]] (by rfl) rfl rfl (by (try simp only [YP, List.map_cons, List.map_nil]); first | done | rfl | (simp only [YR, YQ]; rfl)) ?_
                  with_reducible refine (thalwegref02_Less.calls kj9 x235000_1 x235001_1 x235002_1 x235003_1 x235004_1 x235005_1 ((rd_T23 l0 x8_1).f0) ((rd_T23 l0 x8_1).f1) ((rd_T23 l0 x8_1).f2) ((rd_T23 l0 x8_1).f3) ((rd_T23 l0 x8_1).f4) ((rd_T23 l0 x8_1).f5) true _ A52.out).mono ?_
                  rintro e w55 ⟨rfl, hb⟩
                  refine ⟨_, rfl, ?_⟩
                  have n0_ := YL (YK (g := gb231) (o := .cells #[.bool false, .int .i64 0, .int .i64 0, .int .i64 0, .int .i64 0, .int .i64 0] 23 (0, 0)) (by (with_reducible repeat (first | refine YF ?_ _ | refine YG ?_ | refine YH ?_ _)); exact BK231.out) hb)
                  have n1_ := YL (YK (g := gb232) (o := .cells #[.bool false, .int .i64 0, .int .i64 0, .int .i64 0, .int .i64 0, .int .i64 0] 23 (0, 0)) (by (with_reducible repeat (first | refine YF ?_ _ | refine YG ?_ | refine YH ?_ _)); exact BK232.out) hb)
                  have n2_ := YL (YK (g := gb233) (o := .cells #[.bool x234000_1, .int .i64 x234001_1, .int .i64 x234002_1, .int .i64 x234003_1, .int .i64 x234004_1, .int .i64 x234005_1] 23 (0, 0)) (by (with_reducible repeat (first | refine YF ?_ _ | refine YG ?_ | refine YH ?_ _)); exact BK233.out) hb)
                  have n3_ := YL (YK (g := gb234) (o := .cells #[.bool x235000_1, .int .i64 x235001_1, .int .i64 x235002_1, .int .i64 x235003_1, .int .i64 x235004_1, .int .i64 x235005_1] 23 (0, 0)) (by (with_reducible repeat (first | refine YF ?_ _ | refine YG ?_ | refine YH ?_ _)); exact BK234.out) hb)
                  have n4_ := YL (YD (by repeat (first | (with_reducible first | exact HB.out | apply YA | apply YB | apply YC | refine below_set ?_ GE231.out | refine below_set ?_ GE232.out | refine below_set ?_ GE233.out | refine below_set ?_ GE234.out) | exact HB.out)) hb)
                  clear BK231; clear BK232; clear BK233; clear BK234; clear HB; have BK231 := n0_; have BK232 := n1_; have BK233 := n2_; have BK234 := n3_; have HB := n4_; clear n0_ n1_ n2_ n3_ n4_; (try clear hb); (try clear hb2); (try clear hk); (try clear hi)
                  refine hK.out _ _ ⟨(YI BK234.out 0).trans rfl, (YI BK234.out 1).trans rfl, (YI BK234.out 2).trans rfl, (YI BK234.out 3).trans rfl, (YI BK234.out 4).trans rfl, (YI BK234.out 5).trans rfl, ((HB.out.cell (World.block_lt_of_cell? w _ hw244_0)).trans hw244_0), ((HB.out.cell (World.block_lt_of_cell? w _ hw244_1)).trans hw244_1), ((HB.out.cell (World.block_lt_of_cell? w _ hw244_2)).trans hw244_2), ((HB.out.cell (World.block_lt_of_cell? w _ hw244_3)).trans hw244_3), ((HB.out.cell (World.block_lt_of_cell? w _ hw244_4)).trans hw244_4), ((HB.out.cell (World.block_lt_of_cell? w _ hw244_5)).trans hw244_5)⟩ (fun hHeld => ?_)
                  clear hK K
                  refine norm_ (a' := ?_) ?_ ?_
                  rotate_left
                  · show Act.put _ (some 43) _ = _
                    simp only [Act.put, YM, YN, YO, i64_w, i32_w]
                    rfl
                  refine pure_ (i := 9) (N := some 44) (v := ?_) (a' := ?_) #[true, true, true, true, true, true, true, true, true, true] rfl rfl (any_of HT_.out (by kernel_rfl)) (fun _ _ _ h => h) (Or.inl ⟨by rfl, ?_⟩) ?_ ?_
                  rotate_left
                  · intro w'
                    go_simp; with_reducible rfl
                  rotate_left
                  · simp only [Act.put, YM, YN, YO, i64_w, i32_w]
                    rfl
                  refine done_ (done_of HT_.out (by kernel_rfl)) ?_
                  have p246 : 0 ≤ (x8_1 : Int) := of_decide_eq_true (by first | (with_reducible assumption) | assumption)
                  have q246 : x8_1 < (l0.length : Int) := of_decide_eq_true (by first | (with_reducible assumption) | assumption)
                  obtain ⟨ad246, e246, hx246_0, hx246_1, hx246_2, hx246_3, hx246_4, hx246_5⟩ := at_T23 HR0.out x8_1 p246 q246
                  obtain rfl : ad235 = ad246 := (by injection e246)
                  replace hx246_0 := (HB.out.cell (World.block_lt_of_cell? w _ hx246_0)).trans hx246_0
                  replace hx246_1 := (HB.out.cell (World.block_lt_of_cell? w _ hx246_1)).trans hx246_1
                  replace hx246_2 := (HB.out.cell (World.block_lt_of_cell? w _ hx246_2)).trans hx246_2
                  replace hx246_3 := (HB.out.cell (World.block_lt_of_cell? w _ hx246_3)).trans hx246_3
                  replace hx246_4 := (HB.out.cell (World.block_lt_of_cell? w _ hx246_4)).trans hx246_4
                  replace hx246_5 := (HB.out.cell (World.block_lt_of_cell? w _ hx246_5)).trans hx246_5
                  replace p246 := eq_true p246
                  replace q246 := eq_true q246
                  have hnb56 := NB234_231.out
                  have hnc56 := NB231_234.out
                  have hnb57 := NB234_232.out
                  have hnc57 := NB232_234.out
                  have hnb58 := NB234_233.out
                  have hnc58 := NB233_234.out
                  have hcz59_0 : w55.cell? ⟨gb234, 0, none⟩ = some (.bool x235000_1) := (YI BK234.out 0).trans rfl
                  have hcz59_1 : w55.cell? ⟨gb234, 1, none⟩ = some (.int .i64 x235001_1) := (YI BK234.out 1).trans rfl
                  have hcz59_2 : w55.cell? ⟨gb234, 2, none⟩ = some (.int .i64 x235002_1) := (YI BK234.out 2).trans rfl
                  have hcz59_3 : w55.cell? ⟨gb234, 3, none⟩ = some (.int .i64 x235003_1) := (YI BK234.out 3).trans rfl
                  have hcz59_4 : w55.cell? ⟨gb234, 4, none⟩ = some (.int .i64 x235004_1) := (YI BK234.out 4).trans rfl
                  have hcz59_5 : w55.cell? ⟨gb234, 5, none⟩ = some (.int .i64 x235005_1) := (YI BK234.out 5).trans rfl
                  have hfz59_0 := YJ BK234.out 0
                  have hfz59_1 := YJ BK234.out 1
                  have hfz59_2 := YJ BK234.out 2
                  have hfz59_3 := YJ BK234.out 3
                  have hfz59_4 := YJ BK234.out 4
                  have hfz59_5 := YJ BK234.out 5
                  try go_wp2
                  go_roundg kj9
                  case measure => have := HK1.out; have := HJ9.out; omega
                  case rel => exact ⟨(true), (wrap64 (x8_1 + 1)), (x234000_1), (x234001_1), (x234002_1), (x234003_1), (x234004_1), (x234005_1), ((rd_T23 l0 x8_1).f0), ((rd_T23 l0 x8_1).f1), ((rd_T23 l0 x8_1).f2), ((rd_T23 l0 x8_1).f3), ((rd_T23 l0 x8_1).f4), ((rd_T23 l0 x8_1).f5), (by first | rfl | (simp; done) | (simp [*]; done)), (by first | rfl | (simp; done) | (simp [*]; done)), H', ⟨by have := HK1.out; have := HJ9.out; omega⟩, ⟨by (with_reducible repeat (first | refine YF ?_ _ | refine YG ?_ | refine YH ?_ _)); refine blk_far ?_ NB231_234.out _; (with_reducible repeat (first | refine YF ?_ _ | refine YG ?_ | refine YH ?_ _)); refine blk_far ?_ NB231_234.out _; (with_reducible repeat (first | refine YF ?_ _ | refine YG ?_ | refine YH ?_ _)); refine blk_far ?_ NB231_234.out _; (with_reducible repeat (first | refine YF ?_ _ | refine YG ?_ | refine YH ?_ _)); refine blk_far ?_ NB231_234.out _; (with_reducible repeat (first | refine YF ?_ _ | refine YG ?_ | refine YH ?_ _)); refine blk_far ?_ NB231_234.out _; (with_reducible repeat (first | refine YF ?_ _ | refine YG ?_ | refine YH ?_ _)); refine blk_far ?_ NB231_234.out _; (with_reducible repeat (first | refine YF ?_ _ | refine YG ?_ | refine YH ?_ _)); exact BK231.out⟩, ⟨by (with_reducible repeat (first | refine YF ?_ _ | refine YG ?_ | refine YH ?_ _)); refine blk_far ?_ NB232_234.out _; (with_reducible repeat (first | refine YF ?_ _ | refine YG ?_ | refine YH ?_ _)); refine blk_far ?_ NB232_234.out _; (with_reducible repeat (first | refine YF ?_ _ | refine YG ?_ | refine YH ?_ _)); refine blk_far ?_ NB232_234.out _; (with_reducible repeat (first | refine YF ?_ _ | refine YG ?_ | refine YH ?_ _)); refine blk_far ?_ NB232_234.out _; (with_reducible repeat (first | refine YF ?_ _ | refine YG ?_ | refine YH ?_ _)); refine blk_far ?_ NB232_234.out _; (with_reducible repeat (first | refine YF ?_ _ | refine YG ?_ | refine YH ?_ _)); refine blk_far ?_ NB232_234.out _; (with_reducible repeat (first | refine YF ?_ _ | refine YG ?_ | refine YH ?_ _)); exact BK232.out⟩, ⟨by (with_reducible repeat (first | refine YF ?_ _ | refine YG ?_ | refine YH ?_ _)); refine blk_far ?_ NB233_234.out _; (with_reducible repeat (first | refine YF ?_ _ | refine YG ?_ | refine YH ?_ _)); refine blk_far ?_ NB233_234.out _; (with_reducible repeat (first | refine YF ?_ _ | refine YG ?_ | refine YH ?_ _)); refine blk_far ?_ NB233_234.out _; (with_reducible repeat (first | refine YF ?_ _ | refine YG ?_ | refine YH ?_ _)); refine blk_far ?_ NB233_234.out _; (with_reducible repeat (first | refine YF ?_ _ | refine YG ?_ | refine YH ?_ _)); refine blk_far ?_ NB233_234.out _; (with_reducible repeat (first | refine YF ?_ _ | refine YG ?_ | refine YH ?_ _)); refine blk_far ?_ NB233_234.out _; (with_reducible repeat (first | refine YF ?_ _ | refine YG ?_ | refine YH ?_ _)); exact BK233.out⟩, ⟨by (with_reducible repeat (first | refine YF ?_ _ | refine YG ?_ | refine YH ?_ _)); refine blk_put (cs := #[.bool ((rd_T23 l0 x8_1).f0), .int .i64 ((rd_T23 l0 x8_1).f1), .int .i64 ((rd_T23 l0 x8_1).f2), .int .i64 ((rd_T23 l0 x8_1).f3), .int .i64 ((rd_T23 l0 x8_1).f4), .int .i64 x235005_1]) ?_ 5 _ rfl; (with_reducible repeat (first | refine YF ?_ _ | refine YG ?_ | refine YH ?_ _)); refine blk_put (cs := #[.bool ((rd_T23 l0 x8_1).f0), .int .i64 ((rd_T23 l0 x8_1).f1), .int .i64 ((rd_T23 l0 x8_1).f2), .int .i64 ((rd_T23 l0 x8_1).f3), .int .i64 x235004_1, .int .i64 x235005_1]) ?_ 4 _ rfl; (with_reducible repeat (first | refine YF ?_ _ | refine YG ?_ | refine YH ?_ _)); refine blk_put (cs := #[.bool ((rd_T23 l0 x8_1).f0), .int .i64 ((rd_T23 l0 x8_1).f1), .int .i64 ((rd_T23 l0 x8_1).f2), .int .i64 x235003_1, .int .i64 x235004_1, .int .i64 x235005_1]) ?_ 3 _ rfl; (with_reducible repeat (first | refine YF ?_ _ | refine YG ?_ | refine YH ?_ _)); refine blk_put (cs := #[.bool ((rd_T23 l0 x8_1).f0), .int .i64 ((rd_T23 l0 x8_1).f1), .int .i64 x235002_1, .int .i64 x235003_1, .int .i64 x235004_1, .int .i64 x235005_1]) ?_ 2 _ rfl; (with_reducible repeat (first | refine YF ?_ _ | refine YG ?_ | refine YH ?_ _)); refine blk_put (cs := #[.bool ((rd_T23 l0 x8_1).f0), .int .i64 x235001_1, .int .i64 x235002_1, .int .i64 x235003_1, .int .i64 x235004_1, .int .i64 x235005_1]) ?_ 1 _ rfl; (with_reducible repeat (first | refine YF ?_ _ | refine YG ?_ | refine YH ?_ _)); refine blk_put (cs := #[.bool x235000_1, .int .i64 x235001_1, .int .i64 x235002_1, .int .i64 x235003_1, .int .i64 x235004_1, .int .i64 x235005_1]) ?_ 0 _ rfl; (with_reducible repeat (first | refine YF ?_ _ | refine YG ?_ | refine YH ?_ _)); exact BK234.out⟩, ⟨by repeat (first | (with_reducible first | exact HB.out | apply YA | apply YB | apply YC | refine below_set ?_ GE231.out | refine below_set ?_ GE232.out | refine below_set ?_ GE233.out | refine below_set ?_ GE234.out) | exact HB.out)⟩⟩
                replace c53 := Bool.eq_false_iff.mpr c53
                subst c53
                have H1 : (thalwegref02_Ends.l0 kj9 l0 true (wrap64 (x8_1 + 1)) x234000_1 x234001_1 x234002_1 x234003_1 x234004_1 x234005_1 x235000_1 x235001_1 x235002_1 x235003_1 x235004_1 x235005_1) = some (r1, r2, r3, r4, r5, r6, r7, r8, r9, r10, r11, r12, r13) := by rw [if_neg (show ¬ (false = true) by decide)] at H; exact H
                clear H
                have H := H1
                clear H1
                have H' := YL H
                clear H
                try go_wp2
                have n0_ := YL (YG BK231.out)
                have n1_ := YL (YG BK232.out)
                have n2_ := YL (YG BK233.out)
                have n3_ := YL (YG BK234.out)
                have n4_ := YL (YC HB.out)
                clear BK231; clear BK232; clear BK233; clear BK234; clear HB; have BK231 := n0_; have BK232 := n1_; have BK233 := n2_; have BK234 := n3_; have HB := n4_; clear n0_ n1_ n2_ n3_ n4_
                have p244 : 0 ≤ (x8_1 : Int) := of_decide_eq_true (by first | (with_reducible assumption) | assumption)
                have q244 : x8_1 < (l0.length : Int) := of_decide_eq_true (by first | (with_reducible assumption) | assumption)
                obtain ⟨ad244, e244, hx244_0, hx244_1, hx244_2, hx244_3, hx244_4, hx244_5⟩ := at_T23 HR0.out x8_1 p244 q244
                have hw244_5 := hx244_5
                have hw244_4 := hx244_4
                have hw244_3 := hx244_3
                have hw244_2 := hx244_2
                have hw244_1 := hx244_1
                have hw244_0 := hx244_0
                obtain rfl : ad235 = ad244 := (by injection e244)
                replace hx244_0 := (HB.out.cell (World.block_lt_of_cell? w _ hx244_0)).trans hx244_0
                replace hx244_1 := (HB.out.cell (World.block_lt_of_cell? w _ hx244_1)).trans hx244_1
                replace hx244_2 := (HB.out.cell (World.block_lt_of_cell? w _ hx244_2)).trans hx244_2
                replace hx244_3 := (HB.out.cell (World.block_lt_of_cell? w _ hx244_3)).trans hx244_3
                replace hx244_4 := (HB.out.cell (World.block_lt_of_cell? w _ hx244_4)).trans hx244_4
                replace hx244_5 := (HB.out.cell (World.block_lt_of_cell? w _ hx244_5)).trans hx244_5
                replace p244 := eq_true p244
                replace q244 := eq_true q244
                refine start_ (n := 10) (S := fun w' => w'.cell? ⟨gb234, 0, none⟩ = some (.bool x235000_1) ∧ w'.cell? ⟨gb234, 1, none⟩ = some (.int .i64 x235001_1) ∧ w'.cell? ⟨gb234, 2, none⟩ = some (.int .i64 x235002_1) ∧ w'.cell? ⟨gb234, 3, none⟩ = some (.int .i64 x235003_1) ∧ w'.cell? ⟨gb234, 4, none⟩ = some (.int .i64 x235004_1) ∧ w'.cell? ⟨gb234, 5, none⟩ = some (.int .i64 x235005_1) ∧ w'.cell? (ad235.add ((x8_1).toNat * 6)) = some (.bool ((rd_T23 l0 x8_1).f0)) ∧ w'.cell? ⟨(ad235.add ((x8_1).toNat * 6)).block, (ad235.add ((x8_1).toNat * 6)).off + 1, none⟩ = some (.int .i64 ((rd_T23 l0 x8_1).f1)) ∧ w'.cell? ⟨(ad235.add ((x8_1).toNat * 6)).block, (ad235.add ((x8_1).toNat * 6)).off + 2, none⟩ = some (.int .i64 ((rd_T23 l0 x8_1).f2)) ∧ w'.cell? ⟨(ad235.add ((x8_1).toNat * 6)).block, (ad235.add ((x8_1).toNat * 6)).off + 3, none⟩ = some (.int .i64 ((rd_T23 l0 x8_1).f3)) ∧ w'.cell? ⟨(ad235.add ((x8_1).toNat * 6)).block, (ad235.add ((x8_1).toNat * 6)).off + 4, none⟩ = some (.int .i64 ((rd_T23 l0 x8_1).f4)) ∧ w'.cell? ⟨(ad235.add ((x8_1).toNat * 6)).block, (ad235.add ((x8_1).toNat * 6)).off + 5, none⟩ = some (.int .i64 ((rd_T23 l0 x8_1).f5))) (ds := []) #[false, false, false, false, false, false, false, false, false, false] (by kernel_rfl) rfl rfl ⟨(YI BK234.out 0).trans rfl, (YI BK234.out 1).trans rfl, (YI BK234.out 2).trans rfl, (YI BK234.out 3).trans rfl, (YI BK234.out 4).trans rfl, (YI BK234.out 5).trans rfl, ((HB.out.cell (World.block_lt_of_cell? w _ hw244_0)).trans hw244_0), ((HB.out.cell (World.block_lt_of_cell? w _ hw244_1)).trans hw244_1), ((HB.out.cell (World.block_lt_of_cell? w _ hw244_2)).trans hw244_2), ((HB.out.cell (World.block_lt_of_cell? w _ hw244_3)).trans hw244_3), ((HB.out.cell (World.block_lt_of_cell? w _ hw244_4)).trans hw244_4), ((HB.out.cell (World.block_lt_of_cell? w _ hw244_5)).trans hw244_5)⟩ (fun hHeld => ?_); refine with_tabW thalwegref02_Ends.tab9 thalwegref02_Ends.bits9 (fun HT_ HW_ => ?_)
                generalize wc.drew = w60 at BK231 BK232 BK233 BK234 HB hx244_0 hx244_1 hx244_2 hx244_3 hx244_4 hx244_5 hHeld ⊢
                refine pure_ (i := 0) (N := some 35) (v := ?_) (a' := ?_) #[true, false, false, false, false, false, false, false, false, false] rfl rfl (any_of HT_.out (by kernel_rfl)) (fun _ _ _ h => h) (Or.inl ⟨by rfl, ?_⟩) ?_ ?_
                rotate_left
                · intro w'
                  go_simp; with_reducible rfl
                rotate_left
                · simp only [Act.put, YM, YN, YO, i64_w, i32_w]
                  rfl
                refine pure_ (i := 1) (N := some 36) (v := ?_) (a' := ?_) #[true, true, false, false, false, false, false, false, false, false] rfl rfl (any_of HT_.out (by kernel_rfl)) (fun _ _ _ h => h) (Or.inl ⟨by rfl, ?_⟩) ?_ ?_
                rotate_left
                · intro w'
                  go_simp; with_reducible rfl
                rotate_left
                · simp only [Act.put, YM, YN, YO, i64_w, i32_w]
                  rfl
                refine pure_ (i := 2) (N := some 37) (v := ?_) (a' := ?_) #[true, true, true, false, false, false, false, false, false, false] rfl rfl (any_of HT_.out (by kernel_rfl)) (fun _ _ _ h => h) (Or.inl ⟨by rfl, ?_⟩) ?_ ?_
                rotate_left
                · intro w'
                  go_simp; with_reducible rfl
                rotate_left
                · simp only [Act.put, YM, YN, YO, i64_w, i32_w]
                  rfl
                refine pure_ (i := 4) (N := some 39) (v := ?_) (a' := ?_) #[true, true, true, false, true, false, false, false, false, false] rfl rfl (any_of HT_.out (by kernel_rfl)) (fun _ _ _ h => h) (Or.inl ⟨by rfl, ?_⟩) ?_ ?_
                rotate_left
                · intro w'
                  go_simp; with_reducible rfl
                rotate_left
                · simp only [Act.put, YM, YN, YO, i64_w, i32_w]
                  rfl
                refine pure_ (i := 5) (N := some 40) (v := ?_) (a' := ?_) #[true, true, true, false, true, true, false, false, false, false] rfl rfl (any_of HT_.out (by kernel_rfl)) (fun _ _ _ h => h) (Or.inl ⟨by rfl, ?_⟩) ?_ ?_
                rotate_left
                · intro w'
                  go_simp; with_reducible rfl
                rotate_left
                · simp only [Act.put, YM, YN, YO, i64_w, i32_w]
                  rfl
                refine pure_ (i := 6) (N := some 41) (v := ?_) (a' := ?_) #[true, true, true, false, true, true, true, false, false, false] rfl rfl (any_of HT_.out (by kernel_rfl)) (fun _ _ _ h => h) (Or.inl ⟨by rfl, ?_⟩) ?_ ?_
                rotate_left
                · intro w'
                  go_simp; with_reducible rfl
                rotate_left
                · simp only [Act.put, YM, YN, YO, i64_w, i32_w]
                  rfl
                refine take_ (i := 3) (N := some 38) (v := ?_) (a' := ?_) #[true, true, true, true, true, true, true, false, false, false] rfl rfl (take_ofW HT_.out HW_.out (by kernel_rfl)) (fun _ _ _ h => h) (Or.inl ⟨by rfl, ?_⟩) hHeld ?_ ?_
                rotate_left
                · rintro w' ⟨s0, s1, s2, s3, s4, s5, s6, s7, s8, s9, s10, s11⟩
                  go_simp; with_reducible rfl
                rotate_left
                · simp only [Act.put, YM, YN, YO, i64_w, i32_w]
                  rfl
                refine take_ (i := 7) (N := some 42) (v := ?_) (a' := ?_) #[true, true, true, true, true, true, true, true, false, false] rfl rfl (take_ofW HT_.out HW_.out (by kernel_rfl)) (fun _ _ _ h => h) (Or.inl ⟨by rfl, ?_⟩) hHeld ?_ ?_
                rotate_left
                · rintro w' ⟨s0, s1, s2, s3, s4, s5, s6, s7, s8, s9, s10, s11⟩
                  go_simp; with_reducible rfl
                rotate_left
                · simp only [Act.put, YM, YN, YO, i64_w, i32_w]
                  rfl
                refine one_ (i := 8) (N := some 43) #[true, true, true, true, true, true, true, true, true, false] rfl rfl (one_of HT_.out (by kernel_rfl)) (by decide) (fun K hK => ?_)
                refine goes_ Try.func15 (by kernel_rfl) rfl #[.agg #[.bool x235000_1, .int .i64 x235001_1, .int .i64 x235002_1, .int .i64 x235003_1, .int .i64 x235004_1, .int .i64 x235005_1], .agg #[.bool ((rd_T23 l0 x8_1).f0), .int .i64 ((rd_T23 l0 x8_1).f1), .int .i64 ((rd_T23 l0 x8_1).f2), .int .i64 ((rd_T23 l0 x8_1).f3), .int .i64 ((rd_T23 l0 x8_1).f4), .int .i64 ((rd_T23 l0 x8_1).f5)]] (by rfl) rfl rfl (by (try simp only [YP, List.map_cons, List.map_nil]); first | done | rfl | (simp only [YR, YQ]; rfl)) ?_
                with_reducible refine (thalwegref02_Less.calls kj9 x235000_1 x235001_1 x235002_1 x235003_1 x235004_1 x235005_1 ((rd_T23 l0 x8_1).f0) ((rd_T23 l0 x8_1).f1) ((rd_T23 l0 x8_1).f2) ((rd_T23 l0 x8_1).f3) ((rd_T23 l0 x8_1).f4) ((rd_T23 l0 x8_1).f5) false _ A52.out).mono ?_
                rintro e w61 ⟨rfl, hb⟩
                refine ⟨_, rfl, ?_⟩
                have n0_ := YL (YK (g := gb231) (o := .cells #[.bool false, .int .i64 0, .int .i64 0, .int .i64 0, .int .i64 0, .int .i64 0] 23 (0, 0)) (by (with_reducible repeat (first | refine YF ?_ _ | refine YG ?_ | refine YH ?_ _)); exact BK231.out) hb)
                have n1_ := YL (YK (g := gb232) (o := .cells #[.bool false, .int .i64 0, .int .i64 0, .int .i64 0, .int .i64 0, .int .i64 0] 23 (0, 0)) (by (with_reducible repeat (first | refine YF ?_ _ | refine YG ?_ | refine YH ?_ _)); exact BK232.out) hb)
                have n2_ := YL (YK (g := gb233) (o := .cells #[.bool x234000_1, .int .i64 x234001_1, .int .i64 x234002_1, .int .i64 x234003_1, .int .i64 x234004_1, .int .i64 x234005_1] 23 (0, 0)) (by (with_reducible repeat (first | refine YF ?_ _ | refine YG ?_ | refine YH ?_ _)); exact BK233.out) hb)
                have n3_ := YL (YK (g := gb234) (o := .cells #[.bool x235000_1, .int .i64 x235001_1, .int .i64 x235002_1, .int .i64 x235003_1, .int .i64 x235004_1, .int .i64 x235005_1] 23 (0, 0)) (by (with_reducible repeat (first | refine YF ?_ _ | refine YG ?_ | refine YH ?_ _)); exact BK234.out) hb)
                have n4_ := YL (YD (by repeat (first | (with_reducible first | exact HB.out | apply YA | apply YB | apply YC | refine below_set ?_ GE231.out | refine below_set ?_ GE232.out | refine below_set ?_ GE233.out | refine below_set ?_ GE234.out) | exact HB.out)) hb)
                clear BK231; clear BK232; clear BK233; clear BK234; clear HB; have BK231 := n0_; have BK232 := n1_; have BK233 := n2_; have BK234 := n3_; have HB := n4_; clear n0_ n1_ n2_ n3_ n4_; (try clear hb); (try clear hb2); (try clear hk); (try clear hi)
                refine hK.out _ _ ⟨(YI BK234.out 0).trans rfl, (YI BK234.out 1).trans rfl, (YI BK234.out 2).trans rfl, (YI BK234.out 3).trans rfl, (YI BK234.out 4).trans rfl, (YI BK234.out 5).trans rfl, ((HB.out.cell (World.block_lt_of_cell? w _ hw244_0)).trans hw244_0), ((HB.out.cell (World.block_lt_of_cell? w _ hw244_1)).trans hw244_1), ((HB.out.cell (World.block_lt_of_cell? w _ hw244_2)).trans hw244_2), ((HB.out.cell (World.block_lt_of_cell? w _ hw244_3)).trans hw244_3), ((HB.out.cell (World.block_lt_of_cell? w _ hw244_4)).trans hw244_4), ((HB.out.cell (World.block_lt_of_cell? w _ hw244_5)).trans hw244_5)⟩ (fun hHeld => ?_)
                clear hK K
                refine norm_ (a' := ?_) ?_ ?_
                rotate_left
                · show Act.put _ (some 43) _ = _
                  simp only [Act.put, YM, YN, YO, i64_w, i32_w]
                  rfl
                refine pure_ (i := 9) (N := some 44) (v := ?_) (a' := ?_) #[true, true, true, true, true, true, true, true, true, true] rfl rfl (any_of HT_.out (by kernel_rfl)) (fun _ _ _ h => h) (Or.inl ⟨by rfl, ?_⟩) ?_ ?_
                rotate_left
                · intro w'
                  go_simp; with_reducible rfl
                rotate_left
                · simp only [Act.put, YM, YN, YO, i64_w, i32_w]
                  rfl
                refine done_ (done_of HT_.out (by kernel_rfl)) ?_
                try go_wp2
                go_roundg kj9
                case measure => have := HK1.out; have := HJ9.out; omega
                case rel => exact ⟨(true), (wrap64 (x8_1 + 1)), (x234000_1), (x234001_1), (x234002_1), (x234003_1), (x234004_1), (x234005_1), (x235000_1), (x235001_1), (x235002_1), (x235003_1), (x235004_1), (x235005_1), (by first | rfl | (simp; done) | (simp [*]; done)), (by first | rfl | (simp; done) | (simp [*]; done)), H', ⟨by have := HK1.out; have := HJ9.out; omega⟩, ⟨by (with_reducible repeat (first | refine YF ?_ _ | refine YG ?_ | refine YH ?_ _)); exact BK231.out⟩, ⟨by (with_reducible repeat (first | refine YF ?_ _ | refine YG ?_ | refine YH ?_ _)); exact BK232.out⟩, ⟨by (with_reducible repeat (first | refine YF ?_ _ | refine YG ?_ | refine YH ?_ _)); exact BK233.out⟩, ⟨by (with_reducible repeat (first | refine YF ?_ _ | refine YG ?_ | refine YH ?_ _)); exact BK234.out⟩, ⟨by repeat (first | (with_reducible first | exact HB.out | apply YA | apply YB | apply YC | refine below_set ?_ GE231.out | refine below_set ?_ GE232.out | refine below_set ?_ GE233.out | refine below_set ?_ GE234.out) | exact HB.out)⟩⟩
              replace c49 := Bool.eq_false_iff.mpr c49
              subst c49
              have H1 : (if 0 ≤ x8_1 then (if x8_1 < (l0.length : Int) then (thalwegref02_Ends.l0 kj9 l0 true (wrap64 (x8_1 + 1)) x234000_1 x234001_1 x234002_1 x234003_1 x234004_1 x234005_1 ((rd_T23 l0 x8_1).f0) ((rd_T23 l0 x8_1).f1) ((rd_T23 l0 x8_1).f2) ((rd_T23 l0 x8_1).f3) ((rd_T23 l0 x8_1).f4) ((rd_T23 l0 x8_1).f5)) else (none)) else (none)) = some (r1, r2, r3, r4, r5, r6, r7, r8, r9, r10, r11, r12, r13) := by rw [if_neg (show ¬ (false = true) by decide)] at H; exact H
              clear H
              have H := H1
              clear H1
              by_cases c62 : 0 ≤ x8_1
              rotate_left
              · rw [if_neg c62] at H
                exact absurd H (by simp)
              rw [if_pos c62] at H; have c62b0 : decide (0 ≤ x8_1) = true := decide_eq_true c62; clear c62
              by_cases c63 : x8_1 < (l0.length : Int)
              rotate_left
              · rw [if_neg c63] at H
                exact absurd H (by simp)
              rw [if_pos c63] at H
              have c63b0 : decide (x8_1 < (l0.length : Int)) = true := decide_eq_true c63
              clear c63
              have H' := YL H
              clear H
              try go_wp2
              have n0_ := YL (YG BK231.out)
              have n1_ := YL (YG BK232.out)
              have n2_ := YL (YG BK233.out)
              have n3_ := YL (YG BK234.out)
              have n4_ := YL (YC HB.out)
              clear BK231; clear BK232; clear BK233; clear BK234; clear HB; have BK231 := n0_; have BK232 := n1_; have BK233 := n2_; have BK234 := n3_; have HB := n4_; clear n0_ n1_ n2_ n3_ n4_
              refine start_ (n := 10) (S := fun w' => True) (ds := []) #[false, false, false, false, false, false, false, false, false, false] (by kernel_rfl) rfl rfl trivial (fun hHeld => ?_); refine with_tabW thalwegref02_Ends.tab9 thalwegref02_Ends.bits9 (fun HT_ HW_ => ?_)
              generalize wc.drew = w64 at BK231 BK232 BK233 BK234 HB hHeld ⊢
              refine pure_ (i := 0) (N := some 35) (v := ?_) (a' := ?_) #[true, false, false, false, false, false, false, false, false, false] rfl rfl (any_of HT_.out (by kernel_rfl)) (fun _ _ _ h => h) (Or.inl ⟨by rfl, ?_⟩) ?_ ?_
              rotate_left
              · intro w'
                go_simp; with_reducible rfl
              rotate_left
              · simp only [Act.put, YM, YN, YO, i64_w, i32_w]
                rfl
              refine pure_ (i := 1) (N := some 36) (v := ?_) (a' := ?_) #[true, true, false, false, false, false, false, false, false, false] rfl rfl (any_of HT_.out (by kernel_rfl)) (fun _ _ _ h => h) (Or.inl ⟨by rfl, ?_⟩) ?_ ?_
              rotate_left
              · intro w'
                go_simp; with_reducible rfl
              rotate_left
              · simp only [Act.put, YM, YN, YO, i64_w, i32_w]
                rfl
              refine pure_ (i := 2) (N := some 37) (v := ?_) (a' := ?_) #[true, true, true, false, false, false, false, false, false, false] rfl rfl (any_of HT_.out (by kernel_rfl)) (fun _ _ _ h => h) (Or.inl ⟨by rfl, ?_⟩) ?_ ?_
              rotate_left
              · intro w'
                go_simp; with_reducible rfl
              rotate_left
              · simp only [Act.put, YM, YN, YO, i64_w, i32_w]
                rfl
              refine pure_ (i := 3) (N := some 38) (v := undef) (a' := ?_) #[true, true, true, true, false, false, false, false, false, false] rfl rfl (any_of HT_.out (by kernel_rfl)) (fun _ _ _ h => h) (Or.inr ⟨by rfl, rfl⟩) ?_ ?_
              rotate_left
              · simp only [Act.put, YM, YN, YO, i64_w, i32_w]
                rfl
              refine pure_ (i := 4) (N := some 39) (v := undef) (a' := ?_) #[true, true, true, true, true, false, false, false, false, false] rfl rfl (any_of HT_.out (by kernel_rfl)) (fun _ _ _ h => h) (Or.inr ⟨by rfl, rfl⟩) ?_ ?_
              rotate_left
              · simp only [Act.put, YM, YN, YO, i64_w, i32_w]
                rfl
              refine pure_ (i := 5) (N := some 40) (v := undef) (a' := ?_) #[true, true, true, true, true, true, false, false, false, false] rfl rfl (any_of HT_.out (by kernel_rfl)) (fun _ _ _ h => h) (Or.inr ⟨by rfl, rfl⟩) ?_ ?_
              rotate_left
              · simp only [Act.put, YM, YN, YO, i64_w, i32_w]
                rfl
              refine pure_ (i := 6) (N := some 41) (v := undef) (a' := ?_) #[true, true, true, true, true, true, true, false, false, false] rfl rfl (any_of HT_.out (by kernel_rfl)) (fun _ _ _ h => h) (Or.inr ⟨by rfl, rfl⟩) ?_ ?_
              rotate_left
              · simp only [Act.put, YM, YN, YO, i64_w, i32_w]
                rfl
              refine pure_ (i := 7) (N := some 42) (v := undef) (a' := ?_) #[true, true, true, true, true, true, true, true, false, false] rfl rfl (any_of HT_.out (by kernel_rfl)) (fun _ _ _ h => h) (Or.inr ⟨by rfl, rfl⟩) ?_ ?_
              rotate_left
              · simp only [Act.put, YM, YN, YO, i64_w, i32_w]
                rfl
              refine pure_ (i := 8) (N := some 43) (v := undef) (a' := ?_) #[true, true, true, true, true, true, true, true, true, false] rfl rfl (any_of HT_.out (by kernel_rfl)) (fun _ _ _ h => h) (Or.inr ⟨by rfl, rfl⟩) ?_ ?_
              rotate_left
              · simp only [Act.put, YM, YN, YO, i64_w, i32_w]
                rfl
              refine pure_ (i := 9) (N := some 44) (v := ?_) (a' := ?_) #[true, true, true, true, true, true, true, true, true, true] rfl rfl (any_of HT_.out (by kernel_rfl)) (fun _ _ _ h => h) (Or.inl ⟨by rfl, ?_⟩) ?_ ?_
              rotate_left
              · intro w'
                go_simp; with_reducible rfl
              rotate_left
              · simp only [Act.put, YM, YN, YO, i64_w, i32_w]
                rfl
              refine done_ (done_of HT_.out (by kernel_rfl)) ?_
              have p247 : 0 ≤ (x8_1 : Int) := of_decide_eq_true (by first | (with_reducible assumption) | assumption)
              have q247 : x8_1 < (l0.length : Int) := of_decide_eq_true (by first | (with_reducible assumption) | assumption)
              obtain ⟨ad247, e247, hx247_0, hx247_1, hx247_2, hx247_3, hx247_4, hx247_5⟩ := at_T23 HR0.out x8_1 p247 q247
              obtain rfl : ad235 = ad247 := (by injection e247)
              replace hx247_0 := (HB.out.cell (World.block_lt_of_cell? w _ hx247_0)).trans hx247_0
              replace hx247_1 := (HB.out.cell (World.block_lt_of_cell? w _ hx247_1)).trans hx247_1
              replace hx247_2 := (HB.out.cell (World.block_lt_of_cell? w _ hx247_2)).trans hx247_2
              replace hx247_3 := (HB.out.cell (World.block_lt_of_cell? w _ hx247_3)).trans hx247_3
              replace hx247_4 := (HB.out.cell (World.block_lt_of_cell? w _ hx247_4)).trans hx247_4
              replace hx247_5 := (HB.out.cell (World.block_lt_of_cell? w _ hx247_5)).trans hx247_5
              replace p247 := eq_true p247
              replace q247 := eq_true q247
              have hnb65 := NB234_231.out
              have hnc65 := NB231_234.out
              have hnb66 := NB234_232.out
              have hnc66 := NB232_234.out
              have hnb67 := NB234_233.out
              have hnc67 := NB233_234.out
              have hcz68_0 : w64.cell? ⟨gb234, 0, none⟩ = some (.bool x235000_1) := (YI BK234.out 0).trans rfl
              have hcz68_1 : w64.cell? ⟨gb234, 1, none⟩ = some (.int .i64 x235001_1) := (YI BK234.out 1).trans rfl
              have hcz68_2 : w64.cell? ⟨gb234, 2, none⟩ = some (.int .i64 x235002_1) := (YI BK234.out 2).trans rfl
              have hcz68_3 : w64.cell? ⟨gb234, 3, none⟩ = some (.int .i64 x235003_1) := (YI BK234.out 3).trans rfl
              have hcz68_4 : w64.cell? ⟨gb234, 4, none⟩ = some (.int .i64 x235004_1) := (YI BK234.out 4).trans rfl
              have hcz68_5 : w64.cell? ⟨gb234, 5, none⟩ = some (.int .i64 x235005_1) := (YI BK234.out 5).trans rfl
              have hfz68_0 := YJ BK234.out 0
              have hfz68_1 := YJ BK234.out 1
              have hfz68_2 := YJ BK234.out 2
              have hfz68_3 := YJ BK234.out 3
              have hfz68_4 := YJ BK234.out 4
              have hfz68_5 := YJ BK234.out 5
              try go_wp2
              go_roundg kj9
              case measure => have := HK1.out; have := HJ9.out; omega
              case rel => exact ⟨(true), (wrap64 (x8_1 + 1)), (x234000_1), (x234001_1), (x234002_1), (x234003_1), (x234004_1), (x234005_1), ((rd_T23 l0 x8_1).f0), ((rd_T23 l0 x8_1).f1), ((rd_T23 l0 x8_1).f2), ((rd_T23 l0 x8_1).f3), ((rd_T23 l0 x8_1).f4), ((rd_T23 l0 x8_1).f5), (by first | rfl | (simp; done) | (simp [*]; done)), (by first | rfl | (simp; done) | (simp [*]; done)), H', ⟨by have := HK1.out; have := HJ9.out; omega⟩, ⟨by (with_reducible repeat (first | refine YF ?_ _ | refine YG ?_ | refine YH ?_ _)); refine blk_far ?_ NB231_234.out _; (with_reducible repeat (first | refine YF ?_ _ | refine YG ?_ | refine YH ?_ _)); refine blk_far ?_ NB231_234.out _; (with_reducible repeat (first | refine YF ?_ _ | refine YG ?_ | refine YH ?_ _)); refine blk_far ?_ NB231_234.out _; (with_reducible repeat (first | refine YF ?_ _ | refine YG ?_ | refine YH ?_ _)); refine blk_far ?_ NB231_234.out _; (with_reducible repeat (first | refine YF ?_ _ | refine YG ?_ | refine YH ?_ _)); refine blk_far ?_ NB231_234.out _; (with_reducible repeat (first | refine YF ?_ _ | refine YG ?_ | refine YH ?_ _)); refine blk_far ?_ NB231_234.out _; (with_reducible repeat (first | refine YF ?_ _ | refine YG ?_ | refine YH ?_ _)); exact BK231.out⟩, ⟨by (with_reducible repeat (first | refine YF ?_ _ | refine YG ?_ | refine YH ?_ _)); refine blk_far ?_ NB232_234.out _; (with_reducible repeat (first | refine YF ?_ _ | refine YG ?_ | refine YH ?_ _)); refine blk_far ?_ NB232_234.out _; (with_reducible repeat (first | refine YF ?_ _ | refine YG ?_ | refine YH ?_ _)); refine blk_far ?_ NB232_234.out _; (with_reducible repeat (first | refine YF ?_ _ | refine YG ?_ | refine YH ?_ _)); refine blk_far ?_ NB232_234.out _; (with_reducible repeat (first | refine YF ?_ _ | refine YG ?_ | refine YH ?_ _)); refine blk_far ?_ NB232_234.out _; (with_reducible repeat (first | refine YF ?_ _ | refine YG ?_ | refine YH ?_ _)); refine blk_far ?_ NB232_234.out _; (with_reducible repeat (first | refine YF ?_ _ | refine YG ?_ | refine YH ?_ _)); exact BK232.out⟩, ⟨by (with_reducible repeat (first | refine YF ?_ _ | refine YG ?_ | refine YH ?_ _)); refine blk_far ?_ NB233_234.out _; (with_reducible repeat (first | refine YF ?_ _ | refine YG ?_ | refine YH ?_ _)); refine blk_far ?_ NB233_234.out _; (with_reducible repeat (first | refine YF ?_ _ | refine YG ?_ | refine YH ?_ _)); refine blk_far ?_ NB233_234.out _; (with_reducible repeat (first | refine YF ?_ _ | refine YG ?_ | refine YH ?_ _)); refine blk_far ?_ NB233_234.out _; (with_reducible repeat (first | refine YF ?_ _ | refine YG ?_ | refine YH ?_ _)); refine blk_far ?_ NB233_234.out _; (with_reducible repeat (first | refine YF ?_ _ | refine YG ?_ | refine YH ?_ _)); refine blk_far ?_ NB233_234.out _; (with_reducible repeat (first | refine YF ?_ _ | refine YG ?_ | refine YH ?_ _)); exact BK233.out⟩, ⟨by (with_reducible repeat (first | refine YF ?_ _ | refine YG ?_ | refine YH ?_ _)); refine blk_put (cs := #[.bool ((rd_T23 l0 x8_1).f0), .int .i64 ((rd_T23 l0 x8_1).f1), .int .i64 ((rd_T23 l0 x8_1).f2), .int .i64 ((rd_T23 l0 x8_1).f3), .int .i64 ((rd_T23 l0 x8_1).f4), .int .i64 x235005_1]) ?_ 5 _ rfl; (with_reducible repeat (first | refine YF ?_ _ | refine YG ?_ | refine YH ?_ _)); refine blk_put (cs := #[.bool ((rd_T23 l0 x8_1).f0), .int .i64 ((rd_T23 l0 x8_1).f1), .int .i64 ((rd_T23 l0 x8_1).f2), .int .i64 ((rd_T23 l0 x8_1).f3), .int .i64 x235004_1, .int .i64 x235005_1]) ?_ 4 _ rfl; (with_reducible repeat (first | refine YF ?_ _ | refine YG ?_ | refine YH ?_ _)); refine blk_put (cs := #[.bool ((rd_T23 l0 x8_1).f0), .int .i64 ((rd_T23 l0 x8_1).f1), .int .i64 ((rd_T23 l0 x8_1).f2), .int .i64 x235003_1, .int .i64 x235004_1, .int .i64 x235005_1]) ?_ 3 _ rfl; (with_reducible repeat (first | refine YF ?_ _ | refine YG ?_ | refine YH ?_ _)); refine blk_put (cs := #[.bool ((rd_T23 l0 x8_1).f0), .int .i64 ((rd_T23 l0 x8_1).f1), .int .i64 x235002_1, .int .i64 x235003_1, .int .i64 x235004_1, .int .i64 x235005_1]) ?_ 2 _ rfl; (with_reducible repeat (first | refine YF ?_ _ | refine YG ?_ | refine YH ?_ _)); refine blk_put (cs := #[.bool ((rd_T23 l0 x8_1).f0), .int .i64 x235001_1, .int .i64 x235002_1, .int .i64 x235003_1, .int .i64 x235004_1, .int .i64 x235005_1]) ?_ 1 _ rfl; (with_reducible repeat (first | refine YF ?_ _ | refine YG ?_ | refine YH ?_ _)); refine blk_put (cs := #[.bool x235000_1, .int .i64 x235001_1, .int .i64 x235002_1, .int .i64 x235003_1, .int .i64 x235004_1, .int .i64 x235005_1]) ?_ 0 _ rfl; (with_reducible repeat (first | refine YF ?_ _ | refine YG ?_ | refine YH ?_ _)); exact BK234.out⟩, ⟨by repeat (first | (with_reducible first | exact HB.out | apply YA | apply YB | apply YC | refine below_set ?_ GE231.out | refine below_set ?_ GE232.out | refine below_set ?_ GE233.out | refine below_set ?_ GE234.out) | exact HB.out)⟩⟩
        replace c9 := Bool.eq_false_iff.mpr c9
        subst c9
        have H1 : (thalwegref02_Ends.l0 k1 l0 x7_1 (wrap64 (x8_1 + 1)) x234000_1 x234001_1 x234002_1 x234003_1 x234004_1 x234005_1 x235000_1 x235001_1 x235002_1 x235003_1 x235004_1 x235005_1) = some (r1, r2, r3, r4, r5, r6, r7, r8, r9, r10, r11, r12, r13) := by rw [if_neg (show ¬ (false = true) by decide)] at H; exact H
        clear H
        have H := H1
        clear H1
        have H' := YL H
        clear H
        have p235 : 0 ≤ (x8_1 : Int) := of_decide_eq_true (by first | (with_reducible assumption) | assumption)
        have q235 : x8_1 < (l0.length : Int) := of_decide_eq_true (by first | (with_reducible assumption) | assumption)
        obtain ⟨ad235, e235, hx235_0, hx235_1, hx235_2, hx235_3, hx235_4, hx235_5⟩ := at_T23 HR0.out x8_1 p235 q235
        cases e235
        replace hx235_0 := (HB.out.cell (World.block_lt_of_cell? w _ hx235_0)).trans hx235_0
        replace hx235_1 := (HB.out.cell (World.block_lt_of_cell? w _ hx235_1)).trans hx235_1
        replace hx235_2 := (HB.out.cell (World.block_lt_of_cell? w _ hx235_2)).trans hx235_2
        replace hx235_3 := (HB.out.cell (World.block_lt_of_cell? w _ hx235_3)).trans hx235_3
        replace hx235_4 := (HB.out.cell (World.block_lt_of_cell? w _ hx235_4)).trans hx235_4
        replace hx235_5 := (HB.out.cell (World.block_lt_of_cell? w _ hx235_5)).trans hx235_5
        replace p235 := eq_true p235
        replace q235 := eq_true q235
        go_wp2_with (first | ((with_reducible refine gate_callee (f := 34) rfl ?_); refine goesL_ (some 19) rfl rfl Try.func34 (by kernel_rfl) rfl #[.agg #[.bool ((rd_T23 l0 x8_1).f0), .int .i64 ((rd_T23 l0 x8_1).f1), .int .i64 ((rd_T23 l0 x8_1).f2), .int .i64 ((rd_T23 l0 x8_1).f3), .int .i64 ((rd_T23 l0 x8_1).f4), .int .i64 ((rd_T23 l0 x8_1).f5)]] rfl (by (try simp only [YP, List.map_cons, List.map_nil]); first | done | rfl | (simp only [YR, YQ]; rfl)) ?_; (with_reducible refine (thalwegref02_Told.calls k1 ((rd_T23 l0 x8_1).f0) ((rd_T23 l0 x8_1).f1) ((rd_T23 l0 x8_1).f2) ((rd_T23 l0 x8_1).f3) ((rd_T23 l0 x8_1).f4) ((rd_T23 l0 x8_1).f5) false _ A8.out).mono ?_); rintro e w69 ⟨rfl, hb⟩; refine ⟨_, rfl, ?_⟩; have n0_ := YL (YK (g := gb231) (o := .cells #[.bool false, .int .i64 0, .int .i64 0, .int .i64 0, .int .i64 0, .int .i64 0] 23 (0, 0)) (by (with_reducible repeat (first | refine YF ?_ _ | refine YG ?_ | refine YH ?_ _)); exact BK231.out) hb); have n1_ := YL (YK (g := gb232) (o := .cells #[.bool false, .int .i64 0, .int .i64 0, .int .i64 0, .int .i64 0, .int .i64 0] 23 (0, 0)) (by (with_reducible repeat (first | refine YF ?_ _ | refine YG ?_ | refine YH ?_ _)); exact BK232.out) hb); have n2_ := YL (YK (g := gb233) (o := .cells #[.bool x234000_1, .int .i64 x234001_1, .int .i64 x234002_1, .int .i64 x234003_1, .int .i64 x234004_1, .int .i64 x234005_1] 23 (0, 0)) (by (with_reducible repeat (first | refine YF ?_ _ | refine YG ?_ | refine YH ?_ _)); exact BK233.out) hb); have n3_ := YL (YK (g := gb234) (o := .cells #[.bool x235000_1, .int .i64 x235001_1, .int .i64 x235002_1, .int .i64 x235003_1, .int .i64 x235004_1, .int .i64 x235005_1] 23 (0, 0)) (by (with_reducible repeat (first | refine YF ?_ _ | refine YG ?_ | refine YH ?_ _)); exact BK234.out) hb); have n4_ := YL (YD (by repeat (first | (with_reducible first | exact HB.out | apply YA | apply YB | apply YC | refine below_set ?_ GE231.out | refine below_set ?_ GE232.out | refine below_set ?_ GE233.out | refine below_set ?_ GE234.out) | exact HB.out)) hb); clear BK231; clear BK232; clear BK233; clear BK234; clear HB; have BK231 := n0_; have BK232 := n1_; have BK233 := n2_; have BK234 := n3_; have HB := n4_; clear n0_ n1_ n2_ n3_ n4_; (try clear hb); (try clear hb2); (try clear hk); (try clear hi)))
        go_roundg k1
        case measure => have := HK1.out; omega
        case rel => exact ⟨(x7_1), (wrap64 (x8_1 + 1)), (x234000_1), (x234001_1), (x234002_1), (x234003_1), (x234004_1), (x234005_1), (x235000_1), (x235001_1), (x235002_1), (x235003_1), (x235004_1), (x235005_1), (by first | rfl | (simp; done) | (simp [*]; done)), (by first | rfl | (simp; done) | (simp [*]; done)), H', ⟨by have := HK1.out; omega⟩, ⟨by (with_reducible repeat (first | refine YF ?_ _ | refine YG ?_ | refine YH ?_ _)); exact BK231.out⟩, ⟨by (with_reducible repeat (first | refine YF ?_ _ | refine YG ?_ | refine YH ?_ _)); exact BK232.out⟩, ⟨by (with_reducible repeat (first | refine YF ?_ _ | refine YG ?_ | refine YH ?_ _)); exact BK233.out⟩, ⟨by (with_reducible repeat (first | refine YF ?_ _ | refine YG ?_ | refine YH ?_ _)); exact BK234.out⟩, ⟨by repeat (first | (with_reducible first | exact HB.out | apply YA | apply YB | apply YC | refine below_set ?_ GE231.out | refine below_set ?_ GE232.out | refine below_set ?_ GE233.out | refine below_set ?_ GE234.out) | exact HB.out)⟩⟩
      rw [if_neg c6] at H
      have c6b0 : decide (x8_1 < (l0.length : Int)) = false := decide_eq_false c6
      clear c6
      simp only [Option.some.injEq, Prod.mk.injEq] at H
      obtain ⟨rfl, rfl, rfl, rfl, rfl, rfl, rfl, rfl, rfl, rfl, rfl, rfl, rfl⟩ := H
      try go_wp2
      have n0_ := YL (YG BK231.out)
      have n1_ := YL (YG BK232.out)
      have n2_ := YL (YG BK233.out)
      have n3_ := YL (YG BK234.out)
      have n4_ := YL (YC HB.out)
      clear BK231; clear BK232; clear BK233; clear BK234; clear HB; have BK231 := n0_; have BK232 := n1_; have BK233 := n2_; have BK234 := n3_; have HB := n4_; clear n0_ n1_ n2_ n3_ n4_
      refine start_ (n := 6) (S := fun w' => w'.cell? ⟨gb233, 0, none⟩ = some (.bool x234000_1) ∧ w'.cell? ⟨gb233, 1, none⟩ = some (.int .i64 x234001_1) ∧ w'.cell? ⟨gb233, 2, none⟩ = some (.int .i64 x234002_1) ∧ w'.cell? ⟨gb233, 3, none⟩ = some (.int .i64 x234003_1) ∧ w'.cell? ⟨gb233, 4, none⟩ = some (.int .i64 x234004_1) ∧ w'.cell? ⟨gb233, 5, none⟩ = some (.int .i64 x234005_1) ∧ w'.cell? ⟨gb234, 0, none⟩ = some (.bool x235000_1) ∧ w'.cell? ⟨gb234, 1, none⟩ = some (.int .i64 x235001_1) ∧ w'.cell? ⟨gb234, 2, none⟩ = some (.int .i64 x235002_1) ∧ w'.cell? ⟨gb234, 3, none⟩ = some (.int .i64 x235003_1) ∧ w'.cell? ⟨gb234, 4, none⟩ = some (.int .i64 x235004_1) ∧ w'.cell? ⟨gb234, 5, none⟩ = some (.int .i64 x235005_1)) (ds := []) #[false, false, false, false, false, false] (by kernel_rfl) rfl rfl ⟨(YI BK233.out 0).trans rfl, (YI BK233.out 1).trans rfl, (YI BK233.out 2).trans rfl, (YI BK233.out 3).trans rfl, (YI BK233.out 4).trans rfl, (YI BK233.out 5).trans rfl, (YI BK234.out 0).trans rfl, (YI BK234.out 1).trans rfl, (YI BK234.out 2).trans rfl, (YI BK234.out 3).trans rfl, (YI BK234.out 4).trans rfl, (YI BK234.out 5).trans rfl⟩ (fun hHeld => ?_)
      generalize wr.drew = w70 at BK231 BK232 BK233 BK234 HB hHeld ⊢
      refine pure_ (i := 2) (N := some 51) (v := ?_) (a' := ?_) #[false, false, true, false, false, false] rfl rfl (by kernel_rfl) (fun _ _ _ h => h) (Or.inl ⟨by rfl, ?_⟩) ?_ ?_
      rotate_left
      · intro w'
        go_simp; with_reducible rfl
      rotate_left
      · simp only [Act.put, YM, YN, YO, i64_w, i32_w]
        rfl
      refine take_ (i := 0) (N := some 49) (v := ?_) (a' := ?_) #[true, false, true, false, false, false] rfl rfl (by kernel_rfl) (fun _ _ _ h => h) (Or.inl ⟨by rfl, ?_⟩) hHeld ?_ ?_
      rotate_left
      · rintro w' ⟨s0, s1, s2, s3, s4, s5, s6, s7, s8, s9, s10, s11⟩
        go_simp; with_reducible rfl
      rotate_left
      · simp only [Act.put, YM, YN, YO, i64_w, i32_w]
        rfl
      refine take_ (i := 1) (N := some 50) (v := ?_) (a' := ?_) #[true, true, true, false, false, false] rfl rfl (by kernel_rfl) (fun _ _ _ h => h) (Or.inl ⟨by rfl, ?_⟩) hHeld ?_ ?_
      rotate_left
      · rintro w' ⟨s0, s1, s2, s3, s4, s5, s6, s7, s8, s9, s10, s11⟩
        go_simp; with_reducible rfl
      rotate_left
      · simp only [Act.put, YM, YN, YO, i64_w, i32_w]
        rfl
      refine one_ (i := 3) (N := none) #[true, true, true, true, false, false] rfl rfl (by kernel_rfl) (by decide) (fun K hK => ?_)
      have hs71 : w70.cell? ⟨gb231, 0, none⟩ = some (.bool false) := (YI BK231.out 0).trans rfl
      have hfs71 := YJ BK231.out 0
      have hns71_1 := NB232_231.out
      have hns71_2 := NB233_231.out
      have hns71_3 := NB234_231.out
      have hms71_1 := NB231_232.out
      have hms71_2 := NB231_233.out
      have hms71_3 := NB231_234.out
      have hs72 : w70.cell? ⟨gb231, 1, none⟩ = some (.int .i64 0) := (YI BK231.out 1).trans rfl
      have hfs72 := YJ BK231.out 1
      have hns72_1 := NB232_231.out
      have hns72_2 := NB233_231.out
      have hns72_3 := NB234_231.out
      have hms72_1 := NB231_232.out
      have hms72_2 := NB231_233.out
      have hms72_3 := NB231_234.out
      have hs73 : w70.cell? ⟨gb231, 2, none⟩ = some (.int .i64 0) := (YI BK231.out 2).trans rfl
      have hfs73 := YJ BK231.out 2
      have hns73_1 := NB232_231.out
      have hns73_2 := NB233_231.out
      have hns73_3 := NB234_231.out
      have hms73_1 := NB231_232.out
      have hms73_2 := NB231_233.out
      have hms73_3 := NB231_234.out
      have hs74 : w70.cell? ⟨gb231, 3, none⟩ = some (.int .i64 0) := (YI BK231.out 3).trans rfl
      have hfs74 := YJ BK231.out 3
      have hns74_1 := NB232_231.out
      have hns74_2 := NB233_231.out
      have hns74_3 := NB234_231.out
      have hms74_1 := NB231_232.out
      have hms74_2 := NB231_233.out
      have hms74_3 := NB231_234.out
      have hs75 : w70.cell? ⟨gb231, 4, none⟩ = some (.int .i64 0) := (YI BK231.out 4).trans rfl
      have hfs75 := YJ BK231.out 4
      have hns75_1 := NB232_231.out
      have hns75_2 := NB233_231.out
      have hns75_3 := NB234_231.out
      have hms75_1 := NB231_232.out
      have hms75_2 := NB231_233.out
      have hms75_3 := NB231_234.out
      have hs76 : w70.cell? ⟨gb231, 5, none⟩ = some (.int .i64 0) := (YI BK231.out 5).trans rfl
      have hfs76 := YJ BK231.out 5
      have hns76_1 := NB232_231.out
      have hns76_2 := NB233_231.out
      have hns76_3 := NB234_231.out
      have hms76_1 := NB231_232.out
      have hms76_2 := NB231_233.out
      have hms76_3 := NB231_234.out
      refine skip_ (w1 := ?_) (by rfl) rfl ?_ ?_
      rotate_left
      · go_simp
        rfl
      refine hK.out _ _ ⟨((cell_far (p := ⟨gb231, _, none⟩) NB233_231.out _).trans (((cell_far (p := ⟨gb231, _, none⟩) NB233_231.out _).trans (((cell_far (p := ⟨gb231, _, none⟩) NB233_231.out _).trans (((cell_far (p := ⟨gb231, _, none⟩) NB233_231.out _).trans (((cell_far (p := ⟨gb231, _, none⟩) NB233_231.out _).trans (((cell_far (p := ⟨gb231, _, none⟩) NB233_231.out _).trans (hHeld.1)))))))))))), ((cell_far (p := ⟨gb231, _, none⟩) NB233_231.out _).trans (((cell_far (p := ⟨gb231, _, none⟩) NB233_231.out _).trans (((cell_far (p := ⟨gb231, _, none⟩) NB233_231.out _).trans (((cell_far (p := ⟨gb231, _, none⟩) NB233_231.out _).trans (((cell_far (p := ⟨gb231, _, none⟩) NB233_231.out _).trans (((cell_far (p := ⟨gb231, _, none⟩) NB233_231.out _).trans (hHeld.2.1)))))))))))), ((cell_far (p := ⟨gb231, _, none⟩) NB233_231.out _).trans (((cell_far (p := ⟨gb231, _, none⟩) NB233_231.out _).trans (((cell_far (p := ⟨gb231, _, none⟩) NB233_231.out _).trans (((cell_far (p := ⟨gb231, _, none⟩) NB233_231.out _).trans (((cell_far (p := ⟨gb231, _, none⟩) NB233_231.out _).trans (((cell_far (p := ⟨gb231, _, none⟩) NB233_231.out _).trans (hHeld.2.2.1)))))))))))), ((cell_far (p := ⟨gb231, _, none⟩) NB233_231.out _).trans (((cell_far (p := ⟨gb231, _, none⟩) NB233_231.out _).trans (((cell_far (p := ⟨gb231, _, none⟩) NB233_231.out _).trans (((cell_far (p := ⟨gb231, _, none⟩) NB233_231.out _).trans (((cell_far (p := ⟨gb231, _, none⟩) NB233_231.out _).trans (((cell_far (p := ⟨gb231, _, none⟩) NB233_231.out _).trans (hHeld.2.2.2.1)))))))))))), ((cell_far (p := ⟨gb231, _, none⟩) NB233_231.out _).trans (((cell_far (p := ⟨gb231, _, none⟩) NB233_231.out _).trans (((cell_far (p := ⟨gb231, _, none⟩) NB233_231.out _).trans (((cell_far (p := ⟨gb231, _, none⟩) NB233_231.out _).trans (((cell_far (p := ⟨gb231, _, none⟩) NB233_231.out _).trans (((cell_far (p := ⟨gb231, _, none⟩) NB233_231.out _).trans (hHeld.2.2.2.2.1)))))))))))), ((cell_far (p := ⟨gb231, _, none⟩) NB233_231.out _).trans (((cell_far (p := ⟨gb231, _, none⟩) NB233_231.out _).trans (((cell_far (p := ⟨gb231, _, none⟩) NB233_231.out _).trans (((cell_far (p := ⟨gb231, _, none⟩) NB233_231.out _).trans (((cell_far (p := ⟨gb231, _, none⟩) NB233_231.out _).trans (((cell_far (p := ⟨gb231, _, none⟩) NB233_231.out _).trans (hHeld.2.2.2.2.2.1)))))))))))), ((cell_far (p := ⟨gb231, _, none⟩) NB234_231.out _).trans (((cell_far (p := ⟨gb231, _, none⟩) NB234_231.out _).trans (((cell_far (p := ⟨gb231, _, none⟩) NB234_231.out _).trans (((cell_far (p := ⟨gb231, _, none⟩) NB234_231.out _).trans (((cell_far (p := ⟨gb231, _, none⟩) NB234_231.out _).trans (((cell_far (p := ⟨gb231, _, none⟩) NB234_231.out _).trans (hHeld.2.2.2.2.2.2.1)))))))))))), ((cell_far (p := ⟨gb231, _, none⟩) NB234_231.out _).trans (((cell_far (p := ⟨gb231, _, none⟩) NB234_231.out _).trans (((cell_far (p := ⟨gb231, _, none⟩) NB234_231.out _).trans (((cell_far (p := ⟨gb231, _, none⟩) NB234_231.out _).trans (((cell_far (p := ⟨gb231, _, none⟩) NB234_231.out _).trans (((cell_far (p := ⟨gb231, _, none⟩) NB234_231.out _).trans (hHeld.2.2.2.2.2.2.2.1)))))))))))), ((cell_far (p := ⟨gb231, _, none⟩) NB234_231.out _).trans (((cell_far (p := ⟨gb231, _, none⟩) NB234_231.out _).trans (((cell_far (p := ⟨gb231, _, none⟩) NB234_231.out _).trans (((cell_far (p := ⟨gb231, _, none⟩) NB234_231.out _).trans (((cell_far (p := ⟨gb231, _, none⟩) NB234_231.out _).trans (((cell_far (p := ⟨gb231, _, none⟩) NB234_231.out _).trans (hHeld.2.2.2.2.2.2.2.2.1)))))))))))), ((cell_far (p := ⟨gb231, _, none⟩) NB234_231.out _).trans (((cell_far (p := ⟨gb231, _, none⟩) NB234_231.out _).trans (((cell_far (p := ⟨gb231, _, none⟩) NB234_231.out _).trans (((cell_far (p := ⟨gb231, _, none⟩) NB234_231.out _).trans (((cell_far (p := ⟨gb231, _, none⟩) NB234_231.out _).trans (((cell_far (p := ⟨gb231, _, none⟩) NB234_231.out _).trans (hHeld.2.2.2.2.2.2.2.2.2.1)))))))))))), ((cell_far (p := ⟨gb231, _, none⟩) NB234_231.out _).trans (((cell_far (p := ⟨gb231, _, none⟩) NB234_231.out _).trans (((cell_far (p := ⟨gb231, _, none⟩) NB234_231.out _).trans (((cell_far (p := ⟨gb231, _, none⟩) NB234_231.out _).trans (((cell_far (p := ⟨gb231, _, none⟩) NB234_231.out _).trans (((cell_far (p := ⟨gb231, _, none⟩) NB234_231.out _).trans (hHeld.2.2.2.2.2.2.2.2.2.2.1)))))))))))), ((cell_far (p := ⟨gb231, _, none⟩) NB234_231.out _).trans (((cell_far (p := ⟨gb231, _, none⟩) NB234_231.out _).trans (((cell_far (p := ⟨gb231, _, none⟩) NB234_231.out _).trans (((cell_far (p := ⟨gb231, _, none⟩) NB234_231.out _).trans (((cell_far (p := ⟨gb231, _, none⟩) NB234_231.out _).trans (((cell_far (p := ⟨gb231, _, none⟩) NB234_231.out _).trans (hHeld.2.2.2.2.2.2.2.2.2.2.2))))))))))))⟩ (fun hHeld => ?_)
      clear hK K
      refine one_ (i := 4) (N := none) #[true, true, true, true, true, false] rfl rfl (by kernel_rfl) (by decide) (fun K hK => ?_)
      have hs77 : w70.cell? ⟨gb232, 0, none⟩ = some (.bool false) := (YI BK232.out 0).trans rfl
      have hfs77 := YJ BK232.out 0
      have hns77_0 := NB231_232.out
      have hns77_2 := NB233_232.out
      have hns77_3 := NB234_232.out
      have hms77_0 := NB232_231.out
      have hms77_2 := NB232_233.out
      have hms77_3 := NB232_234.out
      have hs78 : w70.cell? ⟨gb232, 1, none⟩ = some (.int .i64 0) := (YI BK232.out 1).trans rfl
      have hfs78 := YJ BK232.out 1
      have hns78_0 := NB231_232.out
      have hns78_2 := NB233_232.out
      have hns78_3 := NB234_232.out
      have hms78_0 := NB232_231.out
      have hms78_2 := NB232_233.out
      have hms78_3 := NB232_234.out
      have hs79 : w70.cell? ⟨gb232, 2, none⟩ = some (.int .i64 0) := (YI BK232.out 2).trans rfl
      have hfs79 := YJ BK232.out 2
      have hns79_0 := NB231_232.out
      have hns79_2 := NB233_232.out
      have hns79_3 := NB234_232.out
      have hms79_0 := NB232_231.out
      have hms79_2 := NB232_233.out
      have hms79_3 := NB232_234.out
      have hs80 : w70.cell? ⟨gb232, 3, none⟩ = some (.int .i64 0) := (YI BK232.out 3).trans rfl
      have hfs80 := YJ BK232.out 3
      have hns80_0 := NB231_232.out
      have hns80_2 := NB233_232.out
      have hns80_3 := NB234_232.out
      have hms80_0 := NB232_231.out
      have hms80_2 := NB232_233.out
      have hms80_3 := NB232_234.out
      have hs81 : w70.cell? ⟨gb232, 4, none⟩ = some (.int .i64 0) := (YI BK232.out 4).trans rfl
      have hfs81 := YJ BK232.out 4
      have hns81_0 := NB231_232.out
      have hns81_2 := NB233_232.out
      have hns81_3 := NB234_232.out
      have hms81_0 := NB232_231.out
      have hms81_2 := NB232_233.out
      have hms81_3 := NB232_234.out
      have hs82 : w70.cell? ⟨gb232, 5, none⟩ = some (.int .i64 0) := (YI BK232.out 5).trans rfl
      have hfs82 := YJ BK232.out 5
      have hns82_0 := NB231_232.out
      have hns82_2 := NB233_232.out
      have hns82_3 := NB234_232.out
      have hms82_0 := NB232_231.out
      have hms82_2 := NB232_233.out
      have hms82_3 := NB232_234.out
      refine skip_ (w1 := ?_) (by rfl) rfl ?_ ?_
      rotate_left
      · go_simp
        rfl
      refine hK.out _ _ ⟨((cell_far (p := ⟨gb232, _, none⟩) NB233_232.out _).trans (((cell_far (p := ⟨gb232, _, none⟩) NB233_232.out _).trans (((cell_far (p := ⟨gb232, _, none⟩) NB233_232.out _).trans (((cell_far (p := ⟨gb232, _, none⟩) NB233_232.out _).trans (((cell_far (p := ⟨gb232, _, none⟩) NB233_232.out _).trans (((cell_far (p := ⟨gb232, _, none⟩) NB233_232.out _).trans (hHeld.1)))))))))))), ((cell_far (p := ⟨gb232, _, none⟩) NB233_232.out _).trans (((cell_far (p := ⟨gb232, _, none⟩) NB233_232.out _).trans (((cell_far (p := ⟨gb232, _, none⟩) NB233_232.out _).trans (((cell_far (p := ⟨gb232, _, none⟩) NB233_232.out _).trans (((cell_far (p := ⟨gb232, _, none⟩) NB233_232.out _).trans (((cell_far (p := ⟨gb232, _, none⟩) NB233_232.out _).trans (hHeld.2.1)))))))))))), ((cell_far (p := ⟨gb232, _, none⟩) NB233_232.out _).trans (((cell_far (p := ⟨gb232, _, none⟩) NB233_232.out _).trans (((cell_far (p := ⟨gb232, _, none⟩) NB233_232.out _).trans (((cell_far (p := ⟨gb232, _, none⟩) NB233_232.out _).trans (((cell_far (p := ⟨gb232, _, none⟩) NB233_232.out _).trans (((cell_far (p := ⟨gb232, _, none⟩) NB233_232.out _).trans (hHeld.2.2.1)))))))))))), ((cell_far (p := ⟨gb232, _, none⟩) NB233_232.out _).trans (((cell_far (p := ⟨gb232, _, none⟩) NB233_232.out _).trans (((cell_far (p := ⟨gb232, _, none⟩) NB233_232.out _).trans (((cell_far (p := ⟨gb232, _, none⟩) NB233_232.out _).trans (((cell_far (p := ⟨gb232, _, none⟩) NB233_232.out _).trans (((cell_far (p := ⟨gb232, _, none⟩) NB233_232.out _).trans (hHeld.2.2.2.1)))))))))))), ((cell_far (p := ⟨gb232, _, none⟩) NB233_232.out _).trans (((cell_far (p := ⟨gb232, _, none⟩) NB233_232.out _).trans (((cell_far (p := ⟨gb232, _, none⟩) NB233_232.out _).trans (((cell_far (p := ⟨gb232, _, none⟩) NB233_232.out _).trans (((cell_far (p := ⟨gb232, _, none⟩) NB233_232.out _).trans (((cell_far (p := ⟨gb232, _, none⟩) NB233_232.out _).trans (hHeld.2.2.2.2.1)))))))))))), ((cell_far (p := ⟨gb232, _, none⟩) NB233_232.out _).trans (((cell_far (p := ⟨gb232, _, none⟩) NB233_232.out _).trans (((cell_far (p := ⟨gb232, _, none⟩) NB233_232.out _).trans (((cell_far (p := ⟨gb232, _, none⟩) NB233_232.out _).trans (((cell_far (p := ⟨gb232, _, none⟩) NB233_232.out _).trans (((cell_far (p := ⟨gb232, _, none⟩) NB233_232.out _).trans (hHeld.2.2.2.2.2.1)))))))))))), ((cell_far (p := ⟨gb232, _, none⟩) NB234_232.out _).trans (((cell_far (p := ⟨gb232, _, none⟩) NB234_232.out _).trans (((cell_far (p := ⟨gb232, _, none⟩) NB234_232.out _).trans (((cell_far (p := ⟨gb232, _, none⟩) NB234_232.out _).trans (((cell_far (p := ⟨gb232, _, none⟩) NB234_232.out _).trans (((cell_far (p := ⟨gb232, _, none⟩) NB234_232.out _).trans (hHeld.2.2.2.2.2.2.1)))))))))))), ((cell_far (p := ⟨gb232, _, none⟩) NB234_232.out _).trans (((cell_far (p := ⟨gb232, _, none⟩) NB234_232.out _).trans (((cell_far (p := ⟨gb232, _, none⟩) NB234_232.out _).trans (((cell_far (p := ⟨gb232, _, none⟩) NB234_232.out _).trans (((cell_far (p := ⟨gb232, _, none⟩) NB234_232.out _).trans (((cell_far (p := ⟨gb232, _, none⟩) NB234_232.out _).trans (hHeld.2.2.2.2.2.2.2.1)))))))))))), ((cell_far (p := ⟨gb232, _, none⟩) NB234_232.out _).trans (((cell_far (p := ⟨gb232, _, none⟩) NB234_232.out _).trans (((cell_far (p := ⟨gb232, _, none⟩) NB234_232.out _).trans (((cell_far (p := ⟨gb232, _, none⟩) NB234_232.out _).trans (((cell_far (p := ⟨gb232, _, none⟩) NB234_232.out _).trans (((cell_far (p := ⟨gb232, _, none⟩) NB234_232.out _).trans (hHeld.2.2.2.2.2.2.2.2.1)))))))))))), ((cell_far (p := ⟨gb232, _, none⟩) NB234_232.out _).trans (((cell_far (p := ⟨gb232, _, none⟩) NB234_232.out _).trans (((cell_far (p := ⟨gb232, _, none⟩) NB234_232.out _).trans (((cell_far (p := ⟨gb232, _, none⟩) NB234_232.out _).trans (((cell_far (p := ⟨gb232, _, none⟩) NB234_232.out _).trans (((cell_far (p := ⟨gb232, _, none⟩) NB234_232.out _).trans (hHeld.2.2.2.2.2.2.2.2.2.1)))))))))))), ((cell_far (p := ⟨gb232, _, none⟩) NB234_232.out _).trans (((cell_far (p := ⟨gb232, _, none⟩) NB234_232.out _).trans (((cell_far (p := ⟨gb232, _, none⟩) NB234_232.out _).trans (((cell_far (p := ⟨gb232, _, none⟩) NB234_232.out _).trans (((cell_far (p := ⟨gb232, _, none⟩) NB234_232.out _).trans (((cell_far (p := ⟨gb232, _, none⟩) NB234_232.out _).trans (hHeld.2.2.2.2.2.2.2.2.2.2.1)))))))))))), ((cell_far (p := ⟨gb232, _, none⟩) NB234_232.out _).trans (((cell_far (p := ⟨gb232, _, none⟩) NB234_232.out _).trans (((cell_far (p := ⟨gb232, _, none⟩) NB234_232.out _).trans (((cell_far (p := ⟨gb232, _, none⟩) NB234_232.out _).trans (((cell_far (p := ⟨gb232, _, none⟩) NB234_232.out _).trans (((cell_far (p := ⟨gb232, _, none⟩) NB234_232.out _).trans (hHeld.2.2.2.2.2.2.2.2.2.2.2))))))))))))⟩ (fun hHeld => ?_)
      clear hK K
      refine pure_ (i := 5) (N := some 4) (v := ?_) (a' := ?_) #[true, true, true, true, true, true] rfl rfl (by kernel_rfl) (fun _ _ _ h => h) (Or.inl ⟨by rfl, ?_⟩) ?_ ?_
      rotate_left
      · intro w'
        go_simp; with_reducible rfl
      rotate_left
      · simp only [Act.put, YM, YN, YO, i64_w, i32_w]
        rfl
      refine done_ (by kernel_rfl) ?_
      try go_wp2
      refine bodyPost_ret (results_list (rs := [.cell 2 23, .cell 3 23, .tmp 4]) rfl (by simp) (.cell gb231 23 #[.bool x234000_1, .int .i64 x234001_1, .int .i64 x234002_1, .int .i64 x234003_1, .int .i64 x234004_1, .int .i64 x234005_1] (0, 0) _ rfl (by (with_reducible repeat (first | refine YF ?_ _ | refine YG ?_ | refine YH ?_ _)); refine blk_far ?_ NB231_232.out _; (with_reducible repeat (first | refine YF ?_ _ | refine YG ?_ | refine YH ?_ _)); refine blk_far ?_ NB231_232.out _; (with_reducible repeat (first | refine YF ?_ _ | refine YG ?_ | refine YH ?_ _)); refine blk_far ?_ NB231_232.out _; (with_reducible repeat (first | refine YF ?_ _ | refine YG ?_ | refine YH ?_ _)); refine blk_far ?_ NB231_232.out _; (with_reducible repeat (first | refine YF ?_ _ | refine YG ?_ | refine YH ?_ _)); refine blk_far ?_ NB231_232.out _; (with_reducible repeat (first | refine YF ?_ _ | refine YG ?_ | refine YH ?_ _)); refine blk_far ?_ NB231_232.out _; (with_reducible repeat (first | refine YF ?_ _ | refine YG ?_ | refine YH ?_ _)); refine blk_put (cs := #[.bool x234000_1, .int .i64 x234001_1, .int .i64 x234002_1, .int .i64 x234003_1, .int .i64 x234004_1, .int .i64 0]) ?_ 5 _ rfl; (with_reducible repeat (first | refine YF ?_ _ | refine YG ?_ | refine YH ?_ _)); refine blk_put (cs := #[.bool x234000_1, .int .i64 x234001_1, .int .i64 x234002_1, .int .i64 x234003_1, .int .i64 0, .int .i64 0]) ?_ 4 _ rfl; (with_reducible repeat (first | refine YF ?_ _ | refine YG ?_ | refine YH ?_ _)); refine blk_put (cs := #[.bool x234000_1, .int .i64 x234001_1, .int .i64 x234002_1, .int .i64 0, .int .i64 0, .int .i64 0]) ?_ 3 _ rfl; (with_reducible repeat (first | refine YF ?_ _ | refine YG ?_ | refine YH ?_ _)); refine blk_put (cs := #[.bool x234000_1, .int .i64 x234001_1, .int .i64 0, .int .i64 0, .int .i64 0, .int .i64 0]) ?_ 2 _ rfl; (with_reducible repeat (first | refine YF ?_ _ | refine YG ?_ | refine YH ?_ _)); refine blk_put (cs := #[.bool x234000_1, .int .i64 0, .int .i64 0, .int .i64 0, .int .i64 0, .int .i64 0]) ?_ 1 _ rfl; (with_reducible repeat (first | refine YF ?_ _ | refine YG ?_ | refine YH ?_ _)); refine blk_put (cs := #[.bool false, .int .i64 0, .int .i64 0, .int .i64 0, .int .i64 0, .int .i64 0]) ?_ 0 _ rfl; (with_reducible repeat (first | refine YF ?_ _ | refine YG ?_ | refine YH ?_ _)); exact BK231.out) Try.underlying23 rfl (by kernel_rfl) (.cell gb232 23 #[.bool x235000_1, .int .i64 x235001_1, .int .i64 x235002_1, .int .i64 x235003_1, .int .i64 x235004_1, .int .i64 x235005_1] (0, 0) _ rfl (by (with_reducible repeat (first | refine YF ?_ _ | refine YG ?_ | refine YH ?_ _)); refine blk_put (cs := #[.bool x235000_1, .int .i64 x235001_1, .int .i64 x235002_1, .int .i64 x235003_1, .int .i64 x235004_1, .int .i64 0]) ?_ 5 _ rfl; (with_reducible repeat (first | refine YF ?_ _ | refine YG ?_ | refine YH ?_ _)); refine blk_put (cs := #[.bool x235000_1, .int .i64 x235001_1, .int .i64 x235002_1, .int .i64 x235003_1, .int .i64 0, .int .i64 0]) ?_ 4 _ rfl; (with_reducible repeat (first | refine YF ?_ _ | refine YG ?_ | refine YH ?_ _)); refine blk_put (cs := #[.bool x235000_1, .int .i64 x235001_1, .int .i64 x235002_1, .int .i64 0, .int .i64 0, .int .i64 0]) ?_ 3 _ rfl; (with_reducible repeat (first | refine YF ?_ _ | refine YG ?_ | refine YH ?_ _)); refine blk_put (cs := #[.bool x235000_1, .int .i64 x235001_1, .int .i64 0, .int .i64 0, .int .i64 0, .int .i64 0]) ?_ 2 _ rfl; (with_reducible repeat (first | refine YF ?_ _ | refine YG ?_ | refine YH ?_ _)); refine blk_put (cs := #[.bool x235000_1, .int .i64 0, .int .i64 0, .int .i64 0, .int .i64 0, .int .i64 0]) ?_ 1 _ rfl; (with_reducible repeat (first | refine YF ?_ _ | refine YG ?_ | refine YH ?_ _)); refine blk_put (cs := #[.bool false, .int .i64 0, .int .i64 0, .int .i64 0, .int .i64 0, .int .i64 0]) ?_ 0 _ rfl; (with_reducible repeat (first | refine YF ?_ _ | refine YG ?_ | refine YH ?_ _)); refine blk_far ?_ NB232_231.out _; (with_reducible repeat (first | refine YF ?_ _ | refine YG ?_ | refine YH ?_ _)); refine blk_far ?_ NB232_231.out _; (with_reducible repeat (first | refine YF ?_ _ | refine YG ?_ | refine YH ?_ _)); refine blk_far ?_ NB232_231.out _; (with_reducible repeat (first | refine YF ?_ _ | refine YG ?_ | refine YH ?_ _)); refine blk_far ?_ NB232_231.out _; (with_reducible repeat (first | refine YF ?_ _ | refine YG ?_ | refine YH ?_ _)); refine blk_far ?_ NB232_231.out _; (with_reducible repeat (first | refine YF ?_ _ | refine YG ?_ | refine YH ?_ _)); refine blk_far ?_ NB232_231.out _; (with_reducible repeat (first | refine YF ?_ _ | refine YG ?_ | refine YH ?_ _)); exact BK232.out) Try.underlying23 rfl (by kernel_rfl) (.tmp .nil)))) rfl ?_
      exact ⟨by first | rfl | (simp [errW_none, errW_some] <;> rfl) | (simp [*, errW_none, errW_some] <;> rfl), by repeat (first | (with_reducible first | exact HB.out | apply YA | apply YB | apply YC | refine below_set ?_ GE231.out | refine below_set ?_ GE232.out | refine below_set ?_ GE233.out | refine below_set ?_ GE234.out) | exact HB.out)⟩

end Go.Proofs.Ytjeahmlahkngaaa.P
