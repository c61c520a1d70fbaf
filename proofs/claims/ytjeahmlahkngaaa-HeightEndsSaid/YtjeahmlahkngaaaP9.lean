-- WRITTEN BY xprint.py, a program of this session that drives the kit's printer.
import Derived.Test.YtjeahmlahkngaaaP0
import Derived.Test.YtjeahmlahkngaaaP6
import Derived.Test.YtjeahmlahkngaaaP7
import Derived.Test.YtjeahmlahkngaaaP8
namespace Go.Proofs.Ytjeahmlahkngaaa.P
open Go.RowKit Go.Proofs.YtjeahmlahkngaaaW.PrintWords Go.Proofs.YtjeahmlahkngaaaW.PrintLast Go.Proofs.YtjeahmlahkngaaaW.PrintMore
open Go.Proofs.YtjeahmlahkngaaaW.PrintWords renaming below_alloc → YA, pw_below_drewN → YB, below_drew1 → YC, below_step → YD, below_size → YE, blk_drewN → YF, blk_drew → YG, blk_alloc → YH, blk_cell → YI, blk_below → YJ
open Go.Proofs.YtjeahmlahkngaaaW.PrintWords.Aside0 renaming mk → YK
open List renaming setIfInBounds_toArray → YL, set_cons_zero → YM, set_cons_succ → YN, map_toArray → YO, length_take → YP, length_drop → YQ
attribute [local go_sem] max2_int min2_int max_two min_two max_three min_three max_four min_four   -- for this text's walks alone
set_option linter.unusedVariables false
set_option linter.unusedSimpArgs false

/-! ### height_Less: function 14 -/
def height_Less.f (k : Nat) (a0_0 : Bool) (a0_1 : Int) (a0_2 : Int) (a0_3 : Int) (a0_4 : Int) (a0_5 : Int) (a1_0 : Bool) (a1_1 : Int) (a1_2 : Int) (a1_3 : Int) (a1_4 : Int) (a1_5 : Int) : Option (Bool) := (height_known.f k a0_0 a0_1 a0_2 a0_3 a0_4 a0_5).bind fun t167 => (if t167 = true then ((height_known.f k a1_0 a1_1 a1_2 a1_3 a1_4 a1_5).bind fun t168 => (if t168 = true then ((height_Level.f k a0_0 a0_1 a0_2 a0_3 a0_4 a0_5).bind fun bt169 => ((height_Level.f k a1_0 a1_1 a1_2 a1_3 a1_4 a1_5).bind fun bt172 => ((height_Order.f k bt169.1 bt169.2.1 bt169.2.2 bt172.1 bt172.2.1 bt172.2.2).bind fun t175 => ((cmp_Compare_int.f a0_4 a1_4).bind fun t176 => ((cmp_Compare_int.f a0_5 a1_5).bind fun t177 => ((cmp_Or_int.f k (([t175, t176, t177] : List Int))).bind fun t181 => (some (decide (t181 < 0))))))))) else (some false))) else (some false))
theorem height_Less.mono : ∀ a0 a1 a2 a3 a4 a5 a6 a7 a8 a9 a10 a11 k, LeO (height_Less.f k a0 a1 a2 a3 a4 a5 a6 a7 a8 a9 a10 a11) (height_Less.f (k + 1) a0 a1 a2 a3 a4 a5 a6 a7 a8 a9 a10 a11) := by
  intro a0 a1 a2 a3 a4 a5 a6 a7 a8 a9 a10 a11 k
  unfold height_Less.f
  repeat' first
      | (with_reducible exact cmp_Or_int.mono _ _)
      | (with_reducible exact height_Level.mono _ _ _ _ _ _ _)
      | (with_reducible exact height_Order.mono _ _ _ _ _ _ _)
      | (with_reducible exact height_known.mono _ _ _ _ _ _ _)
      | (with_reducible exact LeO.refl _)
      | (with_reducible exact LeO.none _)
      | (with_reducible refine LeO.ite ?_ ?_)
      | (with_reducible refine LeO.bind ?_ (fun _ => ?_))
      | exact cmp_Or_int.mono _ _
      | exact height_Level.mono _ _ _ _ _ _ _
      | exact height_Order.mono _ _ _ _ _ _ _
      | exact height_known.mono _ _ _ _ _ _ _
      | exact LeO.none _
      | refine LeO.ite ?_ ?_
      | refine LeO.bind ?_ (fun _ => ?_)
def height_Less.T1 : Bool × List (List Nat × List Nat) := (true, [([], []), ([0], [0]), ([1, 1], [1]), ([2], [2]), ([3, 2, 2], [2, 3]), ([2, 4], [2, 4]), ([5, 4], [5]), ([6], [6]), ([7, 6, 6], [6, 7]), ([6], [6]), ([9, 8, 6], [6, 9]), ([8, 10, 10, 6], [6, 8, 10]), ([6], [6]), ([12, 6], [6, 12]), ([6], [6]), ([14, 6], [6, 14]), ([13, 15, 11, 6], [6, 13, 15]), ([6], [6]), ([17, 6], [6, 17]), ([6], [6]), ([19, 6], [6, 19]), ([18, 20, 16, 6], [6, 18, 20]), ([11, 16, 21, 6], [6, 11, 16, 21]), ([22, 21, 6], [6, 22]), ([23, 6], [6, 23]), ([6, 24], [6, 24]), ([25, 23, 0, 1, 2, 3, 4, 5, 6, 7, 8, 9, 10, 11, 12, 13, 14, 15, 16, 17, 18, 19, 20, 21, 22, 23, 24, 25], [25])])
def height_Less.B1 : List Nat := [0, 1, 3, 7, 15, 31, 63, 127, 255, 127, 1023, 2047, 127, 4223, 127, 16511, 65535, 127, 131199, 127, 524415, 2097151, 4194303, 8388607, 16777215, 33554431, 67108863]
theorem height_Less.tab1 : rtab .any (opsOf Try.f14 1) = height_Less.T1 := by kernel_rfl
theorem height_Less.bits1 : waitsOk height_Less.T1.2 height_Less.B1 = true := by kernel_rfl
set_option maxHeartbeats 8000000 in
set_option maxRecDepth 100000 in
theorem height_Less.calls (k : Nat) (a0_0 : Bool) (a0_1 : Int) (a0_2 : Int) (a0_3 : Int) (a0_4 : Int) (a0_5 : Int) (a1_0 : Bool) (a1_1 : Int) (a1_2 : Int) (a1_3 : Int) (a1_4 : Int) (a1_5 : Int) (r : Bool) (w : World) (h : height_Less.f k a0_0 a0_1 a0_2 a0_3 a0_4 a0_5 a1_0 a1_1 a1_2 a1_3 a1_4 a1_5 = some r) :
    Calls Try.prog 14 #[.agg #[.bool a0_0, .int .i64 a0_1, .int .i64 a0_2, .int .i64 a0_3, .int .i64 a0_4, .int .i64 a0_5], .agg #[.bool a1_0, .int .i64 a1_1, .int .i64 a1_2, .int .i64 a1_3, .int .i64 a1_4, .int .i64 a1_5]] w fun e w' => e = .returned (.bool r) ∧ Below w.heap.size w w' := by
  have hu23 := Try.underlying23
  have HB := YK (Below.refl w.heap.size w)
  have H : ((height_known.f k a0_0 a0_1 a0_2 a0_3 a0_4 a0_5).bind fun t167 => (if t167 = true then ((height_known.f k a1_0 a1_1 a1_2 a1_3 a1_4 a1_5).bind fun t168 => (if t168 = true then ((height_Level.f k a0_0 a0_1 a0_2 a0_3 a0_4 a0_5).bind fun bt169 => ((height_Level.f k a1_0 a1_1 a1_2 a1_3 a1_4 a1_5).bind fun bt172 => ((height_Order.f k bt169.1 bt169.2.1 bt169.2.2 bt172.1 bt172.2.1 bt172.2.2).bind fun t175 => ((cmp_Compare_int.f a0_4 a1_4).bind fun t176 => ((cmp_Compare_int.f a0_5 a1_5).bind fun t177 => ((cmp_Or_int.f k (([t175, t176, t177] : List Int))).bind fun t181 => (some (decide (t181 < 0))))))))) else (some false))) else (some false))) = some r := h
  clear h; replace H := Option.bind_eq_some_iff.mp H; obtain ⟨t167, A30, H⟩ := H
  replace H : (if t167 = true then ((height_known.f k a1_0 a1_1 a1_2 a1_3 a1_4 a1_5).bind fun t168 => (if t168 = true then ((height_Level.f k a0_0 a0_1 a0_2 a0_3 a0_4 a0_5).bind fun bt169 => ((height_Level.f k a1_0 a1_1 a1_2 a1_3 a1_4 a1_5).bind fun bt172 => ((height_Order.f k bt169.1 bt169.2.1 bt169.2.2 bt172.1 bt172.2.1 bt172.2.2).bind fun t175 => ((cmp_Compare_int.f a0_4 a1_4).bind fun t176 => ((cmp_Compare_int.f a0_5 a1_5).bind fun t177 => ((cmp_Or_int.f k (([t175, t176, t177] : List Int))).bind fun t181 => (some (decide (t181 < 0))))))))) else (some false))) else (some false)) = some r := H
  have A3 := YK A30; clear A30
  by_cases c4 : t167 = true
  · subst c4
    have H1 : ((height_known.f k a1_0 a1_1 a1_2 a1_3 a1_4 a1_5).bind fun t168 => (if t168 = true then ((height_Level.f k a0_0 a0_1 a0_2 a0_3 a0_4 a0_5).bind fun bt169 => ((height_Level.f k a1_0 a1_1 a1_2 a1_3 a1_4 a1_5).bind fun bt172 => ((height_Order.f k bt169.1 bt169.2.1 bt169.2.2 bt172.1 bt172.2.1 bt172.2.2).bind fun t175 => ((cmp_Compare_int.f a0_4 a1_4).bind fun t176 => ((cmp_Compare_int.f a0_5 a1_5).bind fun t177 => ((cmp_Or_int.f k (([t175, t176, t177] : List Int))).bind fun t181 => (some (decide (t181 < 0))))))))) else (some false))) = some r := by rw [if_pos rfl] at H; exact H
    clear H
    have H := H1
    clear H1; replace H := Option.bind_eq_some_iff.mp H; obtain ⟨t168, A50, H⟩ := H
    replace H : (if t168 = true then ((height_Level.f k a0_0 a0_1 a0_2 a0_3 a0_4 a0_5).bind fun bt169 => ((height_Level.f k a1_0 a1_1 a1_2 a1_3 a1_4 a1_5).bind fun bt172 => ((height_Order.f k bt169.1 bt169.2.1 bt169.2.2 bt172.1 bt172.2.1 bt172.2.2).bind fun t175 => ((cmp_Compare_int.f a0_4 a1_4).bind fun t176 => ((cmp_Compare_int.f a0_5 a1_5).bind fun t177 => ((cmp_Or_int.f k (([t175, t176, t177] : List Int))).bind fun t181 => (some (decide (t181 < 0))))))))) else (some false)) = some r := H
    have A5 := YK A50; clear A50
    by_cases c6 : t168 = true
    · subst c6
      have H1 : ((height_Level.f k a0_0 a0_1 a0_2 a0_3 a0_4 a0_5).bind fun bt169 => ((height_Level.f k a1_0 a1_1 a1_2 a1_3 a1_4 a1_5).bind fun bt172 => ((height_Order.f k bt169.1 bt169.2.1 bt169.2.2 bt172.1 bt172.2.1 bt172.2.2).bind fun t175 => ((cmp_Compare_int.f a0_4 a1_4).bind fun t176 => ((cmp_Compare_int.f a0_5 a1_5).bind fun t177 => ((cmp_Or_int.f k (([t175, t176, t177] : List Int))).bind fun t181 => (some (decide (t181 < 0))))))))) = some r := by rw [if_pos rfl] at H; exact H
      clear H
      have H := H1
      clear H1; replace H := Option.bind_eq_some_iff.mp H
      obtain ⟨⟨t169, t170, t171⟩, A70, H⟩ := H
      replace H : ((height_Level.f k a1_0 a1_1 a1_2 a1_3 a1_4 a1_5).bind fun bt172 => ((height_Order.f k t169 t170 t171 bt172.1 bt172.2.1 bt172.2.2).bind fun t175 => ((cmp_Compare_int.f a0_4 a1_4).bind fun t176 => ((cmp_Compare_int.f a0_5 a1_5).bind fun t177 => ((cmp_Or_int.f k (([t175, t176, t177] : List Int))).bind fun t181 => (some (decide (t181 < 0)))))))) = some r := H
      have A7 := YK A70; clear A70; replace H := Option.bind_eq_some_iff.mp H
      obtain ⟨⟨t172, t173, t174⟩, A80, H⟩ := H
      replace H : ((height_Order.f k t169 t170 t171 t172 t173 t174).bind fun t175 => ((cmp_Compare_int.f a0_4 a1_4).bind fun t176 => ((cmp_Compare_int.f a0_5 a1_5).bind fun t177 => ((cmp_Or_int.f k (([t175, t176, t177] : List Int))).bind fun t181 => (some (decide (t181 < 0))))))) = some r := H
      have A8 := YK A80; clear A80; replace H := Option.bind_eq_some_iff.mp H; obtain ⟨t175, A90, H⟩ := H
      replace H : ((cmp_Compare_int.f a0_4 a1_4).bind fun t176 => ((cmp_Compare_int.f a0_5 a1_5).bind fun t177 => ((cmp_Or_int.f k (([t175, t176, t177] : List Int))).bind fun t181 => (some (decide (t181 < 0)))))) = some r := H
      have A9 := YK A90; clear A90; replace H := Option.bind_eq_some_iff.mp H; obtain ⟨t176, A100, H⟩ := H
      replace H : ((cmp_Compare_int.f a0_5 a1_5).bind fun t177 => ((cmp_Or_int.f k (([t175, t176, t177] : List Int))).bind fun t181 => (some (decide (t181 < 0))))) = some r := H
      have A10 := YK A100; clear A100; replace H := Option.bind_eq_some_iff.mp H; obtain ⟨t177, A110, H⟩ := H
      replace H : ((cmp_Or_int.f k (([t175, t176, t177] : List Int))).bind fun t181 => (some (decide (t181 < 0)))) = some r := H
      have A11 := YK A110; clear A110
      obtain ⟨y178, hy178⟩ : ∃ y_ : List Int, y_ = (([t175, t176, t177] : List Int)) := ⟨_, rfl⟩
      replace H : ((cmp_Or_int.f k y178).bind fun t181 => (some (decide (t181 < 0)))) = some r := by first | (rw [hy178]; with_reducible exact H) | (have H2_ := (Option.bind_some _ _).symm.trans H; rw [hy178]; with_reducible exact H2_) | (have H2_ := (Option.bind_some _ _).symm.trans H; with_reducible exact H2_) | with_reducible exact H | (rw [hy178]; exact H) | exact H
      have Ny178 := YK hy178; clear hy178; replace H := Option.bind_eq_some_iff.mp H; obtain ⟨t181, A120, H⟩ := H
      replace H : (some (decide (t181 < 0))) = some r := H
      have A12 := YK A120; clear A120
      obtain rfl := Option.some.inj H
      go_enter Try.func14, Try.ntmps14
      try go_wp2_with (first | ((with_reducible refine gate_dst (N := 2) rfl ?_); (try (refine gate_guard (by rfl) ?_; dsimp only)); refine box_event ?hg (N := 2) ?hd (cs := #[.bool a0_0, .int .i64 a0_1, .int .i64 a0_2, .int .i64 a0_3, .int .i64 a0_4, .int .i64 a0_5]) (t := 23) ?hr ?_; (case hd => rfl); (case hg => rfl); (case hr => first | (go_simp; done) | (go_simp; rfl)); intro gb165 hg w13 hbox hb; have n0_ := YK (YD (by repeat (first | (with_reducible first | exact HB.out | apply YA | apply YB | apply YC) | exact HB.out)) hb); have n1_ := YK (hbox); have n2_ := YK ((by rw [hg]; exact (YE (by repeat (first | (with_reducible first | exact HB.out | apply YA | apply YB | apply YC) | exact HB.out))) : w.heap.size ≤ gb165)); have n3_ := YK ((by rw [hg]; exact (YE (by repeat (first | (with_reducible first | exact HB.out | apply YA | apply YB | apply YC) | exact HB.out))) : w.heap.size ≤ gb165)); clear HB; have HB := n0_; have BK165 := n1_; have GW165 := n2_; have GE165 := n3_; clear n0_ n1_ n2_ n3_; clear hb hbox hg) | ((with_reducible refine gate_dst (N := 3) rfl ?_); (try (refine gate_guard (by rfl) ?_; dsimp only)); refine box_event ?hg (N := 3) ?hd (cs := #[.bool a1_0, .int .i64 a1_1, .int .i64 a1_2, .int .i64 a1_3, .int .i64 a1_4, .int .i64 a1_5]) (t := 23) ?hr ?_; (case hd => rfl); (case hg => rfl); (case hr => first | (go_simp; done) | (go_simp; rfl)); intro gb166 hg w14 hbox hb; have n0_ := YK (YJ (g := gb165) (o := .cells #[.bool a0_0, .int .i64 a0_1, .int .i64 a0_2, .int .i64 a0_3, .int .i64 a0_4, .int .i64 a0_5] 23 (0, 0)) (by (with_reducible repeat (first | refine YF ?_ _ | refine YG ?_ | refine YH ?_ _)); exact BK165.out) hb); have n1_ := YK (YD (by repeat (first | (with_reducible first | exact HB.out | apply YA | apply YB | apply YC | refine below_set ?_ GE165.out) | exact HB.out)) hb); have n2_ := YK (hbox); have n3_ := YK ((by rw [hg]; exact (YE (by repeat (first | (with_reducible first | exact HB.out | apply YA | apply YB | apply YC | refine below_set ?_ GE165.out) | exact HB.out))) : w.heap.size ≤ gb166)); have n4_ := YK ((by rw [hg]; exact (YE (by repeat (first | (with_reducible first | exact HB.out | apply YA | apply YB | apply YC | refine below_set ?_ GE165.out) | exact HB.out))) : w.heap.size ≤ gb166)); have n5_ := YK ((by rw [hg]; exact Nat.ne_of_lt (blk_lt (g := gb165) (o := .cells #[.bool a0_0, .int .i64 a0_1, .int .i64 a0_2, .int .i64 a0_3, .int .i64 a0_4, .int .i64 a0_5] 23 (0, 0)) (by (with_reducible repeat (first | refine YF ?_ _ | refine YG ?_ | refine YH ?_ _)); exact BK165.out)) : gb165 ≠ gb166)); have n6_ := YK ((by rw [hg]; exact Nat.ne_of_gt (blk_lt (g := gb165) (o := .cells #[.bool a0_0, .int .i64 a0_1, .int .i64 a0_2, .int .i64 a0_3, .int .i64 a0_4, .int .i64 a0_5] 23 (0, 0)) (by (with_reducible repeat (first | refine YF ?_ _ | refine YG ?_ | refine YH ?_ _)); exact BK165.out)) : gb166 ≠ gb165)); clear BK165; clear HB; have BK165 := n0_; have HB := n1_; have BK166 := n2_; have GW166 := n3_; have GE166 := n4_; have NB165_166 := n5_; have NB166_165 := n6_; clear n0_ n1_ n2_ n3_ n4_ n5_ n6_; clear hb hbox hg))
      have n0_ := YK (YG BK165.out)
      have n1_ := YK (YG BK166.out)
      have n2_ := YK (YC HB.out)
      clear BK165; clear BK166; clear HB; have BK165 := n0_; have BK166 := n1_; have HB := n2_; clear n0_ n1_ n2_
      refine start_ (n := 27) (S := fun w' => w'.cell? ⟨gb165, 0, none⟩ = some (.bool a0_0) ∧ w'.cell? ⟨gb165, 1, none⟩ = some (.int .i64 a0_1) ∧ w'.cell? ⟨gb165, 2, none⟩ = some (.int .i64 a0_2) ∧ w'.cell? ⟨gb165, 3, none⟩ = some (.int .i64 a0_3) ∧ w'.cell? ⟨gb165, 4, none⟩ = some (.int .i64 a0_4) ∧ w'.cell? ⟨gb165, 5, none⟩ = some (.int .i64 a0_5) ∧ w'.cell? ⟨gb166, 0, none⟩ = some (.bool a1_0) ∧ w'.cell? ⟨gb166, 1, none⟩ = some (.int .i64 a1_1) ∧ w'.cell? ⟨gb166, 2, none⟩ = some (.int .i64 a1_2) ∧ w'.cell? ⟨gb166, 3, none⟩ = some (.int .i64 a1_3) ∧ w'.cell? ⟨gb166, 4, none⟩ = some (.int .i64 a1_4) ∧ w'.cell? ⟨gb166, 5, none⟩ = some (.int .i64 a1_5)) (ds := []) #[false, false, false, false, false, false, false, false, false, false, false, false, false, false, false, false, false, false, false, false, false, false, false, false, false, false, false] (by kernel_rfl) rfl rfl ⟨(YI BK165.out 0).trans rfl, (YI BK165.out 1).trans rfl, (YI BK165.out 2).trans rfl, (YI BK165.out 3).trans rfl, (YI BK165.out 4).trans rfl, (YI BK165.out 5).trans rfl, (YI BK166.out 0).trans rfl, (YI BK166.out 1).trans rfl, (YI BK166.out 2).trans rfl, (YI BK166.out 3).trans rfl, (YI BK166.out 4).trans rfl, (YI BK166.out 5).trans rfl⟩ (fun hHeld => ?_); refine with_tabW height_Less.tab1 height_Less.bits1 (fun HT_ HW_ => ?_)
      generalize w14.drew = w15 at BK165 BK166 HB hHeld ⊢
      refine take_ (i := 0) (N := some 5) (v := ?_) (a' := ?_) #[true, false, false, false, false, false, false, false, false, false, false, false, false, false, false, false, false, false, false, false, false, false, false, false, false, false, false] rfl rfl (take_ofW HT_.out HW_.out (by kernel_rfl)) (fun _ _ _ h => h) (Or.inl ⟨by rfl, ?_⟩) hHeld ?_ ?_
      rotate_left
      · rintro w' ⟨s0, s1, s2, s3, s4, s5, s6, s7, s8, s9, s10, s11⟩
        go_simp; with_reducible rfl
      rotate_left
      · simp only [Act.put, YL, YM, YN, i64_w, i32_w]
        rfl
      refine one_ (i := 1) (N := some 6) #[true, true, false, false, false, false, false, false, false, false, false, false, false, false, false, false, false, false, false, false, false, false, false, false, false, false, false] rfl rfl (one_of HT_.out (by kernel_rfl)) (by decide) (fun K hK => ?_)
      refine goes_ Try.func31 (by kernel_rfl) rfl #[.agg #[.bool a0_0, .int .i64 a0_1, .int .i64 a0_2, .int .i64 a0_3, .int .i64 a0_4, .int .i64 a0_5]] (by rfl) rfl rfl (by (try simp only [YO, List.map_cons, List.map_nil]); first | done | rfl | (simp only [YQ, YP]; rfl)) ?_
      with_reducible refine (height_known.calls k a0_0 a0_1 a0_2 a0_3 a0_4 a0_5 true _ A3.out).mono ?_
      rintro e w16 ⟨rfl, hb⟩
      refine ⟨_, rfl, ?_⟩
      have n0_ := YK (YJ (g := gb165) (o := .cells #[.bool a0_0, .int .i64 a0_1, .int .i64 a0_2, .int .i64 a0_3, .int .i64 a0_4, .int .i64 a0_5] 23 (0, 0)) (by (with_reducible repeat (first | refine YF ?_ _ | refine YG ?_ | refine YH ?_ _)); exact BK165.out) hb)
      have n1_ := YK (YJ (g := gb166) (o := .cells #[.bool a1_0, .int .i64 a1_1, .int .i64 a1_2, .int .i64 a1_3, .int .i64 a1_4, .int .i64 a1_5] 23 (0, 0)) (by (with_reducible repeat (first | refine YF ?_ _ | refine YG ?_ | refine YH ?_ _)); exact BK166.out) hb)
      have n2_ := YK (YD (by repeat (first | (with_reducible first | exact HB.out | apply YA | apply YB | apply YC | refine below_set ?_ GE165.out | refine below_set ?_ GE166.out) | exact HB.out)) hb)
      clear BK165; clear BK166; clear HB; have BK165 := n0_; have BK166 := n1_; have HB := n2_; clear n0_ n1_ n2_; (try clear hb); (try clear hb2); (try clear hk); (try clear hi)
      refine hK.out _ _ ⟨(YI BK165.out 0).trans rfl, (YI BK165.out 1).trans rfl, (YI BK165.out 2).trans rfl, (YI BK165.out 3).trans rfl, (YI BK165.out 4).trans rfl, (YI BK165.out 5).trans rfl, (YI BK166.out 0).trans rfl, (YI BK166.out 1).trans rfl, (YI BK166.out 2).trans rfl, (YI BK166.out 3).trans rfl, (YI BK166.out 4).trans rfl, (YI BK166.out 5).trans rfl⟩ (fun hHeld => ?_)
      clear hK K
      refine norm_ (a' := ?_) ?_ ?_
      rotate_left
      · show Act.put _ (some 6) _ = _
        simp only [Act.put, YL, YM, YN, i64_w, i32_w]
        rfl
      refine pure_ (i := 2) (N := some 7) (v := ?_) (a' := ?_) #[true, true, true, false, false, false, false, false, false, false, false, false, false, false, false, false, false, false, false, false, false, false, false, false, false, false, false] rfl rfl (any_of HT_.out (by kernel_rfl)) (fun _ _ _ h => h) (Or.inl ⟨by rfl, ?_⟩) ?_ ?_
      rotate_left
      · intro w'
        go_simp; with_reducible rfl
      rotate_left
      · simp only [Act.put, YL, YM, YN, i64_w, i32_w]
        rfl
      refine take_ (i := 3) (N := some 8) (v := ?_) (a' := ?_) #[true, true, true, true, false, false, false, false, false, false, false, false, false, false, false, false, false, false, false, false, false, false, false, false, false, false, false] rfl rfl (take_ofW HT_.out HW_.out (by kernel_rfl)) (fun _ _ _ h => h) (Or.inl ⟨by rfl, ?_⟩) hHeld ?_ ?_
      rotate_left
      · rintro w' ⟨s0, s1, s2, s3, s4, s5, s6, s7, s8, s9, s10, s11⟩
        go_simp; with_reducible rfl
      rotate_left
      · simp only [Act.put, YL, YM, YN, i64_w, i32_w]
        rfl
      refine one_ (i := 4) (N := some 9) #[true, true, true, true, true, false, false, false, false, false, false, false, false, false, false, false, false, false, false, false, false, false, false, false, false, false, false] rfl rfl (one_of HT_.out (by kernel_rfl)) (by decide) (fun K hK => ?_)
      refine goes_ Try.func31 (by kernel_rfl) rfl #[.agg #[.bool a1_0, .int .i64 a1_1, .int .i64 a1_2, .int .i64 a1_3, .int .i64 a1_4, .int .i64 a1_5]] (by rfl) rfl rfl (by (try simp only [YO, List.map_cons, List.map_nil]); first | done | rfl | (simp only [YQ, YP]; rfl)) ?_
      with_reducible refine (height_known.calls k a1_0 a1_1 a1_2 a1_3 a1_4 a1_5 true _ A5.out).mono ?_
      rintro e w17 ⟨rfl, hb⟩
      refine ⟨_, rfl, ?_⟩
      have n0_ := YK (YJ (g := gb165) (o := .cells #[.bool a0_0, .int .i64 a0_1, .int .i64 a0_2, .int .i64 a0_3, .int .i64 a0_4, .int .i64 a0_5] 23 (0, 0)) (by (with_reducible repeat (first | refine YF ?_ _ | refine YG ?_ | refine YH ?_ _)); exact BK165.out) hb)
      have n1_ := YK (YJ (g := gb166) (o := .cells #[.bool a1_0, .int .i64 a1_1, .int .i64 a1_2, .int .i64 a1_3, .int .i64 a1_4, .int .i64 a1_5] 23 (0, 0)) (by (with_reducible repeat (first | refine YF ?_ _ | refine YG ?_ | refine YH ?_ _)); exact BK166.out) hb)
      have n2_ := YK (YD (by repeat (first | (with_reducible first | exact HB.out | apply YA | apply YB | apply YC | refine below_set ?_ GE165.out | refine below_set ?_ GE166.out) | exact HB.out)) hb)
      clear BK165; clear BK166; clear HB; have BK165 := n0_; have BK166 := n1_; have HB := n2_; clear n0_ n1_ n2_; (try clear hb); (try clear hb2); (try clear hk); (try clear hi)
      refine hK.out _ _ ⟨(YI BK165.out 0).trans rfl, (YI BK165.out 1).trans rfl, (YI BK165.out 2).trans rfl, (YI BK165.out 3).trans rfl, (YI BK165.out 4).trans rfl, (YI BK165.out 5).trans rfl, (YI BK166.out 0).trans rfl, (YI BK166.out 1).trans rfl, (YI BK166.out 2).trans rfl, (YI BK166.out 3).trans rfl, (YI BK166.out 4).trans rfl, (YI BK166.out 5).trans rfl⟩ (fun hHeld => ?_)
      clear hK K
      refine norm_ (a' := ?_) ?_ ?_
      rotate_left
      · show Act.put _ (some 9) _ = _
        simp only [Act.put, YL, YM, YN, i64_w, i32_w]
        rfl
      refine pure_ (i := 5) (N := some 10) (v := ?_) (a' := ?_) #[true, true, true, true, true, true, false, false, false, false, false, false, false, false, false, false, false, false, false, false, false, false, false, false, false, false, false] rfl rfl (any_of HT_.out (by kernel_rfl)) (fun _ _ _ h => h) (Or.inl ⟨by rfl, ?_⟩) ?_ ?_
      rotate_left
      · intro w'
        go_simp; with_reducible rfl
      rotate_left
      · simp only [Act.put, YL, YM, YN, i64_w, i32_w]
        rfl
      refine pure_ (i := 6) (N := some 11) (v := ?_) (a' := ?_) #[true, true, true, true, true, true, true, false, false, false, false, false, false, false, false, false, false, false, false, false, false, false, false, false, false, false, false] rfl rfl (any_of HT_.out (by kernel_rfl)) (fun _ _ _ h => h) (Or.inl ⟨by rfl, ?_⟩) ?_ ?_
      rotate_left
      · intro w'
        go_simp; with_reducible rfl
      rotate_left
      · simp only [Act.put, YL, YM, YN, i64_w, i32_w]
        rfl
      refine pure_ (i := 12) (N := some 17) (v := ?_) (a' := ?_) #[true, true, true, true, true, true, true, false, false, false, false, false, true, false, false, false, false, false, false, false, false, false, false, false, false, false, false] rfl rfl (any_of HT_.out (by kernel_rfl)) (fun _ _ _ h => h) (Or.inl ⟨by rfl, ?_⟩) ?_ ?_
      rotate_left
      · intro w'
        go_simp; with_reducible rfl
      rotate_left
      · simp only [Act.put, YL, YM, YN, i64_w, i32_w]
        rfl
      refine pure_ (i := 14) (N := some 19) (v := ?_) (a' := ?_) #[true, true, true, true, true, true, true, false, false, false, false, false, true, false, true, false, false, false, false, false, false, false, false, false, false, false, false] rfl rfl (any_of HT_.out (by kernel_rfl)) (fun _ _ _ h => h) (Or.inl ⟨by rfl, ?_⟩) ?_ ?_
      rotate_left
      · intro w'
        go_simp; with_reducible rfl
      rotate_left
      · simp only [Act.put, YL, YM, YN, i64_w, i32_w]
        rfl
      refine pure_ (i := 17) (N := some 22) (v := ?_) (a' := ?_) #[true, true, true, true, true, true, true, false, false, false, false, false, true, false, true, false, false, true, false, false, false, false, false, false, false, false, false] rfl rfl (any_of HT_.out (by kernel_rfl)) (fun _ _ _ h => h) (Or.inl ⟨by rfl, ?_⟩) ?_ ?_
      rotate_left
      · intro w'
        go_simp; with_reducible rfl
      rotate_left
      · simp only [Act.put, YL, YM, YN, i64_w, i32_w]
        rfl
      refine pure_ (i := 19) (N := some 24) (v := ?_) (a' := ?_) #[true, true, true, true, true, true, true, false, false, false, false, false, true, false, true, false, false, true, false, true, false, false, false, false, false, false, false] rfl rfl (any_of HT_.out (by kernel_rfl)) (fun _ _ _ h => h) (Or.inl ⟨by rfl, ?_⟩) ?_ ?_
      rotate_left
      · intro w'
        go_simp; with_reducible rfl
      rotate_left
      · simp only [Act.put, YL, YM, YN, i64_w, i32_w]
        rfl
      refine take_ (i := 7) (N := some 12) (v := ?_) (a' := ?_) #[true, true, true, true, true, true, true, true, false, false, false, false, true, false, true, false, false, true, false, true, false, false, false, false, false, false, false] rfl rfl (take_ofW HT_.out HW_.out (by kernel_rfl)) (fun _ _ _ h => h) (Or.inl ⟨by rfl, ?_⟩) hHeld ?_ ?_
      rotate_left
      · rintro w' ⟨s0, s1, s2, s3, s4, s5, s6, s7, s8, s9, s10, s11⟩
        go_simp; with_reducible rfl
      rotate_left
      · simp only [Act.put, YL, YM, YN, i64_w, i32_w]
        rfl
      refine take_ (i := 9) (N := some 14) (v := ?_) (a' := ?_) #[true, true, true, true, true, true, true, true, false, true, false, false, true, false, true, false, false, true, false, true, false, false, false, false, false, false, false] rfl rfl (take_ofW HT_.out HW_.out (by kernel_rfl)) (fun _ _ _ h => h) (Or.inl ⟨by rfl, ?_⟩) hHeld ?_ ?_
      rotate_left
      · rintro w' ⟨s0, s1, s2, s3, s4, s5, s6, s7, s8, s9, s10, s11⟩
        go_simp; with_reducible rfl
      rotate_left
      · simp only [Act.put, YL, YM, YN, i64_w, i32_w]
        rfl
      refine take_ (i := 13) (N := some 18) (v := ?_) (a' := ?_) #[true, true, true, true, true, true, true, true, false, true, false, false, true, true, true, false, false, true, false, true, false, false, false, false, false, false, false] rfl rfl (take_ofW HT_.out HW_.out (by kernel_rfl)) (fun _ _ _ h => h) (Or.inl ⟨by rfl, ?_⟩) hHeld ?_ ?_
      rotate_left
      · rintro w' ⟨s0, s1, s2, s3, s4, s5, s6, s7, s8, s9, s10, s11⟩
        go_simp; with_reducible rfl
      rotate_left
      · simp only [Act.put, YL, YM, YN, i64_w, i32_w]
        rfl
      refine take_ (i := 15) (N := some 20) (v := ?_) (a' := ?_) #[true, true, true, true, true, true, true, true, false, true, false, false, true, true, true, true, false, true, false, true, false, false, false, false, false, false, false] rfl rfl (take_ofW HT_.out HW_.out (by kernel_rfl)) (fun _ _ _ h => h) (Or.inl ⟨by rfl, ?_⟩) hHeld ?_ ?_
      rotate_left
      · rintro w' ⟨s0, s1, s2, s3, s4, s5, s6, s7, s8, s9, s10, s11⟩
        go_simp; with_reducible rfl
      rotate_left
      · simp only [Act.put, YL, YM, YN, i64_w, i32_w]
        rfl
      refine take_ (i := 18) (N := some 23) (v := ?_) (a' := ?_) #[true, true, true, true, true, true, true, true, false, true, false, false, true, true, true, true, false, true, true, true, false, false, false, false, false, false, false] rfl rfl (take_ofW HT_.out HW_.out (by kernel_rfl)) (fun _ _ _ h => h) (Or.inl ⟨by rfl, ?_⟩) hHeld ?_ ?_
      rotate_left
      · rintro w' ⟨s0, s1, s2, s3, s4, s5, s6, s7, s8, s9, s10, s11⟩
        go_simp; with_reducible rfl
      rotate_left
      · simp only [Act.put, YL, YM, YN, i64_w, i32_w]
        rfl
      refine take_ (i := 20) (N := some 25) (v := ?_) (a' := ?_) #[true, true, true, true, true, true, true, true, false, true, false, false, true, true, true, true, false, true, true, true, true, false, false, false, false, false, false] rfl rfl (take_ofW HT_.out HW_.out (by kernel_rfl)) (fun _ _ _ h => h) (Or.inl ⟨by rfl, ?_⟩) hHeld ?_ ?_
      rotate_left
      · rintro w' ⟨s0, s1, s2, s3, s4, s5, s6, s7, s8, s9, s10, s11⟩
        go_simp; with_reducible rfl
      rotate_left
      · simp only [Act.put, YL, YM, YN, i64_w, i32_w]
        rfl
      refine one_ (i := 8) (N := some 13) #[true, true, true, true, true, true, true, true, true, true, false, false, true, true, true, true, false, true, true, true, true, false, false, false, false, false, false] rfl rfl (one_of HT_.out (by kernel_rfl)) (by decide) (fun K hK => ?_)
      refine goes_ Try.func16 (by kernel_rfl) rfl #[.agg #[.bool a0_0, .int .i64 a0_1, .int .i64 a0_2, .int .i64 a0_3, .int .i64 a0_4, .int .i64 a0_5]] (by rfl) rfl rfl (by (try simp only [YO, List.map_cons, List.map_nil]); first | done | rfl | (simp only [YQ, YP]; rfl)) ?_
      with_reducible refine (height_Level.calls k a0_0 a0_1 a0_2 a0_3 a0_4 a0_5 t169 t170 t171 _ A7.out).mono ?_
      rintro e w18 ⟨rfl, hb⟩
      refine ⟨_, rfl, ?_⟩
      have n0_ := YK (YJ (g := gb165) (o := .cells #[.bool a0_0, .int .i64 a0_1, .int .i64 a0_2, .int .i64 a0_3, .int .i64 a0_4, .int .i64 a0_5] 23 (0, 0)) (by (with_reducible repeat (first | refine YF ?_ _ | refine YG ?_ | refine YH ?_ _)); exact BK165.out) hb)
      have n1_ := YK (YJ (g := gb166) (o := .cells #[.bool a1_0, .int .i64 a1_1, .int .i64 a1_2, .int .i64 a1_3, .int .i64 a1_4, .int .i64 a1_5] 23 (0, 0)) (by (with_reducible repeat (first | refine YF ?_ _ | refine YG ?_ | refine YH ?_ _)); exact BK166.out) hb)
      have n2_ := YK (YD (by repeat (first | (with_reducible first | exact HB.out | apply YA | apply YB | apply YC | refine below_set ?_ GE165.out | refine below_set ?_ GE166.out) | exact HB.out)) hb)
      clear BK165; clear BK166; clear HB; have BK165 := n0_; have BK166 := n1_; have HB := n2_; clear n0_ n1_ n2_; (try clear hb); (try clear hb2); (try clear hk); (try clear hi)
      refine hK.out _ _ ⟨(YI BK165.out 0).trans rfl, (YI BK165.out 1).trans rfl, (YI BK165.out 2).trans rfl, (YI BK165.out 3).trans rfl, (YI BK165.out 4).trans rfl, (YI BK165.out 5).trans rfl, (YI BK166.out 0).trans rfl, (YI BK166.out 1).trans rfl, (YI BK166.out 2).trans rfl, (YI BK166.out 3).trans rfl, (YI BK166.out 4).trans rfl, (YI BK166.out 5).trans rfl⟩ (fun hHeld => ?_)
      clear hK K
      refine norm_ (a' := ?_) ?_ ?_
      rotate_left
      · show Act.put _ (some 13) _ = _
        simp only [Act.put, YL, YM, YN, i64_w, i32_w]
        rfl
      refine one_ (i := 10) (N := some 15) #[true, true, true, true, true, true, true, true, true, true, true, false, true, true, true, true, false, true, true, true, true, false, false, false, false, false, false] rfl rfl (one_of HT_.out (by kernel_rfl)) (by decide) (fun K hK => ?_)
      refine goes_ Try.func16 (by kernel_rfl) rfl #[.agg #[.bool a1_0, .int .i64 a1_1, .int .i64 a1_2, .int .i64 a1_3, .int .i64 a1_4, .int .i64 a1_5]] (by rfl) rfl rfl (by (try simp only [YO, List.map_cons, List.map_nil]); first | done | rfl | (simp only [YQ, YP]; rfl)) ?_
      with_reducible refine (height_Level.calls k a1_0 a1_1 a1_2 a1_3 a1_4 a1_5 t172 t173 t174 _ A8.out).mono ?_
      rintro e w19 ⟨rfl, hb⟩
      refine ⟨_, rfl, ?_⟩
      have n0_ := YK (YJ (g := gb165) (o := .cells #[.bool a0_0, .int .i64 a0_1, .int .i64 a0_2, .int .i64 a0_3, .int .i64 a0_4, .int .i64 a0_5] 23 (0, 0)) (by (with_reducible repeat (first | refine YF ?_ _ | refine YG ?_ | refine YH ?_ _)); exact BK165.out) hb)
      have n1_ := YK (YJ (g := gb166) (o := .cells #[.bool a1_0, .int .i64 a1_1, .int .i64 a1_2, .int .i64 a1_3, .int .i64 a1_4, .int .i64 a1_5] 23 (0, 0)) (by (with_reducible repeat (first | refine YF ?_ _ | refine YG ?_ | refine YH ?_ _)); exact BK166.out) hb)
      have n2_ := YK (YD (by repeat (first | (with_reducible first | exact HB.out | apply YA | apply YB | apply YC | refine below_set ?_ GE165.out | refine below_set ?_ GE166.out) | exact HB.out)) hb)
      clear BK165; clear BK166; clear HB; have BK165 := n0_; have BK166 := n1_; have HB := n2_; clear n0_ n1_ n2_; (try clear hb); (try clear hb2); (try clear hk); (try clear hi)
      refine hK.out _ _ ⟨(YI BK165.out 0).trans rfl, (YI BK165.out 1).trans rfl, (YI BK165.out 2).trans rfl, (YI BK165.out 3).trans rfl, (YI BK165.out 4).trans rfl, (YI BK165.out 5).trans rfl, (YI BK166.out 0).trans rfl, (YI BK166.out 1).trans rfl, (YI BK166.out 2).trans rfl, (YI BK166.out 3).trans rfl, (YI BK166.out 4).trans rfl, (YI BK166.out 5).trans rfl⟩ (fun hHeld => ?_)
      clear hK K
      refine norm_ (a' := ?_) ?_ ?_
      rotate_left
      · show Act.put _ (some 15) _ = _
        simp only [Act.put, YL, YM, YN, i64_w, i32_w]
        rfl
      refine one_ (i := 11) (N := some 16) #[true, true, true, true, true, true, true, true, true, true, true, true, true, true, true, true, false, true, true, true, true, false, false, false, false, false, false] rfl rfl (one_of HT_.out (by kernel_rfl)) (by decide) (fun K hK => ?_)
      refine goes_ Try.func18 (by kernel_rfl) rfl #[.agg #[.int .i64 t169, .int .i64 t170, .int .i64 t171], .agg #[.int .i64 t172, .int .i64 t173, .int .i64 t174]] (by rfl) rfl rfl (by (try simp only [YO, List.map_cons, List.map_nil]); first | done | rfl | (simp only [YQ, YP]; rfl)) ?_
      with_reducible refine (height_Order.calls k t169 t170 t171 t172 t173 t174 t175 _ A9.out).mono ?_
      rintro e w20 ⟨rfl, hb⟩
      refine ⟨_, rfl, ?_⟩
      have n0_ := YK (YJ (g := gb165) (o := .cells #[.bool a0_0, .int .i64 a0_1, .int .i64 a0_2, .int .i64 a0_3, .int .i64 a0_4, .int .i64 a0_5] 23 (0, 0)) (by (with_reducible repeat (first | refine YF ?_ _ | refine YG ?_ | refine YH ?_ _)); exact BK165.out) hb)
      have n1_ := YK (YJ (g := gb166) (o := .cells #[.bool a1_0, .int .i64 a1_1, .int .i64 a1_2, .int .i64 a1_3, .int .i64 a1_4, .int .i64 a1_5] 23 (0, 0)) (by (with_reducible repeat (first | refine YF ?_ _ | refine YG ?_ | refine YH ?_ _)); exact BK166.out) hb)
      have n2_ := YK (YD (by repeat (first | (with_reducible first | exact HB.out | apply YA | apply YB | apply YC | refine below_set ?_ GE165.out | refine below_set ?_ GE166.out) | exact HB.out)) hb)
      clear BK165; clear BK166; clear HB; have BK165 := n0_; have BK166 := n1_; have HB := n2_; clear n0_ n1_ n2_; (try clear hb); (try clear hb2); (try clear hk); (try clear hi)
      refine hK.out _ _ ⟨(YI BK165.out 0).trans rfl, (YI BK165.out 1).trans rfl, (YI BK165.out 2).trans rfl, (YI BK165.out 3).trans rfl, (YI BK165.out 4).trans rfl, (YI BK165.out 5).trans rfl, (YI BK166.out 0).trans rfl, (YI BK166.out 1).trans rfl, (YI BK166.out 2).trans rfl, (YI BK166.out 3).trans rfl, (YI BK166.out 4).trans rfl, (YI BK166.out 5).trans rfl⟩ (fun hHeld => ?_)
      clear hK K
      refine norm_ (a' := ?_) ?_ ?_
      rotate_left
      · show Act.put _ (some 16) _ = _
        simp only [Act.put, YL, YM, YN, i64_w, i32_w]
        rfl
      refine one_ (i := 16) (N := some 21) #[true, true, true, true, true, true, true, true, true, true, true, true, true, true, true, true, true, true, true, true, true, false, false, false, false, false, false] rfl rfl (one_of HT_.out (by kernel_rfl)) (by decide) (fun K hK => ?_)
      refine goes_ Try.func33 (by kernel_rfl) rfl #[.int .i64 a0_4, .int .i64 a1_4] (by rfl) rfl rfl (by (try simp only [YO, List.map_cons, List.map_nil]); first | done | rfl | (simp only [YQ, YP]; rfl)) ?_
      with_reducible refine (cmp_Compare_int.calls a0_4 a1_4 t176 _ A10.out).mono ?_
      rintro e w' ⟨rfl, ⟨nd, rfl⟩⟩
      refine ⟨_, rfl, ?_⟩
      refine hK.out _ _ ⟨(YI BK165.out 0).trans rfl, (YI BK165.out 1).trans rfl, (YI BK165.out 2).trans rfl, (YI BK165.out 3).trans rfl, (YI BK165.out 4).trans rfl, (YI BK165.out 5).trans rfl, (YI BK166.out 0).trans rfl, (YI BK166.out 1).trans rfl, (YI BK166.out 2).trans rfl, (YI BK166.out 3).trans rfl, (YI BK166.out 4).trans rfl, (YI BK166.out 5).trans rfl⟩ (fun hHeld => ?_)
      clear hK K
      refine norm_ (a' := ?_) ?_ ?_
      rotate_left
      · show Act.put _ (some 21) _ = _
        simp only [Act.put, YL, YM, YN, i64_w, i32_w]
        rfl
      refine one_ (i := 21) (N := some 26) #[true, true, true, true, true, true, true, true, true, true, true, true, true, true, true, true, true, true, true, true, true, true, false, false, false, false, false] rfl rfl (one_of HT_.out (by kernel_rfl)) (by decide) (fun K hK => ?_)
      refine goes_ Try.func33 (by kernel_rfl) rfl #[.int .i64 a0_5, .int .i64 a1_5] (by rfl) rfl rfl (by (try simp only [YO, List.map_cons, List.map_nil]); first | done | rfl | (simp only [YQ, YP]; rfl)) ?_
      with_reducible refine (cmp_Compare_int.calls a0_5 a1_5 t177 _ A11.out).mono ?_
      rintro e w' ⟨rfl, ⟨nd, rfl⟩⟩
      refine ⟨_, rfl, ?_⟩
      refine hK.out _ _ ⟨(YI BK165.out 0).trans rfl, (YI BK165.out 1).trans rfl, (YI BK165.out 2).trans rfl, (YI BK165.out 3).trans rfl, (YI BK165.out 4).trans rfl, (YI BK165.out 5).trans rfl, (YI BK166.out 0).trans rfl, (YI BK166.out 1).trans rfl, (YI BK166.out 2).trans rfl, (YI BK166.out 3).trans rfl, (YI BK166.out 4).trans rfl, (YI BK166.out 5).trans rfl⟩ (fun hHeld => ?_)
      clear hK K
      refine norm_ (a' := ?_) ?_ ?_
      rotate_left
      · show Act.put _ (some 26) _ = _
        simp only [Act.put, YL, YM, YN, i64_w, i32_w]
        rfl
      refine one_ (i := 22) (N := some 27) #[true, true, true, true, true, true, true, true, true, true, true, true, true, true, true, true, true, true, true, true, true, true, true, false, false, false, false] rfl rfl (one_of HT_.out (by kernel_rfl)) (by decide) (fun K hK => ?_)
      refine Kd.R_lit_step (Kd.int .i64) _ 3 ?hg (N := 27) ?hd (xs := ([t175, t176, t177] : List Int)) (inner := [.int .i64 t175, .int .i64 t176, .int .i64 t177]) (ok := fun _ => True) (okp := fun _ => True) ?hr ?hp (fun _ hk => hk) trivial (Below.refl _ _) (Nat.le_refl _) (by simp) ?_; (case hd => rfl); (case hg => rfl); (case hr => first | (go_simp; done) | (go_simp; rfl)); (case hp => exact (Reps.one (show Kd.M (Kd.int .i64) _ _ _ t175 [.int .i64 t175] from rfl) (Reps.one (show Kd.M (Kd.int .i64) _ _ _ t176 [.int .i64 t176] from rfl) (Reps.one (show Kd.M (Kd.int .i64) _ _ _ t177 [.int .i64 t177] from rfl) (Reps.none _ _)))))
      intro v179 w21 ho22 hb hg_ hnew_
      clear hg_ hnew_
      (first | rw [← Ny178.out] at ho22 | (simp only [Int.reduceToNat] at ho22; rw [← Ny178.out] at ho22))
      have n0_ := YK (Kd.R_lower ho22 (YE (by repeat (first | (with_reducible first | exact HB.out | apply YA | apply YB | apply YC | refine below_set ?_ GE165.out | refine below_set ?_ GE166.out) | exact HB.out))))
      have n1_ := YK (YJ (g := gb165) (o := .cells #[.bool a0_0, .int .i64 a0_1, .int .i64 a0_2, .int .i64 a0_3, .int .i64 a0_4, .int .i64 a0_5] 23 (0, 0)) (by (with_reducible repeat (first | refine YF ?_ _ | refine YG ?_ | refine YH ?_ _)); exact BK165.out) hb)
      have n2_ := YK (YJ (g := gb166) (o := .cells #[.bool a1_0, .int .i64 a1_1, .int .i64 a1_2, .int .i64 a1_3, .int .i64 a1_4, .int .i64 a1_5] 23 (0, 0)) (by (with_reducible repeat (first | refine YF ?_ _ | refine YG ?_ | refine YH ?_ _)); exact BK166.out) hb)
      have n3_ := YK (YD (by repeat (first | (with_reducible first | exact HB.out | apply YA | apply YB | apply YC | refine below_set ?_ GE165.out | refine below_set ?_ GE166.out) | exact HB.out)) hb)
      clear BK165; clear BK166; clear HB; have HO180 := n0_; have BK165 := n1_; have BK166 := n2_; have HB := n3_; clear n0_ n1_ n2_ n3_; clear hb ho22
      obtain ⟨Ao23, co23, eo23⟩ := Kd.R_slice HO180.out
      (first | subst eo23 | (injection eo23 with f1_ f2_ f3_; have f4_ := f1_.symm; have f5_ := f3_.symm; clear f1_ f2_ f3_; subst f4_; subst f5_))
      refine hK.out _ _ ⟨(YI BK165.out 0).trans rfl, (YI BK165.out 1).trans rfl, (YI BK165.out 2).trans rfl, (YI BK165.out 3).trans rfl, (YI BK165.out 4).trans rfl, (YI BK165.out 5).trans rfl, (YI BK166.out 0).trans rfl, (YI BK166.out 1).trans rfl, (YI BK166.out 2).trans rfl, (YI BK166.out 3).trans rfl, (YI BK166.out 4).trans rfl, (YI BK166.out 5).trans rfl⟩ (fun hHeld => ?_)
      clear hK K
      refine norm_ (a' := ?_) ?_ ?_
      rotate_left
      · show Act.put _ (some 27) _ = _
        simp only [Act.put, YL, YM, YN, i64_w, i32_w]
        rfl
      refine one_ (i := 23) (N := some 28) #[true, true, true, true, true, true, true, true, true, true, true, true, true, true, true, true, true, true, true, true, true, true, true, true, false, false, false] rfl rfl (one_of HT_.out (by kernel_rfl)) (by decide) (fun K hK => ?_)
      refine goes_ Try.func32 (by kernel_rfl) rfl #[.slice Ao23 y178.length co23] (by rfl) rfl rfl (by (try simp only [YO, List.map_cons, List.map_nil]); first | done | rfl | (simp only [YQ, YP]; rfl)) ?_
      with_reducible refine (cmp_Or_int.calls k _ _ y178 t181 _ ?side1 ?side2 A12.out).mono ?_
      (case side1 => repeat (first | exact (Kd.R_reads' HO180.out).2.2 | (with_reducible refine Kd.C_alloc ?_ _) | (with_reducible refine Kd.C_drewN ?_ _) | (with_reducible refine Kd.C_drew ?_)))
      (case side2 => exact (Kd.R_reads' HO180.out).2.1)
      rintro e w' ⟨rfl, ⟨nd, rfl⟩⟩
      refine ⟨_, rfl, ?_⟩
      refine hK.out _ _ ⟨(YI BK165.out 0).trans rfl, (YI BK165.out 1).trans rfl, (YI BK165.out 2).trans rfl, (YI BK165.out 3).trans rfl, (YI BK165.out 4).trans rfl, (YI BK165.out 5).trans rfl, (YI BK166.out 0).trans rfl, (YI BK166.out 1).trans rfl, (YI BK166.out 2).trans rfl, (YI BK166.out 3).trans rfl, (YI BK166.out 4).trans rfl, (YI BK166.out 5).trans rfl⟩ (fun hHeld => ?_)
      clear hK K
      refine norm_ (a' := ?_) ?_ ?_
      rotate_left
      · show Act.put _ (some 28) _ = _
        simp only [Act.put, YL, YM, YN, i64_w, i32_w]
        rfl
      refine pure_ (i := 24) (N := some 29) (v := ?_) (a' := ?_) #[true, true, true, true, true, true, true, true, true, true, true, true, true, true, true, true, true, true, true, true, true, true, true, true, true, false, false] rfl rfl (any_of HT_.out (by kernel_rfl)) (fun _ _ _ h => h) (Or.inl ⟨by rfl, ?_⟩) ?_ ?_
      rotate_left
      · intro w'
        go_simp; with_reducible rfl
      rotate_left
      · simp only [Act.put, YL, YM, YN, i64_w, i32_w]
        rfl
      refine pure_ (i := 25) (N := some 30) (v := ?_) (a' := ?_) #[true, true, true, true, true, true, true, true, true, true, true, true, true, true, true, true, true, true, true, true, true, true, true, true, true, true, false] rfl rfl (any_of HT_.out (by kernel_rfl)) (fun _ _ _ h => h) (Or.inl ⟨by rfl, ?_⟩) ?_ ?_
      rotate_left
      · intro w'
        go_simp; with_reducible rfl
      rotate_left
      · simp only [Act.put, YL, YM, YN, i64_w, i32_w]
        rfl
      refine pure_ (i := 26) (N := some 4) (v := ?_) (a' := ?_) #[true, true, true, true, true, true, true, true, true, true, true, true, true, true, true, true, true, true, true, true, true, true, true, true, true, true, true] rfl rfl (any_of HT_.out (by kernel_rfl)) (fun _ _ _ h => h) (Or.inl ⟨by rfl, ?_⟩) ?_ ?_
      rotate_left
      · intro w'
        go_simp; with_reducible rfl
      rotate_left
      · simp only [Act.put, YL, YM, YN, i64_w, i32_w]
        rfl
      refine done_ (done_of HT_.out (by kernel_rfl)) ?_
      try go_wp2
      go_ret
      exact ⟨by first | rfl | (simp [errW_none, errW_some] <;> rfl) | (simp [*, errW_none, errW_some] <;> rfl), by repeat (first | (with_reducible first | exact HB.out | apply YA | apply YB | apply YC | refine below_set ?_ GE165.out | refine below_set ?_ GE166.out) | exact HB.out)⟩
    replace c6 := Bool.eq_false_iff.mpr c6
    subst c6
    have H1 : (some false) = some r := by rw [if_neg (show ¬ (false = true) by decide)] at H; exact H
    clear H
    have H := H1
    clear H1
    obtain rfl := Option.some.inj H
    go_enter Try.func14, Try.ntmps14
    try go_wp2_with (first | ((with_reducible refine gate_dst (N := 2) rfl ?_); (try (refine gate_guard (by rfl) ?_; dsimp only)); refine box_event ?hg (N := 2) ?hd (cs := #[.bool a0_0, .int .i64 a0_1, .int .i64 a0_2, .int .i64 a0_3, .int .i64 a0_4, .int .i64 a0_5]) (t := 23) ?hr ?_; (case hd => rfl); (case hg => rfl); (case hr => first | (go_simp; done) | (go_simp; rfl)); intro gb165 hg w24 hbox hb; have n0_ := YK (YD (by repeat (first | (with_reducible first | exact HB.out | apply YA | apply YB | apply YC) | exact HB.out)) hb); have n1_ := YK (hbox); have n2_ := YK ((by rw [hg]; exact (YE (by repeat (first | (with_reducible first | exact HB.out | apply YA | apply YB | apply YC) | exact HB.out))) : w.heap.size ≤ gb165)); have n3_ := YK ((by rw [hg]; exact (YE (by repeat (first | (with_reducible first | exact HB.out | apply YA | apply YB | apply YC) | exact HB.out))) : w.heap.size ≤ gb165)); clear HB; have HB := n0_; have BK165 := n1_; have GW165 := n2_; have GE165 := n3_; clear n0_ n1_ n2_ n3_; clear hb hbox hg) | ((with_reducible refine gate_dst (N := 3) rfl ?_); (try (refine gate_guard (by rfl) ?_; dsimp only)); refine box_event ?hg (N := 3) ?hd (cs := #[.bool a1_0, .int .i64 a1_1, .int .i64 a1_2, .int .i64 a1_3, .int .i64 a1_4, .int .i64 a1_5]) (t := 23) ?hr ?_; (case hd => rfl); (case hg => rfl); (case hr => first | (go_simp; done) | (go_simp; rfl)); intro gb166 hg w25 hbox hb; have n0_ := YK (YJ (g := gb165) (o := .cells #[.bool a0_0, .int .i64 a0_1, .int .i64 a0_2, .int .i64 a0_3, .int .i64 a0_4, .int .i64 a0_5] 23 (0, 0)) (by (with_reducible repeat (first | refine YF ?_ _ | refine YG ?_ | refine YH ?_ _)); exact BK165.out) hb); have n1_ := YK (YD (by repeat (first | (with_reducible first | exact HB.out | apply YA | apply YB | apply YC | refine below_set ?_ GE165.out) | exact HB.out)) hb); have n2_ := YK (hbox); have n3_ := YK ((by rw [hg]; exact (YE (by repeat (first | (with_reducible first | exact HB.out | apply YA | apply YB | apply YC | refine below_set ?_ GE165.out) | exact HB.out))) : w.heap.size ≤ gb166)); have n4_ := YK ((by rw [hg]; exact (YE (by repeat (first | (with_reducible first | exact HB.out | apply YA | apply YB | apply YC | refine below_set ?_ GE165.out) | exact HB.out))) : w.heap.size ≤ gb166)); have n5_ := YK ((by rw [hg]; exact Nat.ne_of_lt (blk_lt (g := gb165) (o := .cells #[.bool a0_0, .int .i64 a0_1, .int .i64 a0_2, .int .i64 a0_3, .int .i64 a0_4, .int .i64 a0_5] 23 (0, 0)) (by (with_reducible repeat (first | refine YF ?_ _ | refine YG ?_ | refine YH ?_ _)); exact BK165.out)) : gb165 ≠ gb166)); have n6_ := YK ((by rw [hg]; exact Nat.ne_of_gt (blk_lt (g := gb165) (o := .cells #[.bool a0_0, .int .i64 a0_1, .int .i64 a0_2, .int .i64 a0_3, .int .i64 a0_4, .int .i64 a0_5] 23 (0, 0)) (by (with_reducible repeat (first | refine YF ?_ _ | refine YG ?_ | refine YH ?_ _)); exact BK165.out)) : gb166 ≠ gb165)); clear BK165; clear HB; have BK165 := n0_; have HB := n1_; have BK166 := n2_; have GW166 := n3_; have GE166 := n4_; have NB165_166 := n5_; have NB166_165 := n6_; clear n0_ n1_ n2_ n3_ n4_ n5_ n6_; clear hb hbox hg))
    have n0_ := YK (YG BK165.out)
    have n1_ := YK (YG BK166.out)
    have n2_ := YK (YC HB.out)
    clear BK165; clear BK166; clear HB; have BK165 := n0_; have BK166 := n1_; have HB := n2_; clear n0_ n1_ n2_
    refine start_ (n := 27) (S := fun w' => w'.cell? ⟨gb165, 0, none⟩ = some (.bool a0_0) ∧ w'.cell? ⟨gb165, 1, none⟩ = some (.int .i64 a0_1) ∧ w'.cell? ⟨gb165, 2, none⟩ = some (.int .i64 a0_2) ∧ w'.cell? ⟨gb165, 3, none⟩ = some (.int .i64 a0_3) ∧ w'.cell? ⟨gb165, 4, none⟩ = some (.int .i64 a0_4) ∧ w'.cell? ⟨gb165, 5, none⟩ = some (.int .i64 a0_5) ∧ w'.cell? ⟨gb166, 0, none⟩ = some (.bool a1_0) ∧ w'.cell? ⟨gb166, 1, none⟩ = some (.int .i64 a1_1) ∧ w'.cell? ⟨gb166, 2, none⟩ = some (.int .i64 a1_2) ∧ w'.cell? ⟨gb166, 3, none⟩ = some (.int .i64 a1_3) ∧ w'.cell? ⟨gb166, 4, none⟩ = some (.int .i64 a1_4) ∧ w'.cell? ⟨gb166, 5, none⟩ = some (.int .i64 a1_5)) (ds := []) #[false, false, false, false, false, false, false, false, false, false, false, false, false, false, false, false, false, false, false, false, false, false, false, false, false, false, false] (by kernel_rfl) rfl rfl ⟨(YI BK165.out 0).trans rfl, (YI BK165.out 1).trans rfl, (YI BK165.out 2).trans rfl, (YI BK165.out 3).trans rfl, (YI BK165.out 4).trans rfl, (YI BK165.out 5).trans rfl, (YI BK166.out 0).trans rfl, (YI BK166.out 1).trans rfl, (YI BK166.out 2).trans rfl, (YI BK166.out 3).trans rfl, (YI BK166.out 4).trans rfl, (YI BK166.out 5).trans rfl⟩ (fun hHeld => ?_); refine with_tabW height_Less.tab1 height_Less.bits1 (fun HT_ HW_ => ?_)
    generalize w25.drew = w26 at BK165 BK166 HB hHeld ⊢
    refine take_ (i := 0) (N := some 5) (v := ?_) (a' := ?_) #[true, false, false, false, false, false, false, false, false, false, false, false, false, false, false, false, false, false, false, false, false, false, false, false, false, false, false] rfl rfl (take_ofW HT_.out HW_.out (by kernel_rfl)) (fun _ _ _ h => h) (Or.inl ⟨by rfl, ?_⟩) hHeld ?_ ?_
    rotate_left
    · rintro w' ⟨s0, s1, s2, s3, s4, s5, s6, s7, s8, s9, s10, s11⟩
      go_simp; with_reducible rfl
    rotate_left
    · simp only [Act.put, YL, YM, YN, i64_w, i32_w]
      rfl
    refine one_ (i := 1) (N := some 6) #[true, true, false, false, false, false, false, false, false, false, false, false, false, false, false, false, false, false, false, false, false, false, false, false, false, false, false] rfl rfl (one_of HT_.out (by kernel_rfl)) (by decide) (fun K hK => ?_)
    refine goes_ Try.func31 (by kernel_rfl) rfl #[.agg #[.bool a0_0, .int .i64 a0_1, .int .i64 a0_2, .int .i64 a0_3, .int .i64 a0_4, .int .i64 a0_5]] (by rfl) rfl rfl (by (try simp only [YO, List.map_cons, List.map_nil]); first | done | rfl | (simp only [YQ, YP]; rfl)) ?_
    with_reducible refine (height_known.calls k a0_0 a0_1 a0_2 a0_3 a0_4 a0_5 true _ A3.out).mono ?_
    rintro e w27 ⟨rfl, hb⟩
    refine ⟨_, rfl, ?_⟩
    have n0_ := YK (YJ (g := gb165) (o := .cells #[.bool a0_0, .int .i64 a0_1, .int .i64 a0_2, .int .i64 a0_3, .int .i64 a0_4, .int .i64 a0_5] 23 (0, 0)) (by (with_reducible repeat (first | refine YF ?_ _ | refine YG ?_ | refine YH ?_ _)); exact BK165.out) hb)
    have n1_ := YK (YJ (g := gb166) (o := .cells #[.bool a1_0, .int .i64 a1_1, .int .i64 a1_2, .int .i64 a1_3, .int .i64 a1_4, .int .i64 a1_5] 23 (0, 0)) (by (with_reducible repeat (first | refine YF ?_ _ | refine YG ?_ | refine YH ?_ _)); exact BK166.out) hb)
    have n2_ := YK (YD (by repeat (first | (with_reducible first | exact HB.out | apply YA | apply YB | apply YC | refine below_set ?_ GE165.out | refine below_set ?_ GE166.out) | exact HB.out)) hb)
    clear BK165; clear BK166; clear HB; have BK165 := n0_; have BK166 := n1_; have HB := n2_; clear n0_ n1_ n2_; (try clear hb); (try clear hb2); (try clear hk); (try clear hi)
    refine hK.out _ _ ⟨(YI BK165.out 0).trans rfl, (YI BK165.out 1).trans rfl, (YI BK165.out 2).trans rfl, (YI BK165.out 3).trans rfl, (YI BK165.out 4).trans rfl, (YI BK165.out 5).trans rfl, (YI BK166.out 0).trans rfl, (YI BK166.out 1).trans rfl, (YI BK166.out 2).trans rfl, (YI BK166.out 3).trans rfl, (YI BK166.out 4).trans rfl, (YI BK166.out 5).trans rfl⟩ (fun hHeld => ?_)
    clear hK K
    refine norm_ (a' := ?_) ?_ ?_
    rotate_left
    · show Act.put _ (some 6) _ = _
      simp only [Act.put, YL, YM, YN, i64_w, i32_w]
      rfl
    refine pure_ (i := 2) (N := some 7) (v := ?_) (a' := ?_) #[true, true, true, false, false, false, false, false, false, false, false, false, false, false, false, false, false, false, false, false, false, false, false, false, false, false, false] rfl rfl (any_of HT_.out (by kernel_rfl)) (fun _ _ _ h => h) (Or.inl ⟨by rfl, ?_⟩) ?_ ?_
    rotate_left
    · intro w'
      go_simp; with_reducible rfl
    rotate_left
    · simp only [Act.put, YL, YM, YN, i64_w, i32_w]
      rfl
    refine take_ (i := 3) (N := some 8) (v := ?_) (a' := ?_) #[true, true, true, true, false, false, false, false, false, false, false, false, false, false, false, false, false, false, false, false, false, false, false, false, false, false, false] rfl rfl (take_ofW HT_.out HW_.out (by kernel_rfl)) (fun _ _ _ h => h) (Or.inl ⟨by rfl, ?_⟩) hHeld ?_ ?_
    rotate_left
    · rintro w' ⟨s0, s1, s2, s3, s4, s5, s6, s7, s8, s9, s10, s11⟩
      go_simp; with_reducible rfl
    rotate_left
    · simp only [Act.put, YL, YM, YN, i64_w, i32_w]
      rfl
    refine one_ (i := 4) (N := some 9) #[true, true, true, true, true, false, false, false, false, false, false, false, false, false, false, false, false, false, false, false, false, false, false, false, false, false, false] rfl rfl (one_of HT_.out (by kernel_rfl)) (by decide) (fun K hK => ?_)
    refine goes_ Try.func31 (by kernel_rfl) rfl #[.agg #[.bool a1_0, .int .i64 a1_1, .int .i64 a1_2, .int .i64 a1_3, .int .i64 a1_4, .int .i64 a1_5]] (by rfl) rfl rfl (by (try simp only [YO, List.map_cons, List.map_nil]); first | done | rfl | (simp only [YQ, YP]; rfl)) ?_
    with_reducible refine (height_known.calls k a1_0 a1_1 a1_2 a1_3 a1_4 a1_5 false _ A5.out).mono ?_
    rintro e w28 ⟨rfl, hb⟩
    refine ⟨_, rfl, ?_⟩
    have n0_ := YK (YJ (g := gb165) (o := .cells #[.bool a0_0, .int .i64 a0_1, .int .i64 a0_2, .int .i64 a0_3, .int .i64 a0_4, .int .i64 a0_5] 23 (0, 0)) (by (with_reducible repeat (first | refine YF ?_ _ | refine YG ?_ | refine YH ?_ _)); exact BK165.out) hb)
    have n1_ := YK (YJ (g := gb166) (o := .cells #[.bool a1_0, .int .i64 a1_1, .int .i64 a1_2, .int .i64 a1_3, .int .i64 a1_4, .int .i64 a1_5] 23 (0, 0)) (by (with_reducible repeat (first | refine YF ?_ _ | refine YG ?_ | refine YH ?_ _)); exact BK166.out) hb)
    have n2_ := YK (YD (by repeat (first | (with_reducible first | exact HB.out | apply YA | apply YB | apply YC | refine below_set ?_ GE165.out | refine below_set ?_ GE166.out) | exact HB.out)) hb)
    clear BK165; clear BK166; clear HB; have BK165 := n0_; have BK166 := n1_; have HB := n2_; clear n0_ n1_ n2_; (try clear hb); (try clear hb2); (try clear hk); (try clear hi)
    refine hK.out _ _ ⟨(YI BK165.out 0).trans rfl, (YI BK165.out 1).trans rfl, (YI BK165.out 2).trans rfl, (YI BK165.out 3).trans rfl, (YI BK165.out 4).trans rfl, (YI BK165.out 5).trans rfl, (YI BK166.out 0).trans rfl, (YI BK166.out 1).trans rfl, (YI BK166.out 2).trans rfl, (YI BK166.out 3).trans rfl, (YI BK166.out 4).trans rfl, (YI BK166.out 5).trans rfl⟩ (fun hHeld => ?_)
    clear hK K
    refine norm_ (a' := ?_) ?_ ?_
    rotate_left
    · show Act.put _ (some 9) _ = _
      simp only [Act.put, YL, YM, YN, i64_w, i32_w]
      rfl
    refine pure_ (i := 5) (N := some 10) (v := ?_) (a' := ?_) #[true, true, true, true, true, true, false, false, false, false, false, false, false, false, false, false, false, false, false, false, false, false, false, false, false, false, false] rfl rfl (any_of HT_.out (by kernel_rfl)) (fun _ _ _ h => h) (Or.inl ⟨by rfl, ?_⟩) ?_ ?_
    rotate_left
    · intro w'
      go_simp; with_reducible rfl
    rotate_left
    · simp only [Act.put, YL, YM, YN, i64_w, i32_w]
      rfl
    refine pure_ (i := 6) (N := some 11) (v := ?_) (a' := ?_) #[true, true, true, true, true, true, true, false, false, false, false, false, false, false, false, false, false, false, false, false, false, false, false, false, false, false, false] rfl rfl (any_of HT_.out (by kernel_rfl)) (fun _ _ _ h => h) (Or.inl ⟨by rfl, ?_⟩) ?_ ?_
    rotate_left
    · intro w'
      go_simp; with_reducible rfl
    rotate_left
    · simp only [Act.put, YL, YM, YN, i64_w, i32_w]
      rfl
    refine pure_ (i := 7) (N := some 12) (v := undef) (a' := ?_) #[true, true, true, true, true, true, true, true, false, false, false, false, false, false, false, false, false, false, false, false, false, false, false, false, false, false, false] rfl rfl (any_of HT_.out (by kernel_rfl)) (fun _ _ _ h => h) (Or.inr ⟨by rfl, rfl⟩) ?_ ?_
    rotate_left
    · simp only [Act.put, YL, YM, YN, i64_w, i32_w]
      rfl
    refine pure_ (i := 8) (N := some 13) (v := undef) (a' := ?_) #[true, true, true, true, true, true, true, true, true, false, false, false, false, false, false, false, false, false, false, false, false, false, false, false, false, false, false] rfl rfl (any_of HT_.out (by kernel_rfl)) (fun _ _ _ h => h) (Or.inr ⟨by rfl, rfl⟩) ?_ ?_
    rotate_left
    · simp only [Act.put, YL, YM, YN, i64_w, i32_w]
      rfl
    refine pure_ (i := 9) (N := some 14) (v := undef) (a' := ?_) #[true, true, true, true, true, true, true, true, true, true, false, false, false, false, false, false, false, false, false, false, false, false, false, false, false, false, false] rfl rfl (any_of HT_.out (by kernel_rfl)) (fun _ _ _ h => h) (Or.inr ⟨by rfl, rfl⟩) ?_ ?_
    rotate_left
    · simp only [Act.put, YL, YM, YN, i64_w, i32_w]
      rfl
    refine pure_ (i := 10) (N := some 15) (v := undef) (a' := ?_) #[true, true, true, true, true, true, true, true, true, true, true, false, false, false, false, false, false, false, false, false, false, false, false, false, false, false, false] rfl rfl (any_of HT_.out (by kernel_rfl)) (fun _ _ _ h => h) (Or.inr ⟨by rfl, rfl⟩) ?_ ?_
    rotate_left
    · simp only [Act.put, YL, YM, YN, i64_w, i32_w]
      rfl
    refine pure_ (i := 11) (N := some 16) (v := undef) (a' := ?_) #[true, true, true, true, true, true, true, true, true, true, true, true, false, false, false, false, false, false, false, false, false, false, false, false, false, false, false] rfl rfl (any_of HT_.out (by kernel_rfl)) (fun _ _ _ h => h) (Or.inr ⟨by rfl, rfl⟩) ?_ ?_
    rotate_left
    · simp only [Act.put, YL, YM, YN, i64_w, i32_w]
      rfl
    refine pure_ (i := 12) (N := some 17) (v := undef) (a' := ?_) #[true, true, true, true, true, true, true, true, true, true, true, true, true, false, false, false, false, false, false, false, false, false, false, false, false, false, false] rfl rfl (any_of HT_.out (by kernel_rfl)) (fun _ _ _ h => h) (Or.inr ⟨by rfl, rfl⟩) ?_ ?_
    rotate_left
    · simp only [Act.put, YL, YM, YN, i64_w, i32_w]
      rfl
    refine pure_ (i := 13) (N := some 18) (v := undef) (a' := ?_) #[true, true, true, true, true, true, true, true, true, true, true, true, true, true, false, false, false, false, false, false, false, false, false, false, false, false, false] rfl rfl (any_of HT_.out (by kernel_rfl)) (fun _ _ _ h => h) (Or.inr ⟨by rfl, rfl⟩) ?_ ?_
    rotate_left
    · simp only [Act.put, YL, YM, YN, i64_w, i32_w]
      rfl
    refine pure_ (i := 14) (N := some 19) (v := undef) (a' := ?_) #[true, true, true, true, true, true, true, true, true, true, true, true, true, true, true, false, false, false, false, false, false, false, false, false, false, false, false] rfl rfl (any_of HT_.out (by kernel_rfl)) (fun _ _ _ h => h) (Or.inr ⟨by rfl, rfl⟩) ?_ ?_
    rotate_left
    · simp only [Act.put, YL, YM, YN, i64_w, i32_w]
      rfl
    refine pure_ (i := 15) (N := some 20) (v := undef) (a' := ?_) #[true, true, true, true, true, true, true, true, true, true, true, true, true, true, true, true, false, false, false, false, false, false, false, false, false, false, false] rfl rfl (any_of HT_.out (by kernel_rfl)) (fun _ _ _ h => h) (Or.inr ⟨by rfl, rfl⟩) ?_ ?_
    rotate_left
    · simp only [Act.put, YL, YM, YN, i64_w, i32_w]
      rfl
    refine pure_ (i := 16) (N := some 21) (v := undef) (a' := ?_) #[true, true, true, true, true, true, true, true, true, true, true, true, true, true, true, true, true, false, false, false, false, false, false, false, false, false, false] rfl rfl (any_of HT_.out (by kernel_rfl)) (fun _ _ _ h => h) (Or.inr ⟨by rfl, rfl⟩) ?_ ?_
    rotate_left
    · simp only [Act.put, YL, YM, YN, i64_w, i32_w]
      rfl
    refine pure_ (i := 17) (N := some 22) (v := undef) (a' := ?_) #[true, true, true, true, true, true, true, true, true, true, true, true, true, true, true, true, true, true, false, false, false, false, false, false, false, false, false] rfl rfl (any_of HT_.out (by kernel_rfl)) (fun _ _ _ h => h) (Or.inr ⟨by rfl, rfl⟩) ?_ ?_
    rotate_left
    · simp only [Act.put, YL, YM, YN, i64_w, i32_w]
      rfl
    refine pure_ (i := 18) (N := some 23) (v := undef) (a' := ?_) #[true, true, true, true, true, true, true, true, true, true, true, true, true, true, true, true, true, true, true, false, false, false, false, false, false, false, false] rfl rfl (any_of HT_.out (by kernel_rfl)) (fun _ _ _ h => h) (Or.inr ⟨by rfl, rfl⟩) ?_ ?_
    rotate_left
    · simp only [Act.put, YL, YM, YN, i64_w, i32_w]
      rfl
    refine pure_ (i := 19) (N := some 24) (v := undef) (a' := ?_) #[true, true, true, true, true, true, true, true, true, true, true, true, true, true, true, true, true, true, true, true, false, false, false, false, false, false, false] rfl rfl (any_of HT_.out (by kernel_rfl)) (fun _ _ _ h => h) (Or.inr ⟨by rfl, rfl⟩) ?_ ?_
    rotate_left
    · simp only [Act.put, YL, YM, YN, i64_w, i32_w]
      rfl
    refine pure_ (i := 20) (N := some 25) (v := undef) (a' := ?_) #[true, true, true, true, true, true, true, true, true, true, true, true, true, true, true, true, true, true, true, true, true, false, false, false, false, false, false] rfl rfl (any_of HT_.out (by kernel_rfl)) (fun _ _ _ h => h) (Or.inr ⟨by rfl, rfl⟩) ?_ ?_
    rotate_left
    · simp only [Act.put, YL, YM, YN, i64_w, i32_w]
      rfl
    refine pure_ (i := 21) (N := some 26) (v := undef) (a' := ?_) #[true, true, true, true, true, true, true, true, true, true, true, true, true, true, true, true, true, true, true, true, true, true, false, false, false, false, false] rfl rfl (any_of HT_.out (by kernel_rfl)) (fun _ _ _ h => h) (Or.inr ⟨by rfl, rfl⟩) ?_ ?_
    rotate_left
    · simp only [Act.put, YL, YM, YN, i64_w, i32_w]
      rfl
    refine pure_ (i := 22) (N := some 27) (v := undef) (a' := ?_) #[true, true, true, true, true, true, true, true, true, true, true, true, true, true, true, true, true, true, true, true, true, true, true, false, false, false, false] rfl rfl (any_of HT_.out (by kernel_rfl)) (fun _ _ _ h => h) (Or.inr ⟨by rfl, rfl⟩) ?_ ?_
    rotate_left
    · simp only [Act.put, YL, YM, YN, i64_w, i32_w]
      rfl
    refine pure_ (i := 23) (N := some 28) (v := undef) (a' := ?_) #[true, true, true, true, true, true, true, true, true, true, true, true, true, true, true, true, true, true, true, true, true, true, true, true, false, false, false] rfl rfl (any_of HT_.out (by kernel_rfl)) (fun _ _ _ h => h) (Or.inr ⟨by rfl, rfl⟩) ?_ ?_
    rotate_left
    · simp only [Act.put, YL, YM, YN, i64_w, i32_w]
      rfl
    refine pure_ (i := 24) (N := some 29) (v := undef) (a' := ?_) #[true, true, true, true, true, true, true, true, true, true, true, true, true, true, true, true, true, true, true, true, true, true, true, true, true, false, false] rfl rfl (any_of HT_.out (by kernel_rfl)) (fun _ _ _ h => h) (Or.inr ⟨by rfl, rfl⟩) ?_ ?_
    rotate_left
    · simp only [Act.put, YL, YM, YN, i64_w, i32_w]
      rfl
    refine pure_ (i := 25) (N := some 30) (v := ?_) (a' := ?_) #[true, true, true, true, true, true, true, true, true, true, true, true, true, true, true, true, true, true, true, true, true, true, true, true, true, true, false] rfl rfl (any_of HT_.out (by kernel_rfl)) (fun _ _ _ h => h) (Or.inl ⟨by rfl, ?_⟩) ?_ ?_
    rotate_left
    · intro w'
      go_simp; with_reducible rfl
    rotate_left
    · simp only [Act.put, YL, YM, YN, i64_w, i32_w]
      rfl
    refine pure_ (i := 26) (N := some 4) (v := ?_) (a' := ?_) #[true, true, true, true, true, true, true, true, true, true, true, true, true, true, true, true, true, true, true, true, true, true, true, true, true, true, true] rfl rfl (any_of HT_.out (by kernel_rfl)) (fun _ _ _ h => h) (Or.inl ⟨by rfl, ?_⟩) ?_ ?_
    rotate_left
    · intro w'
      go_simp; with_reducible rfl
    rotate_left
    · simp only [Act.put, YL, YM, YN, i64_w, i32_w]
      rfl
    refine done_ (done_of HT_.out (by kernel_rfl)) ?_
    try go_wp2
    go_ret
    exact ⟨by first | rfl | (simp [errW_none, errW_some] <;> rfl) | (simp [*, errW_none, errW_some] <;> rfl), by repeat (first | (with_reducible first | exact HB.out | apply YA | apply YB | apply YC | refine below_set ?_ GE165.out | refine below_set ?_ GE166.out) | exact HB.out)⟩
  replace c4 := Bool.eq_false_iff.mpr c4
  subst c4
  have H1 : (some false) = some r := by rw [if_neg (show ¬ (false = true) by decide)] at H; exact H
  clear H
  have H := H1
  clear H1
  obtain rfl := Option.some.inj H
  go_enter Try.func14, Try.ntmps14
  try go_wp2_with (first | ((with_reducible refine gate_dst (N := 2) rfl ?_); (try (refine gate_guard (by rfl) ?_; dsimp only)); refine box_event ?hg (N := 2) ?hd (cs := #[.bool a0_0, .int .i64 a0_1, .int .i64 a0_2, .int .i64 a0_3, .int .i64 a0_4, .int .i64 a0_5]) (t := 23) ?hr ?_; (case hd => rfl); (case hg => rfl); (case hr => first | (go_simp; done) | (go_simp; rfl)); intro gb165 hg w29 hbox hb; have n0_ := YK (YD (by repeat (first | (with_reducible first | exact HB.out | apply YA | apply YB | apply YC) | exact HB.out)) hb); have n1_ := YK (hbox); have n2_ := YK ((by rw [hg]; exact (YE (by repeat (first | (with_reducible first | exact HB.out | apply YA | apply YB | apply YC) | exact HB.out))) : w.heap.size ≤ gb165)); have n3_ := YK ((by rw [hg]; exact (YE (by repeat (first | (with_reducible first | exact HB.out | apply YA | apply YB | apply YC) | exact HB.out))) : w.heap.size ≤ gb165)); clear HB; have HB := n0_; have BK165 := n1_; have GW165 := n2_; have GE165 := n3_; clear n0_ n1_ n2_ n3_; clear hb hbox hg) | ((with_reducible refine gate_dst (N := 3) rfl ?_); (try (refine gate_guard (by rfl) ?_; dsimp only)); refine box_event ?hg (N := 3) ?hd (cs := #[.bool a1_0, .int .i64 a1_1, .int .i64 a1_2, .int .i64 a1_3, .int .i64 a1_4, .int .i64 a1_5]) (t := 23) ?hr ?_; (case hd => rfl); (case hg => rfl); (case hr => first | (go_simp; done) | (go_simp; rfl)); intro gb166 hg w30 hbox hb; have n0_ := YK (YJ (g := gb165) (o := .cells #[.bool a0_0, .int .i64 a0_1, .int .i64 a0_2, .int .i64 a0_3, .int .i64 a0_4, .int .i64 a0_5] 23 (0, 0)) (by (with_reducible repeat (first | refine YF ?_ _ | refine YG ?_ | refine YH ?_ _)); exact BK165.out) hb); have n1_ := YK (YD (by repeat (first | (with_reducible first | exact HB.out | apply YA | apply YB | apply YC | refine below_set ?_ GE165.out) | exact HB.out)) hb); have n2_ := YK (hbox); have n3_ := YK ((by rw [hg]; exact (YE (by repeat (first | (with_reducible first | exact HB.out | apply YA | apply YB | apply YC | refine below_set ?_ GE165.out) | exact HB.out))) : w.heap.size ≤ gb166)); have n4_ := YK ((by rw [hg]; exact (YE (by repeat (first | (with_reducible first | exact HB.out | apply YA | apply YB | apply YC | refine below_set ?_ GE165.out) | exact HB.out))) : w.heap.size ≤ gb166)); have n5_ := YK ((by rw [hg]; exact Nat.ne_of_lt (blk_lt (g := gb165) (o := .cells #[.bool a0_0, .int .i64 a0_1, .int .i64 a0_2, .int .i64 a0_3, .int .i64 a0_4, .int .i64 a0_5] 23 (0, 0)) (by (with_reducible repeat (first | refine YF ?_ _ | refine YG ?_ | refine YH ?_ _)); exact BK165.out)) : gb165 ≠ gb166)); have n6_ := YK ((by rw [hg]; exact Nat.ne_of_gt (blk_lt (g := gb165) (o := .cells #[.bool a0_0, .int .i64 a0_1, .int .i64 a0_2, .int .i64 a0_3, .int .i64 a0_4, .int .i64 a0_5] 23 (0, 0)) (by (with_reducible repeat (first | refine YF ?_ _ | refine YG ?_ | refine YH ?_ _)); exact BK165.out)) : gb166 ≠ gb165)); clear BK165; clear HB; have BK165 := n0_; have HB := n1_; have BK166 := n2_; have GW166 := n3_; have GE166 := n4_; have NB165_166 := n5_; have NB166_165 := n6_; clear n0_ n1_ n2_ n3_ n4_ n5_ n6_; clear hb hbox hg))
  have n0_ := YK (YG BK165.out)
  have n1_ := YK (YG BK166.out)
  have n2_ := YK (YC HB.out)
  clear BK165; clear BK166; clear HB; have BK165 := n0_; have BK166 := n1_; have HB := n2_; clear n0_ n1_ n2_
  refine start_ (n := 27) (S := fun w' => w'.cell? ⟨gb165, 0, none⟩ = some (.bool a0_0) ∧ w'.cell? ⟨gb165, 1, none⟩ = some (.int .i64 a0_1) ∧ w'.cell? ⟨gb165, 2, none⟩ = some (.int .i64 a0_2) ∧ w'.cell? ⟨gb165, 3, none⟩ = some (.int .i64 a0_3) ∧ w'.cell? ⟨gb165, 4, none⟩ = some (.int .i64 a0_4) ∧ w'.cell? ⟨gb165, 5, none⟩ = some (.int .i64 a0_5)) (ds := []) #[false, false, false, false, false, false, false, false, false, false, false, false, false, false, false, false, false, false, false, false, false, false, false, false, false, false, false] (by kernel_rfl) rfl rfl ⟨(YI BK165.out 0).trans rfl, (YI BK165.out 1).trans rfl, (YI BK165.out 2).trans rfl, (YI BK165.out 3).trans rfl, (YI BK165.out 4).trans rfl, (YI BK165.out 5).trans rfl⟩ (fun hHeld => ?_); refine with_tabW height_Less.tab1 height_Less.bits1 (fun HT_ HW_ => ?_)
  generalize w30.drew = w31 at BK165 BK166 HB hHeld ⊢
  refine take_ (i := 0) (N := some 5) (v := ?_) (a' := ?_) #[true, false, false, false, false, false, false, false, false, false, false, false, false, false, false, false, false, false, false, false, false, false, false, false, false, false, false] rfl rfl (take_ofW HT_.out HW_.out (by kernel_rfl)) (fun _ _ _ h => h) (Or.inl ⟨by rfl, ?_⟩) hHeld ?_ ?_
  rotate_left
  · rintro w' ⟨s0, s1, s2, s3, s4, s5⟩
    go_simp; with_reducible rfl
  rotate_left
  · simp only [Act.put, YL, YM, YN, i64_w, i32_w]
    rfl
  refine one_ (i := 1) (N := some 6) #[true, true, false, false, false, false, false, false, false, false, false, false, false, false, false, false, false, false, false, false, false, false, false, false, false, false, false] rfl rfl (one_of HT_.out (by kernel_rfl)) (by decide) (fun K hK => ?_)
  refine goes_ Try.func31 (by kernel_rfl) rfl #[.agg #[.bool a0_0, .int .i64 a0_1, .int .i64 a0_2, .int .i64 a0_3, .int .i64 a0_4, .int .i64 a0_5]] (by rfl) rfl rfl (by (try simp only [YO, List.map_cons, List.map_nil]); first | done | rfl | (simp only [YQ, YP]; rfl)) ?_
  with_reducible refine (height_known.calls k a0_0 a0_1 a0_2 a0_3 a0_4 a0_5 false _ A3.out).mono ?_
  rintro e w32 ⟨rfl, hb⟩
  refine ⟨_, rfl, ?_⟩
  have n0_ := YK (YJ (g := gb165) (o := .cells #[.bool a0_0, .int .i64 a0_1, .int .i64 a0_2, .int .i64 a0_3, .int .i64 a0_4, .int .i64 a0_5] 23 (0, 0)) (by (with_reducible repeat (first | refine YF ?_ _ | refine YG ?_ | refine YH ?_ _)); exact BK165.out) hb)
  have n1_ := YK (YJ (g := gb166) (o := .cells #[.bool a1_0, .int .i64 a1_1, .int .i64 a1_2, .int .i64 a1_3, .int .i64 a1_4, .int .i64 a1_5] 23 (0, 0)) (by (with_reducible repeat (first | refine YF ?_ _ | refine YG ?_ | refine YH ?_ _)); exact BK166.out) hb)
  have n2_ := YK (YD (by repeat (first | (with_reducible first | exact HB.out | apply YA | apply YB | apply YC | refine below_set ?_ GE165.out | refine below_set ?_ GE166.out) | exact HB.out)) hb)
  clear BK165; clear BK166; clear HB; have BK165 := n0_; have BK166 := n1_; have HB := n2_; clear n0_ n1_ n2_; (try clear hb); (try clear hb2); (try clear hk); (try clear hi)
  refine hK.out _ _ ⟨(YI BK165.out 0).trans rfl, (YI BK165.out 1).trans rfl, (YI BK165.out 2).trans rfl, (YI BK165.out 3).trans rfl, (YI BK165.out 4).trans rfl, (YI BK165.out 5).trans rfl⟩ (fun hHeld => ?_)
  clear hK K
  refine norm_ (a' := ?_) ?_ ?_
  rotate_left
  · show Act.put _ (some 6) _ = _
    simp only [Act.put, YL, YM, YN, i64_w, i32_w]
    rfl
  refine pure_ (i := 2) (N := some 7) (v := ?_) (a' := ?_) #[true, true, true, false, false, false, false, false, false, false, false, false, false, false, false, false, false, false, false, false, false, false, false, false, false, false, false] rfl rfl (any_of HT_.out (by kernel_rfl)) (fun _ _ _ h => h) (Or.inl ⟨by rfl, ?_⟩) ?_ ?_
  rotate_left
  · intro w'
    go_simp; with_reducible rfl
  rotate_left
  · simp only [Act.put, YL, YM, YN, i64_w, i32_w]
    rfl
  refine pure_ (i := 3) (N := some 8) (v := undef) (a' := ?_) #[true, true, true, true, false, false, false, false, false, false, false, false, false, false, false, false, false, false, false, false, false, false, false, false, false, false, false] rfl rfl (any_of HT_.out (by kernel_rfl)) (fun _ _ _ h => h) (Or.inr ⟨by rfl, rfl⟩) ?_ ?_
  rotate_left
  · simp only [Act.put, YL, YM, YN, i64_w, i32_w]
    rfl
  refine pure_ (i := 4) (N := some 9) (v := undef) (a' := ?_) #[true, true, true, true, true, false, false, false, false, false, false, false, false, false, false, false, false, false, false, false, false, false, false, false, false, false, false] rfl rfl (any_of HT_.out (by kernel_rfl)) (fun _ _ _ h => h) (Or.inr ⟨by rfl, rfl⟩) ?_ ?_
  rotate_left
  · simp only [Act.put, YL, YM, YN, i64_w, i32_w]
    rfl
  refine pure_ (i := 5) (N := some 10) (v := ?_) (a' := ?_) #[true, true, true, true, true, true, false, false, false, false, false, false, false, false, false, false, false, false, false, false, false, false, false, false, false, false, false] rfl rfl (any_of HT_.out (by kernel_rfl)) (fun _ _ _ h => h) (Or.inl ⟨by rfl, ?_⟩) ?_ ?_
  rotate_left
  · intro w'
    go_simp; with_reducible rfl
  rotate_left
  · simp only [Act.put, YL, YM, YN, i64_w, i32_w]
    rfl
  refine pure_ (i := 6) (N := some 11) (v := ?_) (a' := ?_) #[true, true, true, true, true, true, true, false, false, false, false, false, false, false, false, false, false, false, false, false, false, false, false, false, false, false, false] rfl rfl (any_of HT_.out (by kernel_rfl)) (fun _ _ _ h => h) (Or.inl ⟨by rfl, ?_⟩) ?_ ?_
  rotate_left
  · intro w'
    go_simp; with_reducible rfl
  rotate_left
  · simp only [Act.put, YL, YM, YN, i64_w, i32_w]
    rfl
  refine pure_ (i := 7) (N := some 12) (v := undef) (a' := ?_) #[true, true, true, true, true, true, true, true, false, false, false, false, false, false, false, false, false, false, false, false, false, false, false, false, false, false, false] rfl rfl (any_of HT_.out (by kernel_rfl)) (fun _ _ _ h => h) (Or.inr ⟨by rfl, rfl⟩) ?_ ?_
  rotate_left
  · simp only [Act.put, YL, YM, YN, i64_w, i32_w]
    rfl
  refine pure_ (i := 8) (N := some 13) (v := undef) (a' := ?_) #[true, true, true, true, true, true, true, true, true, false, false, false, false, false, false, false, false, false, false, false, false, false, false, false, false, false, false] rfl rfl (any_of HT_.out (by kernel_rfl)) (fun _ _ _ h => h) (Or.inr ⟨by rfl, rfl⟩) ?_ ?_
  rotate_left
  · simp only [Act.put, YL, YM, YN, i64_w, i32_w]
    rfl
  refine pure_ (i := 9) (N := some 14) (v := undef) (a' := ?_) #[true, true, true, true, true, true, true, true, true, true, false, false, false, false, false, false, false, false, false, false, false, false, false, false, false, false, false] rfl rfl (any_of HT_.out (by kernel_rfl)) (fun _ _ _ h => h) (Or.inr ⟨by rfl, rfl⟩) ?_ ?_
  rotate_left
  · simp only [Act.put, YL, YM, YN, i64_w, i32_w]
    rfl
  refine pure_ (i := 10) (N := some 15) (v := undef) (a' := ?_) #[true, true, true, true, true, true, true, true, true, true, true, false, false, false, false, false, false, false, false, false, false, false, false, false, false, false, false] rfl rfl (any_of HT_.out (by kernel_rfl)) (fun _ _ _ h => h) (Or.inr ⟨by rfl, rfl⟩) ?_ ?_
  rotate_left
  · simp only [Act.put, YL, YM, YN, i64_w, i32_w]
    rfl
  refine pure_ (i := 11) (N := some 16) (v := undef) (a' := ?_) #[true, true, true, true, true, true, true, true, true, true, true, true, false, false, false, false, false, false, false, false, false, false, false, false, false, false, false] rfl rfl (any_of HT_.out (by kernel_rfl)) (fun _ _ _ h => h) (Or.inr ⟨by rfl, rfl⟩) ?_ ?_
  rotate_left
  · simp only [Act.put, YL, YM, YN, i64_w, i32_w]
    rfl
  refine pure_ (i := 12) (N := some 17) (v := undef) (a' := ?_) #[true, true, true, true, true, true, true, true, true, true, true, true, true, false, false, false, false, false, false, false, false, false, false, false, false, false, false] rfl rfl (any_of HT_.out (by kernel_rfl)) (fun _ _ _ h => h) (Or.inr ⟨by rfl, rfl⟩) ?_ ?_
  rotate_left
  · simp only [Act.put, YL, YM, YN, i64_w, i32_w]
    rfl
  refine pure_ (i := 13) (N := some 18) (v := undef) (a' := ?_) #[true, true, true, true, true, true, true, true, true, true, true, true, true, true, false, false, false, false, false, false, false, false, false, false, false, false, false] rfl rfl (any_of HT_.out (by kernel_rfl)) (fun _ _ _ h => h) (Or.inr ⟨by rfl, rfl⟩) ?_ ?_
  rotate_left
  · simp only [Act.put, YL, YM, YN, i64_w, i32_w]
    rfl
  refine pure_ (i := 14) (N := some 19) (v := undef) (a' := ?_) #[true, true, true, true, true, true, true, true, true, true, true, true, true, true, true, false, false, false, false, false, false, false, false, false, false, false, false] rfl rfl (any_of HT_.out (by kernel_rfl)) (fun _ _ _ h => h) (Or.inr ⟨by rfl, rfl⟩) ?_ ?_
  rotate_left
  · simp only [Act.put, YL, YM, YN, i64_w, i32_w]
    rfl
  refine pure_ (i := 15) (N := some 20) (v := undef) (a' := ?_) #[true, true, true, true, true, true, true, true, true, true, true, true, true, true, true, true, false, false, false, false, false, false, false, false, false, false, false] rfl rfl (any_of HT_.out (by kernel_rfl)) (fun _ _ _ h => h) (Or.inr ⟨by rfl, rfl⟩) ?_ ?_
  rotate_left
  · simp only [Act.put, YL, YM, YN, i64_w, i32_w]
    rfl
  refine pure_ (i := 16) (N := some 21) (v := undef) (a' := ?_) #[true, true, true, true, true, true, true, true, true, true, true, true, true, true, true, true, true, false, false, false, false, false, false, false, false, false, false] rfl rfl (any_of HT_.out (by kernel_rfl)) (fun _ _ _ h => h) (Or.inr ⟨by rfl, rfl⟩) ?_ ?_
  rotate_left
  · simp only [Act.put, YL, YM, YN, i64_w, i32_w]
    rfl
  refine pure_ (i := 17) (N := some 22) (v := undef) (a' := ?_) #[true, true, true, true, true, true, true, true, true, true, true, true, true, true, true, true, true, true, false, false, false, false, false, false, false, false, false] rfl rfl (any_of HT_.out (by kernel_rfl)) (fun _ _ _ h => h) (Or.inr ⟨by rfl, rfl⟩) ?_ ?_
  rotate_left
  · simp only [Act.put, YL, YM, YN, i64_w, i32_w]
    rfl
  refine pure_ (i := 18) (N := some 23) (v := undef) (a' := ?_) #[true, true, true, true, true, true, true, true, true, true, true, true, true, true, true, true, true, true, true, false, false, false, false, false, false, false, false] rfl rfl (any_of HT_.out (by kernel_rfl)) (fun _ _ _ h => h) (Or.inr ⟨by rfl, rfl⟩) ?_ ?_
  rotate_left
  · simp only [Act.put, YL, YM, YN, i64_w, i32_w]
    rfl
  refine pure_ (i := 19) (N := some 24) (v := undef) (a' := ?_) #[true, true, true, true, true, true, true, true, true, true, true, true, true, true, true, true, true, true, true, true, false, false, false, false, false, false, false] rfl rfl (any_of HT_.out (by kernel_rfl)) (fun _ _ _ h => h) (Or.inr ⟨by rfl, rfl⟩) ?_ ?_
  rotate_left
  · simp only [Act.put, YL, YM, YN, i64_w, i32_w]
    rfl
  refine pure_ (i := 20) (N := some 25) (v := undef) (a' := ?_) #[true, true, true, true, true, true, true, true, true, true, true, true, true, true, true, true, true, true, true, true, true, false, false, false, false, false, false] rfl rfl (any_of HT_.out (by kernel_rfl)) (fun _ _ _ h => h) (Or.inr ⟨by rfl, rfl⟩) ?_ ?_
  rotate_left
  · simp only [Act.put, YL, YM, YN, i64_w, i32_w]
    rfl
  refine pure_ (i := 21) (N := some 26) (v := undef) (a' := ?_) #[true, true, true, true, true, true, true, true, true, true, true, true, true, true, true, true, true, true, true, true, true, true, false, false, false, false, false] rfl rfl (any_of HT_.out (by kernel_rfl)) (fun _ _ _ h => h) (Or.inr ⟨by rfl, rfl⟩) ?_ ?_
  rotate_left
  · simp only [Act.put, YL, YM, YN, i64_w, i32_w]
    rfl
  refine pure_ (i := 22) (N := some 27) (v := undef) (a' := ?_) #[true, true, true, true, true, true, true, true, true, true, true, true, true, true, true, true, true, true, true, true, true, true, true, false, false, false, false] rfl rfl (any_of HT_.out (by kernel_rfl)) (fun _ _ _ h => h) (Or.inr ⟨by rfl, rfl⟩) ?_ ?_
  rotate_left
  · simp only [Act.put, YL, YM, YN, i64_w, i32_w]
    rfl
  refine pure_ (i := 23) (N := some 28) (v := undef) (a' := ?_) #[true, true, true, true, true, true, true, true, true, true, true, true, true, true, true, true, true, true, true, true, true, true, true, true, false, false, false] rfl rfl (any_of HT_.out (by kernel_rfl)) (fun _ _ _ h => h) (Or.inr ⟨by rfl, rfl⟩) ?_ ?_
  rotate_left
  · simp only [Act.put, YL, YM, YN, i64_w, i32_w]
    rfl
  refine pure_ (i := 24) (N := some 29) (v := undef) (a' := ?_) #[true, true, true, true, true, true, true, true, true, true, true, true, true, true, true, true, true, true, true, true, true, true, true, true, true, false, false] rfl rfl (any_of HT_.out (by kernel_rfl)) (fun _ _ _ h => h) (Or.inr ⟨by rfl, rfl⟩) ?_ ?_
  rotate_left
  · simp only [Act.put, YL, YM, YN, i64_w, i32_w]
    rfl
  refine pure_ (i := 25) (N := some 30) (v := ?_) (a' := ?_) #[true, true, true, true, true, true, true, true, true, true, true, true, true, true, true, true, true, true, true, true, true, true, true, true, true, true, false] rfl rfl (any_of HT_.out (by kernel_rfl)) (fun _ _ _ h => h) (Or.inl ⟨by rfl, ?_⟩) ?_ ?_
  rotate_left
  · intro w'
    go_simp; with_reducible rfl
  rotate_left
  · simp only [Act.put, YL, YM, YN, i64_w, i32_w]
    rfl
  refine pure_ (i := 26) (N := some 4) (v := ?_) (a' := ?_) #[true, true, true, true, true, true, true, true, true, true, true, true, true, true, true, true, true, true, true, true, true, true, true, true, true, true, true] rfl rfl (any_of HT_.out (by kernel_rfl)) (fun _ _ _ h => h) (Or.inl ⟨by rfl, ?_⟩) ?_ ?_
  rotate_left
  · intro w'
    go_simp; with_reducible rfl
  rotate_left
  · simp only [Act.put, YL, YM, YN, i64_w, i32_w]
    rfl
  refine done_ (done_of HT_.out (by kernel_rfl)) ?_
  try go_wp2
  go_ret
  exact ⟨by first | rfl | (simp [errW_none, errW_some] <;> rfl) | (simp [*, errW_none, errW_some] <;> rfl), by repeat (first | (with_reducible first | exact HB.out | apply YA | apply YB | apply YC | refine below_set ?_ GE165.out | refine below_set ?_ GE166.out) | exact HB.out)⟩

end Go.Proofs.Ytjeahmlahkngaaa.P
