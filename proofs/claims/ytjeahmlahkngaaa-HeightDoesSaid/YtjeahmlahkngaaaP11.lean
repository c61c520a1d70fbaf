-- WRITTEN BY xprint.py, a program of this session that drives the kit's printer.
import Derived.Test.YtjeahmlahkngaaaP0
import Derived.Test.YtjeahmlahkngaaaP6
import Derived.Test.YtjeahmlahkngaaaP9
import Derived.Test.YtjeahmlahkngaaaP10
namespace Go.Proofs.Ytjeahmlahkngaaa.P
open Go.RowKit Go.Proofs.YtjeahmlahkngaaaW.PrintWords Go.Proofs.YtjeahmlahkngaaaW.PrintLast Go.Proofs.YtjeahmlahkngaaaW.PrintMore
open Go.Proofs.YtjeahmlahkngaaaW.PrintWords renaming below_alloc → YA, pw_below_drewN → YB, below_drew1 → YC, below_step → YD, below_size → YE, blk_drewN → YF, blk_drew → YG, blk_alloc → YH, blk_cell → YI, blk_frozen → YJ, blk_below → YK
open List renaming setIfInBounds_toArray → YL, set_cons_zero → YM, set_cons_succ → YN, map_toArray → YO
open Go.Proofs.YtjeahmlahkngaaaW.PrintWords.Kd renaming R_alloc → YP, R_drewN → YQ, R_drew → YR
attribute [local go_sem] max2_int min2_int max_two min_two max_three min_three max_four min_four   -- for this text's walks alone
set_option linter.unusedVariables false
set_option linter.unusedSimpArgs false

/-! ### thalwegref02_Bytes: function 11 -/
def thalwegref02_Bytes.f (k : Nat) (a0_0 : Bool) (a0_1 : Int) (a0_2 : Int) (a0_3 : Int) (a0_4 : Int) (a0_5 : Int) : Option (List Int × Int) := (thalwegref02_Right.f k a0_0 a0_1 a0_2 a0_3 a0_4 a0_5).bind fun t163 => (if t163 = true then (if a0_0 = true then (some ((([0, (a0_5) % 256] : List Int)), 0)) else ((thalwegref01_Int.f k a0_1).bind fun t170 => ((thalwegref01_Int.f k a0_4).bind fun t176 => ((thalwegref01_Both.f k (([(([1] : List Int)), t170, (([(a0_2) % 256, (a0_3) % 256] : List Int)), t176, (([(a0_5) % 256] : List Int))] : List (List Int)))).bind fun t185 => (some (t185, 0)))))) else (some (([] : List Int), 1)))
theorem thalwegref02_Bytes.mono : ∀ a0 a1 a2 a3 a4 a5 k, LeO (thalwegref02_Bytes.f k a0 a1 a2 a3 a4 a5) (thalwegref02_Bytes.f (k + 1) a0 a1 a2 a3 a4 a5) := by
  intro a0 a1 a2 a3 a4 a5 k
  unfold thalwegref02_Bytes.f
  repeat' first
      | (with_reducible exact thalwegref01_Both.mono _ _)
      | (with_reducible exact thalwegref01_Int.mono _ _)
      | (with_reducible exact thalwegref02_Right.mono _ _ _ _ _ _ _)
      | (with_reducible exact LeO.refl _)
      | (with_reducible exact LeO.none _)
      | (with_reducible refine LeO.ite ?_ ?_)
      | (with_reducible refine LeO.bind ?_ (fun _ => ?_))
      | exact thalwegref01_Both.mono _ _
      | exact thalwegref01_Int.mono _ _
      | exact thalwegref02_Right.mono _ _ _ _ _ _ _
      | exact LeO.none _
      | refine LeO.ite ?_ ?_
      | refine LeO.bind ?_ (fun _ => ?_)
def thalwegref02_Bytes.T5 : Bool × List (List Nat × List Nat) := (true, [([], []), ([], []), ([1], [1]), ([2], [2]), ([], []), ([4], [4]), ([5], [5]), ([], []), ([7], [7]), ([8], [8]), ([6, 9], [6, 9]), ([], []), ([11], [11]), ([12, 3], [12]), ([], []), ([14], [14]), ([15], [15]), ([16], [16]), ([0, 3, 10, 13, 17], [0, 3, 10, 13, 17]), ([18, 13], [18]), ([19, 19, 0, 1, 2, 3, 4, 5, 6, 7, 8, 9, 10, 11, 12, 13, 14, 15, 16, 17, 18, 19], [19]), ([20, 0, 1, 2, 3, 4, 5, 6, 7, 8, 9, 10, 11, 12, 13, 14, 15, 16, 17, 18, 19, 20], [])])
def thalwegref02_Bytes.B5 : List Nat := [0, 0, 2, 6, 0, 16, 48, 0, 128, 384, 1008, 0, 2048, 6158, 0, 16384, 49152, 114688, 262143, 524287, 1048575, 2097151]
theorem thalwegref02_Bytes.tab5 : rtab .any (opsOf Try.f11 5) = thalwegref02_Bytes.T5 := by kernel_rfl
theorem thalwegref02_Bytes.bits5 : waitsOk thalwegref02_Bytes.T5.2 thalwegref02_Bytes.B5 = true := by kernel_rfl
set_option maxHeartbeats 8000000 in
set_option maxRecDepth 100000 in
theorem thalwegref02_Bytes.calls (k : Nat) (a0_0 : Bool) (a0_1 : Int) (a0_2 : Int) (a0_3 : Int) (a0_4 : Int) (a0_5 : Int) (r1 : List Int) (r2 : Int) (w : World) (h : thalwegref02_Bytes.f k a0_0 a0_1 a0_2 a0_3 a0_4 a0_5 = some (r1, r2)) :
    Calls Try.prog 11 #[.agg #[.bool a0_0, .int .i64 a0_1, .int .i64 a0_2, .int .i64 a0_3, .int .i64 a0_4, .int .i64 a0_5]] w fun e w' => ∃ v0_ : Value, e = .returned (.tuple #[v0_, .int .i64 r2]) ∧ Kd.R (Kd.int .u8) 5 w' w.heap.size (fun _ => True) v0_ r1 ∧ Below w.heap.size w w' := by
  have hu23 := Try.underlying23
  have HB := Aside0.mk (Below.refl w.heap.size w)
  have H : ((thalwegref02_Right.f k a0_0 a0_1 a0_2 a0_3 a0_4 a0_5).bind fun t163 => (if t163 = true then (if a0_0 = true then (some ((([0, (a0_5) % 256] : List Int)), 0)) else ((thalwegref01_Int.f k a0_1).bind fun t170 => ((thalwegref01_Int.f k a0_4).bind fun t176 => ((thalwegref01_Both.f k (([(([1] : List Int)), t170, (([(a0_2) % 256, (a0_3) % 256] : List Int)), t176, (([(a0_5) % 256] : List Int))] : List (List Int)))).bind fun t185 => (some (t185, 0)))))) else (some (([] : List Int), 1)))) = some (r1, r2) := h
  clear h
  replace H := Option.bind_eq_some_iff.mp H
  obtain ⟨t163, A20, H⟩ := H
  replace H : (if t163 = true then (if a0_0 = true then (some ((([0, (a0_5) % 256] : List Int)), 0)) else ((thalwegref01_Int.f k a0_1).bind fun t170 => ((thalwegref01_Int.f k a0_4).bind fun t176 => ((thalwegref01_Both.f k (([(([1] : List Int)), t170, (([(a0_2) % 256, (a0_3) % 256] : List Int)), t176, (([(a0_5) % 256] : List Int))] : List (List Int)))).bind fun t185 => (some (t185, 0)))))) else (some (([] : List Int), 1))) = some (r1, r2) := H
  have A2 := Aside0.mk A20
  clear A20
  by_cases c3 : t163 = true
  · subst c3
    have H1 : (if a0_0 = true then (some ((([0, (a0_5) % 256] : List Int)), 0)) else ((thalwegref01_Int.f k a0_1).bind fun t170 => ((thalwegref01_Int.f k a0_4).bind fun t176 => ((thalwegref01_Both.f k (([(([1] : List Int)), t170, (([(a0_2) % 256, (a0_3) % 256] : List Int)), t176, (([(a0_5) % 256] : List Int))] : List (List Int)))).bind fun t185 => (some (t185, 0)))))) = some (r1, r2) := by rw [if_pos rfl] at H; exact H
    clear H
    have H := H1
    clear H1
    by_cases c4 : a0_0 = true
    · subst c4
      have H1 : (some ((([0, (a0_5) % 256] : List Int)), 0)) = some (r1, r2) := by rw [if_pos rfl] at H; exact H
      clear H
      have H := H1
      clear H1
      obtain ⟨y164, hy164⟩ : ∃ y_ : List Int, y_ = (([0, (a0_5) % 256] : List Int)) := ⟨_, rfl⟩
      replace H : (some (y164, 0)) = some (r1, r2) := by first | (rw [hy164]; with_reducible exact H) | (have H2_ := (Option.bind_some _ _).symm.trans H; rw [hy164]; with_reducible exact H2_) | (have H2_ := (Option.bind_some _ _).symm.trans H; with_reducible exact H2_) | with_reducible exact H | (rw [hy164]; exact H) | exact H
      have Ny164 := Aside0.mk hy164
      clear hy164
      simp only [Option.some.injEq, Prod.mk.injEq] at H
      obtain ⟨rfl, rfl⟩ := H
      go_enter Try.func11, Try.ntmps11
      go_wp2_with (first | ((with_reducible refine gate_dst (N := 1) rfl ?_); refine box_event ?hg (N := 1) ?hd (cs := #[.bool true, .int .i64 a0_1, .int .i64 a0_2, .int .i64 a0_3, .int .i64 a0_4, .int .i64 a0_5]) (t := 23) ?hr ?_; (case hd => rfl); (case hg => rfl); (case hr => first | (go_simp; done) | (go_simp; rfl)); intro gb162 hg w5 hbox hb; have n0_ := Aside0.mk (YD (by repeat (first | (with_reducible first | exact HB.out | apply YA | apply YB | apply YC) | exact HB.out)) hb); have n1_ := Aside0.mk (hbox); have n2_ := Aside0.mk ((by rw [hg]; exact (YE (by repeat (first | (with_reducible first | exact HB.out | apply YA | apply YB | apply YC) | exact HB.out))) : w.heap.size ≤ gb162)); have n3_ := Aside0.mk ((by rw [hg]; exact (YE (by repeat (first | (with_reducible first | exact HB.out | apply YA | apply YB | apply YC) | exact HB.out))) : w.heap.size ≤ gb162)); clear HB; have HB := n0_; have BK162 := n1_; have GW162 := n2_; have GE162 := n3_; clear n0_ n1_ n2_ n3_; clear hb hbox hg; have hcz6_0 : w5.cell? ⟨gb162, 0, none⟩ = some (.bool true) := (YI BK162.out 0).trans rfl; have hcz6_1 : w5.cell? ⟨gb162, 1, none⟩ = some (.int .i64 a0_1) := (YI BK162.out 1).trans rfl; have hcz6_2 : w5.cell? ⟨gb162, 2, none⟩ = some (.int .i64 a0_2) := (YI BK162.out 2).trans rfl; have hcz6_3 : w5.cell? ⟨gb162, 3, none⟩ = some (.int .i64 a0_3) := (YI BK162.out 3).trans rfl; have hcz6_4 : w5.cell? ⟨gb162, 4, none⟩ = some (.int .i64 a0_4) := (YI BK162.out 4).trans rfl; have hcz6_5 : w5.cell? ⟨gb162, 5, none⟩ = some (.int .i64 a0_5) := (YI BK162.out 5).trans rfl; have hfz6_0 := YJ BK162.out 0; have hfz6_1 := YJ BK162.out 1; have hfz6_2 := YJ BK162.out 2; have hfz6_3 := YJ BK162.out 3; have hfz6_4 := YJ BK162.out 4; have hfz6_5 := YJ BK162.out 5) | ((with_reducible refine gate_callee (f := 13) rfl ?_); refine goesL_ (some 5) rfl rfl Try.func13 (by kernel_rfl) rfl #[.agg #[.bool true, .int .i64 a0_1, .int .i64 a0_2, .int .i64 a0_3, .int .i64 a0_4, .int .i64 a0_5]] rfl (by (try simp only [YO, List.map_cons, List.map_nil]); first | done | rfl | (simp only [List.length_drop, List.length_take]; rfl)) ?_; (with_reducible refine (thalwegref02_Right.calls k true a0_1 a0_2 a0_3 a0_4 a0_5 true _ A2.out).mono ?_); rintro e w7 ⟨rfl, hb⟩; refine ⟨_, rfl, ?_⟩; have n0_ := Aside0.mk (YK (g := gb162) (o := .cells #[.bool true, .int .i64 a0_1, .int .i64 a0_2, .int .i64 a0_3, .int .i64 a0_4, .int .i64 a0_5] 23 (0, 0)) (by (with_reducible repeat (first | refine YF ?_ _ | refine YG ?_ | refine YH ?_ _)); exact BK162.out) hb); have n1_ := Aside0.mk (YD (by repeat (first | (with_reducible first | exact HB.out | apply YA | apply YB | apply YC | refine below_set ?_ GE162.out) | exact HB.out)) hb); clear BK162; clear HB; have BK162 := n0_; have HB := n1_; clear n0_ n1_; (try clear hb); (try clear hb2); (try clear hk); (try clear hi); have hcz8_0 : w7.cell? ⟨gb162, 0, none⟩ = some (.bool true) := (YI BK162.out 0).trans rfl; have hcz8_1 : w7.cell? ⟨gb162, 1, none⟩ = some (.int .i64 a0_1) := (YI BK162.out 1).trans rfl; have hcz8_2 : w7.cell? ⟨gb162, 2, none⟩ = some (.int .i64 a0_2) := (YI BK162.out 2).trans rfl; have hcz8_3 : w7.cell? ⟨gb162, 3, none⟩ = some (.int .i64 a0_3) := (YI BK162.out 3).trans rfl; have hcz8_4 : w7.cell? ⟨gb162, 4, none⟩ = some (.int .i64 a0_4) := (YI BK162.out 4).trans rfl; have hcz8_5 : w7.cell? ⟨gb162, 5, none⟩ = some (.int .i64 a0_5) := (YI BK162.out 5).trans rfl; have hfz8_0 := YJ BK162.out 0; have hfz8_1 := YJ BK162.out 1; have hfz8_2 := YJ BK162.out 2; have hfz8_3 := YJ BK162.out 3; have hfz8_4 := YJ BK162.out 4; have hfz8_5 := YJ BK162.out 5) | ((with_reducible refine gate_dst (N := 12) rfl ?_); refine Kd.R_lit (Kd.int .u8) _ 5 ?hg (N := 12) ?hd (xs := ([0, (a0_5) % 256] : List Int)) (inner := [.int .u8 0, .int .u8 ((a0_5) % 256)]) (ok := fun _ => True) (okp := fun _ => True) ?hr ?hp (fun _ hk => hk) trivial (Below.refl _ _) (Nat.le_refl _) (by simp) ?_; (case hd => rfl); (case hg => rfl); (case hr => first | (go_simp; done) | (go_simp; rfl)); (case hp => exact (Reps.one (show Kd.M (Kd.int .u8) _ _ _ 0 [.int .u8 0] from rfl) (Reps.one (show Kd.M (Kd.int .u8) _ _ _ ((a0_5) % 256) [.int .u8 ((a0_5) % 256)] from rfl) (Reps.none _ _)))); intro v165 w9 ho10 hb hg_ hnew_; clear hg_ hnew_; (first | rw [← Ny164.out] at ho10 | (simp only [Int.reduceToNat] at ho10; rw [← Ny164.out] at ho10)); have n0_ := Aside0.mk (Kd.R_lower ho10 (YE (by repeat (first | (with_reducible first | exact HB.out | apply YA | apply YB | apply YC | refine below_set ?_ GE162.out) | exact HB.out)))); have n1_ := Aside0.mk (YK (g := gb162) (o := .cells #[.bool true, .int .i64 a0_1, .int .i64 a0_2, .int .i64 a0_3, .int .i64 a0_4, .int .i64 a0_5] 23 (0, 0)) (by (with_reducible repeat (first | refine YF ?_ _ | refine YG ?_ | refine YH ?_ _)); exact BK162.out) hb); have n2_ := Aside0.mk (YD (by repeat (first | (with_reducible first | exact HB.out | apply YA | apply YB | apply YC | refine below_set ?_ GE162.out) | exact HB.out)) hb); clear BK162; clear HB; have HO166 := n0_; have BK162 := n1_; have HB := n2_; clear n0_ n1_ n2_; clear hb ho10))
      go_ret2
      exact ⟨_, by first | rfl | (simp [errW_none, errW_some] <;> rfl) | (simp [*, errW_none, errW_some] <;> rfl), by (with_reducible repeat (first | apply YP | apply YQ | apply YR)); exact HO166.out, by repeat (first | (with_reducible first | exact HB.out | apply YA | apply YB | apply YC | refine below_set ?_ GE162.out) | exact HB.out)⟩
    · replace c4 := Bool.eq_false_iff.mpr c4
      subst c4
      have H1 : ((thalwegref01_Int.f k a0_1).bind fun t170 => ((thalwegref01_Int.f k a0_4).bind fun t176 => ((thalwegref01_Both.f k (([(([1] : List Int)), t170, (([(a0_2) % 256, (a0_3) % 256] : List Int)), t176, (([(a0_5) % 256] : List Int))] : List (List Int)))).bind fun t185 => (some (t185, 0))))) = some (r1, r2) := by rw [if_neg (show ¬ (false = true) by decide)] at H; exact H
      clear H
      have H := H1
      clear H1
      obtain ⟨y167, hy167⟩ : ∃ y_ : List Int, y_ = (([1] : List Int)) := ⟨_, rfl⟩
      replace H : ((thalwegref01_Int.f k a0_1).bind fun t170 => ((thalwegref01_Int.f k a0_4).bind fun t176 => ((thalwegref01_Both.f k (([y167, t170, (([(a0_2) % 256, (a0_3) % 256] : List Int)), t176, (([(a0_5) % 256] : List Int))] : List (List Int)))).bind fun t185 => (some (t185, 0))))) = some (r1, r2) := by first | (rw [hy167]; with_reducible exact H) | (have H2_ := (Option.bind_some _ _).symm.trans H; rw [hy167]; with_reducible exact H2_) | (have H2_ := (Option.bind_some _ _).symm.trans H; with_reducible exact H2_) | with_reducible exact H | (rw [hy167]; exact H) | exact H
      have Ny167 := Aside0.mk hy167
      clear hy167
      replace H := Option.bind_eq_some_iff.mp H
      obtain ⟨t170, A110, H⟩ := H
      replace H : ((thalwegref01_Int.f k a0_4).bind fun t176 => ((thalwegref01_Both.f k (([y167, t170, (([(a0_2) % 256, (a0_3) % 256] : List Int)), t176, (([(a0_5) % 256] : List Int))] : List (List Int)))).bind fun t185 => (some (t185, 0)))) = some (r1, r2) := H
      have A11 := Aside0.mk A110
      clear A110
      obtain ⟨y173, hy173⟩ : ∃ y_ : List Int, y_ = (([(a0_2) % 256, (a0_3) % 256] : List Int)) := ⟨_, rfl⟩
      replace H : ((thalwegref01_Int.f k a0_4).bind fun t176 => ((thalwegref01_Both.f k (([y167, t170, y173, t176, (([(a0_5) % 256] : List Int))] : List (List Int)))).bind fun t185 => (some (t185, 0)))) = some (r1, r2) := by first | (rw [hy173]; with_reducible exact H) | (have H2_ := (Option.bind_some _ _).symm.trans H; rw [hy173]; with_reducible exact H2_) | (have H2_ := (Option.bind_some _ _).symm.trans H; with_reducible exact H2_) | with_reducible exact H | (rw [hy173]; exact H) | exact H
      have Ny173 := Aside0.mk hy173
      clear hy173
      replace H := Option.bind_eq_some_iff.mp H
      obtain ⟨t176, A120, H⟩ := H
      replace H : ((thalwegref01_Both.f k (([y167, t170, y173, t176, (([(a0_5) % 256] : List Int))] : List (List Int)))).bind fun t185 => (some (t185, 0))) = some (r1, r2) := H
      have A12 := Aside0.mk A120
      clear A120
      obtain ⟨y179, hy179⟩ : ∃ y_ : List Int, y_ = (([(a0_5) % 256] : List Int)) := ⟨_, rfl⟩
      replace H : ((thalwegref01_Both.f k (([y167, t170, y173, t176, y179] : List (List Int)))).bind fun t185 => (some (t185, 0))) = some (r1, r2) := by first | (rw [hy179]; with_reducible exact H) | (have H2_ := (Option.bind_some _ _).symm.trans H; rw [hy179]; with_reducible exact H2_) | (have H2_ := (Option.bind_some _ _).symm.trans H; with_reducible exact H2_) | with_reducible exact H | (rw [hy179]; exact H) | exact H
      have Ny179 := Aside0.mk hy179
      clear hy179
      obtain ⟨y182, hy182⟩ : ∃ y_ : List (List Int), y_ = (([y167, t170, y173, t176, y179] : List (List Int))) := ⟨_, rfl⟩
      replace H : ((thalwegref01_Both.f k y182).bind fun t185 => (some (t185, 0))) = some (r1, r2) := by first | (rw [hy182]; with_reducible exact H) | (have H2_ := (Option.bind_some _ _).symm.trans H; rw [hy182]; with_reducible exact H2_) | (have H2_ := (Option.bind_some _ _).symm.trans H; with_reducible exact H2_) | with_reducible exact H | (rw [hy182]; exact H) | exact H
      have Ny182 := Aside0.mk hy182
      clear hy182
      replace H := Option.bind_eq_some_iff.mp H
      obtain ⟨t185, A130, H⟩ := H
      replace H : (some (t185, 0)) = some (r1, r2) := H
      have A13 := Aside0.mk A130
      clear A130
      simp only [Option.some.injEq, Prod.mk.injEq] at H
      obtain ⟨rfl, rfl⟩ := H
      go_enter Try.func11, Try.ntmps11
      try go_wp2_with (first | ((with_reducible refine gate_dst (N := 1) rfl ?_); refine box_event ?hg (N := 1) ?hd (cs := #[.bool false, .int .i64 a0_1, .int .i64 a0_2, .int .i64 a0_3, .int .i64 a0_4, .int .i64 a0_5]) (t := 23) ?hr ?_; (case hd => rfl); (case hg => rfl); (case hr => first | (go_simp; done) | (go_simp; rfl)); intro gb162 hg w14 hbox hb; have n0_ := Aside0.mk (YD (by repeat (first | (with_reducible first | exact HB.out | apply YA | apply YB | apply YC) | exact HB.out)) hb); have n1_ := Aside0.mk (hbox); have n2_ := Aside0.mk ((by rw [hg]; exact (YE (by repeat (first | (with_reducible first | exact HB.out | apply YA | apply YB | apply YC) | exact HB.out))) : w.heap.size ≤ gb162)); have n3_ := Aside0.mk ((by rw [hg]; exact (YE (by repeat (first | (with_reducible first | exact HB.out | apply YA | apply YB | apply YC) | exact HB.out))) : w.heap.size ≤ gb162)); clear HB; have HB := n0_; have BK162 := n1_; have GW162 := n2_; have GE162 := n3_; clear n0_ n1_ n2_ n3_; clear hb hbox hg; have hcz15_0 : w14.cell? ⟨gb162, 0, none⟩ = some (.bool false) := (YI BK162.out 0).trans rfl; have hcz15_1 : w14.cell? ⟨gb162, 1, none⟩ = some (.int .i64 a0_1) := (YI BK162.out 1).trans rfl; have hcz15_2 : w14.cell? ⟨gb162, 2, none⟩ = some (.int .i64 a0_2) := (YI BK162.out 2).trans rfl; have hcz15_3 : w14.cell? ⟨gb162, 3, none⟩ = some (.int .i64 a0_3) := (YI BK162.out 3).trans rfl; have hcz15_4 : w14.cell? ⟨gb162, 4, none⟩ = some (.int .i64 a0_4) := (YI BK162.out 4).trans rfl; have hcz15_5 : w14.cell? ⟨gb162, 5, none⟩ = some (.int .i64 a0_5) := (YI BK162.out 5).trans rfl; have hfz15_0 := YJ BK162.out 0; have hfz15_1 := YJ BK162.out 1; have hfz15_2 := YJ BK162.out 2; have hfz15_3 := YJ BK162.out 3; have hfz15_4 := YJ BK162.out 4; have hfz15_5 := YJ BK162.out 5) | ((with_reducible refine gate_callee (f := 13) rfl ?_); refine goesL_ (some 5) rfl rfl Try.func13 (by kernel_rfl) rfl #[.agg #[.bool false, .int .i64 a0_1, .int .i64 a0_2, .int .i64 a0_3, .int .i64 a0_4, .int .i64 a0_5]] rfl (by (try simp only [YO, List.map_cons, List.map_nil]); first | done | rfl | (simp only [List.length_drop, List.length_take]; rfl)) ?_; (with_reducible refine (thalwegref02_Right.calls k false a0_1 a0_2 a0_3 a0_4 a0_5 true _ A2.out).mono ?_); rintro e w16 ⟨rfl, hb⟩; refine ⟨_, rfl, ?_⟩; have n0_ := Aside0.mk (YK (g := gb162) (o := .cells #[.bool false, .int .i64 a0_1, .int .i64 a0_2, .int .i64 a0_3, .int .i64 a0_4, .int .i64 a0_5] 23 (0, 0)) (by (with_reducible repeat (first | refine YF ?_ _ | refine YG ?_ | refine YH ?_ _)); exact BK162.out) hb); have n1_ := Aside0.mk (YD (by repeat (first | (with_reducible first | exact HB.out | apply YA | apply YB | apply YC | refine below_set ?_ GE162.out) | exact HB.out)) hb); clear BK162; clear HB; have BK162 := n0_; have HB := n1_; clear n0_ n1_; (try clear hb); (try clear hb2); (try clear hk); (try clear hi); have hcz17_0 : w16.cell? ⟨gb162, 0, none⟩ = some (.bool false) := (YI BK162.out 0).trans rfl; have hcz17_1 : w16.cell? ⟨gb162, 1, none⟩ = some (.int .i64 a0_1) := (YI BK162.out 1).trans rfl; have hcz17_2 : w16.cell? ⟨gb162, 2, none⟩ = some (.int .i64 a0_2) := (YI BK162.out 2).trans rfl; have hcz17_3 : w16.cell? ⟨gb162, 3, none⟩ = some (.int .i64 a0_3) := (YI BK162.out 3).trans rfl; have hcz17_4 : w16.cell? ⟨gb162, 4, none⟩ = some (.int .i64 a0_4) := (YI BK162.out 4).trans rfl; have hcz17_5 : w16.cell? ⟨gb162, 5, none⟩ = some (.int .i64 a0_5) := (YI BK162.out 5).trans rfl; have hfz17_0 := YJ BK162.out 0; have hfz17_1 := YJ BK162.out 1; have hfz17_2 := YJ BK162.out 2; have hfz17_3 := YJ BK162.out 3; have hfz17_4 := YJ BK162.out 4; have hfz17_5 := YJ BK162.out 5))
      have n0_ := Aside0.mk (YG BK162.out)
      have n1_ := Aside0.mk (YC HB.out)
      clear BK162
      clear HB
      have BK162 := n0_
      have HB := n1_
      clear n0_ n1_
      refine start_ (n := 22) (S := fun w' => True) (ds := []) #[false, false, false, false, false, false, false, false, false, false, false, false, false, false, false, false, false, false, false, false, false, false] (by kernel_rfl) rfl rfl trivial (fun hHeld => ?_); refine with_tabW thalwegref02_Bytes.tab5 thalwegref02_Bytes.bits5 (fun HT_ HW_ => ?_)
      generalize w16.drew = w18 at BK162 HB hHeld ⊢
      refine pure_ (i := 1) (N := some 14) (v := ?_) (a' := ?_) #[false, true, false, false, false, false, false, false, false, false, false, false, false, false, false, false, false, false, false, false, false, false] rfl rfl (any_of HT_.out (by kernel_rfl)) (fun _ _ _ h => h) (Or.inl ⟨by rfl, ?_⟩) ?_ ?_
      rotate_left
      · intro w'
        go_simp
        with_reducible rfl
      rotate_left
      · simp only [Act.put, YL, YM, YN, i64_w, i32_w]
        rfl
      refine pure_ (i := 4) (N := some 17) (v := ?_) (a' := ?_) #[false, true, false, false, true, false, false, false, false, false, false, false, false, false, false, false, false, false, false, false, false, false] rfl rfl (any_of HT_.out (by kernel_rfl)) (fun _ _ _ h => h) (Or.inl ⟨by rfl, ?_⟩) ?_ ?_
      rotate_left
      · intro w'
        go_simp
        with_reducible rfl
      rotate_left
      · simp only [Act.put, YL, YM, YN, i64_w, i32_w]
        rfl
      refine pure_ (i := 7) (N := some 20) (v := ?_) (a' := ?_) #[false, true, false, false, true, false, false, true, false, false, false, false, false, false, false, false, false, false, false, false, false, false] rfl rfl (any_of HT_.out (by kernel_rfl)) (fun _ _ _ h => h) (Or.inl ⟨by rfl, ?_⟩) ?_ ?_
      rotate_left
      · intro w'
        go_simp
        with_reducible rfl
      rotate_left
      · simp only [Act.put, YL, YM, YN, i64_w, i32_w]
        rfl
      refine pure_ (i := 11) (N := some 24) (v := ?_) (a' := ?_) #[false, true, false, false, true, false, false, true, false, false, false, true, false, false, false, false, false, false, false, false, false, false] rfl rfl (any_of HT_.out (by kernel_rfl)) (fun _ _ _ h => h) (Or.inl ⟨by rfl, ?_⟩) ?_ ?_
      rotate_left
      · intro w'
        go_simp
        with_reducible rfl
      rotate_left
      · simp only [Act.put, YL, YM, YN, i64_w, i32_w]
        rfl
      refine pure_ (i := 14) (N := some 27) (v := ?_) (a' := ?_) #[false, true, false, false, true, false, false, true, false, false, false, true, false, false, true, false, false, false, false, false, false, false] rfl rfl (any_of HT_.out (by kernel_rfl)) (fun _ _ _ h => h) (Or.inl ⟨by rfl, ?_⟩) ?_ ?_
      rotate_left
      · intro w'
        go_simp
        with_reducible rfl
      rotate_left
      · simp only [Act.put, YL, YM, YN, i64_w, i32_w]
        rfl
      refine inv_at [0, 2, 3, 5, 6, 8, 9, 10, 12, 13, 15, 16, 17, 18, 19, 20, 21] (fun a0_ b a w' => ∃ (v168 : Value) (v171 : Value) (v174 : Value) (v177 : Value) (v180 : Value) (v183 : Value) (v186 : Value) (m20_ : Value), a = putSel a0_ b [(0, 13, v168), (2, 15, .int .i64 a0_1), (3, 16, v171), (5, 18, .int .i64 a0_2), (6, 19, .int .u8 ((a0_2) % 256)), (8, 21, .int .i64 a0_3), (9, 22, .int .u8 ((a0_3) % 256)), (10, 23, v174), (12, 25, .int .i64 a0_4), (13, 26, v177), (15, 28, .int .i64 a0_5), (16, 29, .int .u8 ((a0_5) % 256)), (17, 30, v180), (18, 31, v183), (19, 32, v186), (20, 2, m20_), (21, 3, .int .i64 0)] ∧ (w'.heap[gb162]? = some (.cells #[.bool false, .int .i64 a0_1, .int .i64 a0_2, .int .i64 a0_3, .int .i64 a0_4, .int .i64 a0_5] 23 (0, 0))) ∧ (Below w.heap.size w w') ∧ (b 0 = true → b 18 = false → Kd.R (Kd.int .u8) 5 w' w.heap.size (fun _ => True) v168 y167) ∧ (b 3 = true → b 18 = false → Kd.R (Kd.int .u8) 5 w' w.heap.size (fun _ => True) v171 t170) ∧ (b 10 = true → b 18 = false → Kd.R (Kd.int .u8) 5 w' w.heap.size (fun _ => True) v174 y173) ∧ (b 13 = true → b 18 = false → Kd.R (Kd.int .u8) 5 w' w.heap.size (fun _ => True) v177 t176) ∧ (b 17 = true → b 18 = false → Kd.R (Kd.int .u8) 5 w' w.heap.size (fun _ => True) v180 y179) ∧ (b 18 = true → Kd.N (Kd.slice 5 (Kd.int .u8)) 29 w' w.heap.size (fun k_ => k_ ≠ gb162) v183 y182) ∧ (b 19 = true → Kd.R (Kd.int .u8) 5 w' w.heap.size (fun _ => True) v186 t185) ∧ (b 20 = true → (m20_ : Value) = v186)) HT_.out HW_.out (by kernel_rfl) (by kernel_rfl) ?_ ?_ ?_
      · exact ⟨.bool false, .bool false, .bool false, .bool false, .bool false, .bool false, .bool false, .bool false, by simp only [putSel, Bool.false_eq_true, if_false], BK162.out, HB.out, fun h_ => absurd h_ (by decide), fun h_ => absurd h_ (by decide), fun h_ => absurd h_ (by decide), fun h_ => absurd h_ (by decide), fun h_ => absurd h_ (by decide), fun h_ => absurd h_ (by decide), fun h_ => absurd h_ (by decide), fun h_ => absurd h_ (by decide)⟩
      · skip
        clear BK162 HB
        refine steps_cons ?_ ?_
        · rintro b a w' ⟨v168, v171, v174, v177, v180, v183, v186, m20_, ha, Q_BK162, Q_HB, Q_HO169, Q_HO172, Q_HO175, Q_HO178, Q_HO181, Q_HO184, Q_HO187, Q_X20_⟩ hb_ hon hoff
          refine ⟨_, rfl, fun K hK => ?_⟩
          replace ha := Aside0.mk ha
          have BK162 := Aside0.mk Q_BK162
          have HB := Aside0.mk Q_HB
          refine Kd.R_lit_step (Kd.int .u8) _ 5 ?hg (N := 13) ?hd (xs := ([1] : List Int)) (inner := [.int .u8 1]) (ok := fun _ => True) (okp := fun _ => True) ?hr ?hp (fun _ hk => hk) trivial (Below.refl _ _) (Nat.le_refl _) (by simp) ?_; (case hd => rfl); (case hg => rfl); (case hr => first | (go_simp; done) | (go_simp; rfl)); (case hp => exact (Reps.one (show Kd.M (Kd.int .u8) _ _ _ 1 [.int .u8 1] from rfl) (Reps.none _ _)))
          intro v168 w19 ho20 hb hg_ hnew_
          clear hg_ hnew_
          (first | rw [← Ny167.out] at ho20 | (simp only [Int.reduceToNat] at ho20; rw [← Ny167.out] at ho20))
          have n0_ := Aside0.mk (Kd.R_lower ho20 (YE (by repeat (first | (with_reducible first | exact HB.out | apply YA | apply YB | apply YC | refine below_set ?_ GE162.out) | exact HB.out))))
          have n1_ := Aside0.mk (YK (g := gb162) (o := .cells #[.bool false, .int .i64 a0_1, .int .i64 a0_2, .int .i64 a0_3, .int .i64 a0_4, .int .i64 a0_5] 23 (0, 0)) (by (with_reducible repeat (first | refine YF ?_ _ | refine YG ?_ | refine YH ?_ _)); exact BK162.out) hb)
          have n2_ := Aside0.mk (YD (by repeat (first | (with_reducible first | exact HB.out | apply YA | apply YB | apply YC | refine below_set ?_ GE162.out) | exact HB.out)) hb)
          have z_HO172 := fun (h0_ : b 3 = true) (h1_ : b 18 = false) => (show Kd.R (Kd.int .u8) 5 w19 w.heap.size (fun _ => True) v171 t170 from by first | exact (Kd.R_elder' (by (with_reducible repeat (first | apply YP | apply YQ | apply YR)); exact (Q_HO172 h0_ h1_)) (Kd.R_base ho20) hb) | exact Kd.R_mono (Kd.R_elder' (by (with_reducible repeat (first | apply YP | apply YQ | apply YR)); exact (Q_HO172 h0_ h1_)) (Kd.R_base ho20) hb) (fun _ h_ => by first | trivial | exact h_ | exact h_.1))
          have z_HO175 := fun (h0_ : b 10 = true) (h1_ : b 18 = false) => (show Kd.R (Kd.int .u8) 5 w19 w.heap.size (fun _ => True) v174 y173 from by first | exact (Kd.R_elder' (by (with_reducible repeat (first | apply YP | apply YQ | apply YR)); exact (Q_HO175 h0_ h1_)) (Kd.R_base ho20) hb) | exact Kd.R_mono (Kd.R_elder' (by (with_reducible repeat (first | apply YP | apply YQ | apply YR)); exact (Q_HO175 h0_ h1_)) (Kd.R_base ho20) hb) (fun _ h_ => by first | trivial | exact h_ | exact h_.1))
          have z_HO178 := fun (h0_ : b 13 = true) (h1_ : b 18 = false) => (show Kd.R (Kd.int .u8) 5 w19 w.heap.size (fun _ => True) v177 t176 from by first | exact (Kd.R_elder' (by (with_reducible repeat (first | apply YP | apply YQ | apply YR)); exact (Q_HO178 h0_ h1_)) (Kd.R_base ho20) hb) | exact Kd.R_mono (Kd.R_elder' (by (with_reducible repeat (first | apply YP | apply YQ | apply YR)); exact (Q_HO178 h0_ h1_)) (Kd.R_base ho20) hb) (fun _ h_ => by first | trivial | exact h_ | exact h_.1))
          have z_HO181 := fun (h0_ : b 17 = true) (h1_ : b 18 = false) => (show Kd.R (Kd.int .u8) 5 w19 w.heap.size (fun _ => True) v180 y179 from by first | exact (Kd.R_elder' (by (with_reducible repeat (first | apply YP | apply YQ | apply YR)); exact (Q_HO181 h0_ h1_)) (Kd.R_base ho20) hb) | exact Kd.R_mono (Kd.R_elder' (by (with_reducible repeat (first | apply YP | apply YQ | apply YR)); exact (Q_HO181 h0_ h1_)) (Kd.R_base ho20) hb) (fun _ h_ => by first | trivial | exact h_ | exact h_.1))
          clear BK162
          clear HB
          have HO169 := n0_
          have BK162 := n1_
          have HB := n2_
          clear n0_ n1_ n2_
          clear hb ho20
          refine hK.out _ _ ⟨v168, v171, v174, v177, v180, v183, v186, m20_, (by rw [ha.out]; exact putSel_upk 0 hb_ rfl rfl rfl), (by (with_reducible repeat (first | refine YF ?_ _ | refine YG ?_ | refine YH ?_ _)); exact BK162.out), (by repeat (first | (with_reducible first | exact HB.out | apply YA | apply YB | apply YC | refine below_set ?_ GE162.out) | exact HB.out)), fun _ _ => (by (with_reducible repeat (first | apply YP | apply YQ | apply YR)); exact HO169.out), z_HO172, z_HO175, z_HO178, z_HO181, fun h0_ => absurd ((hoff 18 (by kernel_rfl)).symm.trans h0_) (by decide), fun h0_ => absurd ((hoff 19 (by kernel_rfl)).symm.trans h0_) (by decide), fun h0_ => absurd ((hoff 20 (by kernel_rfl)).symm.trans h0_) (by decide)⟩
        refine steps_cons ?_ ?_
        · rintro b a w' ⟨v168, v171, v174, v177, v180, v183, v186, m20_, ha, Q_BK162, Q_HB, Q_HO169, Q_HO172, Q_HO175, Q_HO178, Q_HO181, Q_HO184, Q_HO187, Q_X20_⟩ hb_ hon hoff
          refine ⟨_, rfl, fun K hK => ?_⟩
          have e14 : a.tmps[14]? = some (.pointer (some ⟨gb162, 1, none⟩)) := by rw [ha]; exact (putSel_off rfl).trans rfl
          replace ha := Aside0.mk ha
          have BK162 := Aside0.mk Q_BK162
          have HB := Aside0.mk Q_HB
          have hc0_ : w'.cell? ⟨gb162, 0, none⟩ = some (.bool false) := (YI BK162.out 0).trans rfl
          have hc1_ : w'.cell? ⟨gb162, 1, none⟩ = some (.int .i64 a0_1) := (YI BK162.out 1).trans rfl
          have hc2_ : w'.cell? ⟨gb162, 2, none⟩ = some (.int .i64 a0_2) := (YI BK162.out 2).trans rfl
          have hc3_ : w'.cell? ⟨gb162, 3, none⟩ = some (.int .i64 a0_3) := (YI BK162.out 3).trans rfl
          have hc4_ : w'.cell? ⟨gb162, 4, none⟩ = some (.int .i64 a0_4) := (YI BK162.out 4).trans rfl
          have hc5_ : w'.cell? ⟨gb162, 5, none⟩ = some (.int .i64 a0_5) := (YI BK162.out 5).trans rfl
          refine value_ (w1 := w') (v := .int .i64 a0_1) (by rfl) rfl ?_ ?_
          · go_simp
            (try simp only [i64_w])
            try rfl
          refine hK.out _ _ ⟨v168, v171, v174, v177, v180, v183, v186, m20_, (by rw [ha.out]; exact putSel_upk 1 hb_ rfl rfl rfl), Q_BK162, Q_HB, Q_HO169, fun h0_ _ => absurd ((hoff 3 (by kernel_rfl)).symm.trans h0_) (by decide), Q_HO175, fun h0_ _ => absurd ((hoff 13 (by kernel_rfl)).symm.trans h0_) (by decide), Q_HO181, fun h0_ => absurd ((hoff 18 (by kernel_rfl)).symm.trans h0_) (by decide), fun h0_ => absurd ((hoff 19 (by kernel_rfl)).symm.trans h0_) (by decide), fun h0_ => absurd ((hoff 20 (by kernel_rfl)).symm.trans h0_) (by decide)⟩
        refine steps_cons ?_ ?_
        · rintro b a w' ⟨v168, v171, v174, v177, v180, v183, v186, m20_, ha, Q_BK162, Q_HB, Q_HO169, Q_HO172, Q_HO175, Q_HO178, Q_HO181, Q_HO184, Q_HO187, Q_X20_⟩ hb_ hon hoff
          refine ⟨_, rfl, fun K hK => ?_⟩
          have e15 : a.tmps[15]? = some (.int .i64 a0_1) := by rw [ha]; exact putSel_on (e := (2, 15, .int .i64 a0_1)) 1 rfl rfl (hon 2 (by kernel_rfl)) rfl
          replace ha := Aside0.mk ha
          have BK162 := Aside0.mk Q_BK162
          have HB := Aside0.mk Q_HB
          refine goes_ Try.func30 (by kernel_rfl) rfl #[.int .i64 a0_1] (by rfl) rfl rfl (by first | (simp only [YO, List.map_cons, List.map_nil, Act.eval, Array.getD_eq_getD_getElem?, Option.getD_some, e15]; done) | (simp only [YO, List.map_cons, List.map_nil, Act.eval, Array.getD_eq_getD_getElem?, Option.getD_some, e15]; rfl)) ?_
          with_reducible refine (thalwegref01_Int.calls k a0_1 t170 _ A11.out).mono ?_
          rintro e w19 ⟨v171, rfl, ho0, hb⟩
          refine ⟨_, rfl, ?_⟩
          have n0_ := Aside0.mk (Kd.R_lower ho0 (YE (by repeat (first | (with_reducible first | exact HB.out | apply YA | apply YB | apply YC | refine below_set ?_ GE162.out) | exact HB.out))))
          have n1_ := Aside0.mk (YK (g := gb162) (o := .cells #[.bool false, .int .i64 a0_1, .int .i64 a0_2, .int .i64 a0_3, .int .i64 a0_4, .int .i64 a0_5] 23 (0, 0)) (by (with_reducible repeat (first | refine YF ?_ _ | refine YG ?_ | refine YH ?_ _)); exact BK162.out) hb)
          have n2_ := Aside0.mk (YD (by repeat (first | (with_reducible first | exact HB.out | apply YA | apply YB | apply YC | refine below_set ?_ GE162.out) | exact HB.out)) hb)
          have z_HO169 := fun (h0_ : b 0 = true) (h1_ : b 18 = false) => (show Kd.R (Kd.int .u8) 5 w19 w.heap.size (fun _ => True) v168 y167 from by first | exact (Kd.R_elder' (by (with_reducible repeat (first | apply YP | apply YQ | apply YR)); exact (Q_HO169 h0_ h1_)) (Kd.R_base ho0) hb) | exact Kd.R_mono (Kd.R_elder' (by (with_reducible repeat (first | apply YP | apply YQ | apply YR)); exact (Q_HO169 h0_ h1_)) (Kd.R_base ho0) hb) (fun _ h_ => by first | trivial | exact h_ | exact h_.1))
          have z_HO175 := fun (h0_ : b 10 = true) (h1_ : b 18 = false) => (show Kd.R (Kd.int .u8) 5 w19 w.heap.size (fun _ => True) v174 y173 from by first | exact (Kd.R_elder' (by (with_reducible repeat (first | apply YP | apply YQ | apply YR)); exact (Q_HO175 h0_ h1_)) (Kd.R_base ho0) hb) | exact Kd.R_mono (Kd.R_elder' (by (with_reducible repeat (first | apply YP | apply YQ | apply YR)); exact (Q_HO175 h0_ h1_)) (Kd.R_base ho0) hb) (fun _ h_ => by first | trivial | exact h_ | exact h_.1))
          have z_HO181 := fun (h0_ : b 17 = true) (h1_ : b 18 = false) => (show Kd.R (Kd.int .u8) 5 w19 w.heap.size (fun _ => True) v180 y179 from by first | exact (Kd.R_elder' (by (with_reducible repeat (first | apply YP | apply YQ | apply YR)); exact (Q_HO181 h0_ h1_)) (Kd.R_base ho0) hb) | exact Kd.R_mono (Kd.R_elder' (by (with_reducible repeat (first | apply YP | apply YQ | apply YR)); exact (Q_HO181 h0_ h1_)) (Kd.R_base ho0) hb) (fun _ h_ => by first | trivial | exact h_ | exact h_.1))
          clear BK162
          clear HB
          have HO172 := n0_
          have BK162 := n1_
          have HB := n2_
          clear n0_ n1_ n2_
          (try clear hb)
          (try clear hb2)
          (try clear hk)
          (try clear hi)
          (try clear ho0)
          refine hK.out _ _ ⟨v168, v171, v174, v177, v180, v183, v186, m20_, (by rw [ha.out]; exact putSel_upk 2 hb_ rfl rfl rfl), (by (with_reducible repeat (first | refine YF ?_ _ | refine YG ?_ | refine YH ?_ _)); exact BK162.out), (by repeat (first | (with_reducible first | exact HB.out | apply YA | apply YB | apply YC | refine below_set ?_ GE162.out) | exact HB.out)), z_HO169, fun _ _ => (by (with_reducible repeat (first | apply YP | apply YQ | apply YR)); exact HO172.out), z_HO175, fun h0_ _ => absurd ((hoff 13 (by kernel_rfl)).symm.trans h0_) (by decide), z_HO181, fun h0_ => absurd ((hoff 18 (by kernel_rfl)).symm.trans h0_) (by decide), fun h0_ => absurd ((hoff 19 (by kernel_rfl)).symm.trans h0_) (by decide), fun h0_ => absurd ((hoff 20 (by kernel_rfl)).symm.trans h0_) (by decide)⟩
        refine steps_cons ?_ ?_
        · rintro b a w' ⟨v168, v171, v174, v177, v180, v183, v186, m20_, ha, Q_BK162, Q_HB, Q_HO169, Q_HO172, Q_HO175, Q_HO178, Q_HO181, Q_HO184, Q_HO187, Q_X20_⟩ hb_ hon hoff
          refine ⟨_, rfl, fun K hK => ?_⟩
          have e17 : a.tmps[17]? = some (.pointer (some ⟨gb162, 2, none⟩)) := by rw [ha]; exact (putSel_off rfl).trans rfl
          replace ha := Aside0.mk ha
          have BK162 := Aside0.mk Q_BK162
          have HB := Aside0.mk Q_HB
          have hc0_ : w'.cell? ⟨gb162, 0, none⟩ = some (.bool false) := (YI BK162.out 0).trans rfl
          have hc1_ : w'.cell? ⟨gb162, 1, none⟩ = some (.int .i64 a0_1) := (YI BK162.out 1).trans rfl
          have hc2_ : w'.cell? ⟨gb162, 2, none⟩ = some (.int .i64 a0_2) := (YI BK162.out 2).trans rfl
          have hc3_ : w'.cell? ⟨gb162, 3, none⟩ = some (.int .i64 a0_3) := (YI BK162.out 3).trans rfl
          have hc4_ : w'.cell? ⟨gb162, 4, none⟩ = some (.int .i64 a0_4) := (YI BK162.out 4).trans rfl
          have hc5_ : w'.cell? ⟨gb162, 5, none⟩ = some (.int .i64 a0_5) := (YI BK162.out 5).trans rfl
          refine value_ (w1 := w') (v := .int .i64 a0_2) (by rfl) rfl ?_ ?_
          · go_simp
            (try simp only [i64_w])
            try rfl
          refine hK.out _ _ ⟨v168, v171, v174, v177, v180, v183, v186, m20_, (by rw [ha.out]; exact putSel_upk 3 hb_ rfl rfl rfl), Q_BK162, Q_HB, Q_HO169, Q_HO172, fun h0_ _ => absurd ((hoff 10 (by kernel_rfl)).symm.trans h0_) (by decide), Q_HO178, Q_HO181, fun h0_ => absurd ((hoff 18 (by kernel_rfl)).symm.trans h0_) (by decide), fun h0_ => absurd ((hoff 19 (by kernel_rfl)).symm.trans h0_) (by decide), fun h0_ => absurd ((hoff 20 (by kernel_rfl)).symm.trans h0_) (by decide)⟩
        refine steps_cons ?_ ?_
        · rintro b a w' ⟨v168, v171, v174, v177, v180, v183, v186, m20_, ha, Q_BK162, Q_HB, Q_HO169, Q_HO172, Q_HO175, Q_HO178, Q_HO181, Q_HO184, Q_HO187, Q_X20_⟩ hb_ hon hoff
          refine ⟨_, rfl, fun K hK => ?_⟩
          have e18 : a.tmps[18]? = some (.int .i64 a0_2) := by rw [ha]; exact putSel_on (e := (5, 18, .int .i64 a0_2)) 3 rfl rfl (hon 5 (by kernel_rfl)) rfl
          replace ha := Aside0.mk ha
          have BK162 := Aside0.mk Q_BK162
          have HB := Aside0.mk Q_HB
          refine value_ (w1 := w') (v := .int .u8 ((a0_2) % 256)) (by rfl) rfl ?_ ?_
          · go_simp
            (try simp only [i64_w])
            try rfl
          refine hK.out _ _ ⟨v168, v171, v174, v177, v180, v183, v186, m20_, (by rw [ha.out]; exact putSel_upk 4 hb_ rfl rfl rfl), Q_BK162, Q_HB, Q_HO169, Q_HO172, fun h0_ _ => absurd ((hoff 10 (by kernel_rfl)).symm.trans h0_) (by decide), Q_HO178, Q_HO181, fun h0_ => absurd ((hoff 18 (by kernel_rfl)).symm.trans h0_) (by decide), fun h0_ => absurd ((hoff 19 (by kernel_rfl)).symm.trans h0_) (by decide), fun h0_ => absurd ((hoff 20 (by kernel_rfl)).symm.trans h0_) (by decide)⟩
        refine steps_cons ?_ ?_
        · rintro b a w' ⟨v168, v171, v174, v177, v180, v183, v186, m20_, ha, Q_BK162, Q_HB, Q_HO169, Q_HO172, Q_HO175, Q_HO178, Q_HO181, Q_HO184, Q_HO187, Q_X20_⟩ hb_ hon hoff
          refine ⟨_, rfl, fun K hK => ?_⟩
          have e20 : a.tmps[20]? = some (.pointer (some ⟨gb162, 3, none⟩)) := by rw [ha]; exact (putSel_off rfl).trans rfl
          replace ha := Aside0.mk ha
          have BK162 := Aside0.mk Q_BK162
          have HB := Aside0.mk Q_HB
          have hc0_ : w'.cell? ⟨gb162, 0, none⟩ = some (.bool false) := (YI BK162.out 0).trans rfl
          have hc1_ : w'.cell? ⟨gb162, 1, none⟩ = some (.int .i64 a0_1) := (YI BK162.out 1).trans rfl
          have hc2_ : w'.cell? ⟨gb162, 2, none⟩ = some (.int .i64 a0_2) := (YI BK162.out 2).trans rfl
          have hc3_ : w'.cell? ⟨gb162, 3, none⟩ = some (.int .i64 a0_3) := (YI BK162.out 3).trans rfl
          have hc4_ : w'.cell? ⟨gb162, 4, none⟩ = some (.int .i64 a0_4) := (YI BK162.out 4).trans rfl
          have hc5_ : w'.cell? ⟨gb162, 5, none⟩ = some (.int .i64 a0_5) := (YI BK162.out 5).trans rfl
          refine value_ (w1 := w') (v := .int .i64 a0_3) (by rfl) rfl ?_ ?_
          · go_simp
            (try simp only [i64_w])
            try rfl
          refine hK.out _ _ ⟨v168, v171, v174, v177, v180, v183, v186, m20_, (by rw [ha.out]; exact putSel_upk 5 hb_ rfl rfl rfl), Q_BK162, Q_HB, Q_HO169, Q_HO172, fun h0_ _ => absurd ((hoff 10 (by kernel_rfl)).symm.trans h0_) (by decide), Q_HO178, Q_HO181, fun h0_ => absurd ((hoff 18 (by kernel_rfl)).symm.trans h0_) (by decide), fun h0_ => absurd ((hoff 19 (by kernel_rfl)).symm.trans h0_) (by decide), fun h0_ => absurd ((hoff 20 (by kernel_rfl)).symm.trans h0_) (by decide)⟩
        refine steps_cons ?_ ?_
        · rintro b a w' ⟨v168, v171, v174, v177, v180, v183, v186, m20_, ha, Q_BK162, Q_HB, Q_HO169, Q_HO172, Q_HO175, Q_HO178, Q_HO181, Q_HO184, Q_HO187, Q_X20_⟩ hb_ hon hoff
          refine ⟨_, rfl, fun K hK => ?_⟩
          have e21 : a.tmps[21]? = some (.int .i64 a0_3) := by rw [ha]; exact putSel_on (e := (8, 21, .int .i64 a0_3)) 5 rfl rfl (hon 8 (by kernel_rfl)) rfl
          replace ha := Aside0.mk ha
          have BK162 := Aside0.mk Q_BK162
          have HB := Aside0.mk Q_HB
          refine value_ (w1 := w') (v := .int .u8 ((a0_3) % 256)) (by rfl) rfl ?_ ?_
          · go_simp
            (try simp only [i64_w])
            try rfl
          refine hK.out _ _ ⟨v168, v171, v174, v177, v180, v183, v186, m20_, (by rw [ha.out]; exact putSel_upk 6 hb_ rfl rfl rfl), Q_BK162, Q_HB, Q_HO169, Q_HO172, fun h0_ _ => absurd ((hoff 10 (by kernel_rfl)).symm.trans h0_) (by decide), Q_HO178, Q_HO181, fun h0_ => absurd ((hoff 18 (by kernel_rfl)).symm.trans h0_) (by decide), fun h0_ => absurd ((hoff 19 (by kernel_rfl)).symm.trans h0_) (by decide), fun h0_ => absurd ((hoff 20 (by kernel_rfl)).symm.trans h0_) (by decide)⟩
        refine steps_cons ?_ ?_
        · rintro b a w' ⟨v168, v171, v174, v177, v180, v183, v186, m20_, ha, Q_BK162, Q_HB, Q_HO169, Q_HO172, Q_HO175, Q_HO178, Q_HO181, Q_HO184, Q_HO187, Q_X20_⟩ hb_ hon hoff
          refine ⟨_, rfl, fun K hK => ?_⟩
          have e19 : a.tmps[19]? = some (.int .u8 ((a0_2) % 256)) := by rw [ha]; exact putSel_on (e := (6, 19, .int .u8 ((a0_2) % 256))) 4 rfl rfl (hon 6 (by kernel_rfl)) rfl
          have e22 : a.tmps[22]? = some (.int .u8 ((a0_3) % 256)) := by rw [ha]; exact putSel_on (e := (9, 22, .int .u8 ((a0_3) % 256))) 6 rfl rfl (hon 9 (by kernel_rfl)) rfl
          replace ha := Aside0.mk ha
          have BK162 := Aside0.mk Q_BK162
          have HB := Aside0.mk Q_HB
          refine Kd.R_lit_step (Kd.int .u8) _ 5 ?hg (N := 23) ?hd (xs := ([(a0_2) % 256, (a0_3) % 256] : List Int)) (inner := [.int .u8 ((a0_2) % 256), .int .u8 ((a0_3) % 256)]) (ok := fun _ => True) (okp := fun _ => True) ?hr ?hp (fun _ hk => hk) trivial (Below.refl _ _) (Nat.le_refl _) (by simp) ?_; (case hd => rfl); (case hg => rfl); (case hr => first | (go_simp; done) | (go_simp; rfl)); (case hp => exact (Reps.one (show Kd.M (Kd.int .u8) _ _ _ ((a0_2) % 256) [.int .u8 ((a0_2) % 256)] from rfl) (Reps.one (show Kd.M (Kd.int .u8) _ _ _ ((a0_3) % 256) [.int .u8 ((a0_3) % 256)] from rfl) (Reps.none _ _))))
          intro v174 w19 ho20 hb hg_ hnew_
          clear hg_ hnew_
          (first | rw [← Ny173.out] at ho20 | (simp only [Int.reduceToNat] at ho20; rw [← Ny173.out] at ho20))
          have n0_ := Aside0.mk (Kd.R_lower ho20 (YE (by repeat (first | (with_reducible first | exact HB.out | apply YA | apply YB | apply YC | refine below_set ?_ GE162.out) | exact HB.out))))
          have n1_ := Aside0.mk (YK (g := gb162) (o := .cells #[.bool false, .int .i64 a0_1, .int .i64 a0_2, .int .i64 a0_3, .int .i64 a0_4, .int .i64 a0_5] 23 (0, 0)) (by (with_reducible repeat (first | refine YF ?_ _ | refine YG ?_ | refine YH ?_ _)); exact BK162.out) hb)
          have n2_ := Aside0.mk (YD (by repeat (first | (with_reducible first | exact HB.out | apply YA | apply YB | apply YC | refine below_set ?_ GE162.out) | exact HB.out)) hb)
          have z_HO169 := fun (h0_ : b 0 = true) (h1_ : b 18 = false) => (show Kd.R (Kd.int .u8) 5 w19 w.heap.size (fun _ => True) v168 y167 from by first | exact (Kd.R_elder' (by (with_reducible repeat (first | apply YP | apply YQ | apply YR)); exact (Q_HO169 h0_ h1_)) (Kd.R_base ho20) hb) | exact Kd.R_mono (Kd.R_elder' (by (with_reducible repeat (first | apply YP | apply YQ | apply YR)); exact (Q_HO169 h0_ h1_)) (Kd.R_base ho20) hb) (fun _ h_ => by first | trivial | exact h_ | exact h_.1))
          have z_HO172 := fun (h0_ : b 3 = true) (h1_ : b 18 = false) => (show Kd.R (Kd.int .u8) 5 w19 w.heap.size (fun _ => True) v171 t170 from by first | exact (Kd.R_elder' (by (with_reducible repeat (first | apply YP | apply YQ | apply YR)); exact (Q_HO172 h0_ h1_)) (Kd.R_base ho20) hb) | exact Kd.R_mono (Kd.R_elder' (by (with_reducible repeat (first | apply YP | apply YQ | apply YR)); exact (Q_HO172 h0_ h1_)) (Kd.R_base ho20) hb) (fun _ h_ => by first | trivial | exact h_ | exact h_.1))
          have z_HO178 := fun (h0_ : b 13 = true) (h1_ : b 18 = false) => (show Kd.R (Kd.int .u8) 5 w19 w.heap.size (fun _ => True) v177 t176 from by first | exact (Kd.R_elder' (by (with_reducible repeat (first | apply YP | apply YQ | apply YR)); exact (Q_HO178 h0_ h1_)) (Kd.R_base ho20) hb) | exact Kd.R_mono (Kd.R_elder' (by (with_reducible repeat (first | apply YP | apply YQ | apply YR)); exact (Q_HO178 h0_ h1_)) (Kd.R_base ho20) hb) (fun _ h_ => by first | trivial | exact h_ | exact h_.1))
          have z_HO181 := fun (h0_ : b 17 = true) (h1_ : b 18 = false) => (show Kd.R (Kd.int .u8) 5 w19 w.heap.size (fun _ => True) v180 y179 from by first | exact (Kd.R_elder' (by (with_reducible repeat (first | apply YP | apply YQ | apply YR)); exact (Q_HO181 h0_ h1_)) (Kd.R_base ho20) hb) | exact Kd.R_mono (Kd.R_elder' (by (with_reducible repeat (first | apply YP | apply YQ | apply YR)); exact (Q_HO181 h0_ h1_)) (Kd.R_base ho20) hb) (fun _ h_ => by first | trivial | exact h_ | exact h_.1))
          clear BK162
          clear HB
          have HO175 := n0_
          have BK162 := n1_
          have HB := n2_
          clear n0_ n1_ n2_
          clear hb ho20
          refine hK.out _ _ ⟨v168, v171, v174, v177, v180, v183, v186, m20_, (by rw [ha.out]; exact putSel_upk 7 hb_ rfl rfl rfl), (by (with_reducible repeat (first | refine YF ?_ _ | refine YG ?_ | refine YH ?_ _)); exact BK162.out), (by repeat (first | (with_reducible first | exact HB.out | apply YA | apply YB | apply YC | refine below_set ?_ GE162.out) | exact HB.out)), z_HO169, z_HO172, fun _ _ => (by (with_reducible repeat (first | apply YP | apply YQ | apply YR)); exact HO175.out), z_HO178, z_HO181, fun h0_ => absurd ((hoff 18 (by kernel_rfl)).symm.trans h0_) (by decide), fun h0_ => absurd ((hoff 19 (by kernel_rfl)).symm.trans h0_) (by decide), fun h0_ => absurd ((hoff 20 (by kernel_rfl)).symm.trans h0_) (by decide)⟩
        refine steps_cons ?_ ?_
        · rintro b a w' ⟨v168, v171, v174, v177, v180, v183, v186, m20_, ha, Q_BK162, Q_HB, Q_HO169, Q_HO172, Q_HO175, Q_HO178, Q_HO181, Q_HO184, Q_HO187, Q_X20_⟩ hb_ hon hoff
          refine ⟨_, rfl, fun K hK => ?_⟩
          have e24 : a.tmps[24]? = some (.pointer (some ⟨gb162, 4, none⟩)) := by rw [ha]; exact (putSel_off rfl).trans rfl
          replace ha := Aside0.mk ha
          have BK162 := Aside0.mk Q_BK162
          have HB := Aside0.mk Q_HB
          have hc0_ : w'.cell? ⟨gb162, 0, none⟩ = some (.bool false) := (YI BK162.out 0).trans rfl
          have hc1_ : w'.cell? ⟨gb162, 1, none⟩ = some (.int .i64 a0_1) := (YI BK162.out 1).trans rfl
          have hc2_ : w'.cell? ⟨gb162, 2, none⟩ = some (.int .i64 a0_2) := (YI BK162.out 2).trans rfl
          have hc3_ : w'.cell? ⟨gb162, 3, none⟩ = some (.int .i64 a0_3) := (YI BK162.out 3).trans rfl
          have hc4_ : w'.cell? ⟨gb162, 4, none⟩ = some (.int .i64 a0_4) := (YI BK162.out 4).trans rfl
          have hc5_ : w'.cell? ⟨gb162, 5, none⟩ = some (.int .i64 a0_5) := (YI BK162.out 5).trans rfl
          refine value_ (w1 := w') (v := .int .i64 a0_4) (by rfl) rfl ?_ ?_
          · go_simp
            (try simp only [i64_w])
            try rfl
          refine hK.out _ _ ⟨v168, v171, v174, v177, v180, v183, v186, m20_, (by rw [ha.out]; exact putSel_upk 8 hb_ rfl rfl rfl), Q_BK162, Q_HB, Q_HO169, Q_HO172, Q_HO175, fun h0_ _ => absurd ((hoff 13 (by kernel_rfl)).symm.trans h0_) (by decide), Q_HO181, fun h0_ => absurd ((hoff 18 (by kernel_rfl)).symm.trans h0_) (by decide), fun h0_ => absurd ((hoff 19 (by kernel_rfl)).symm.trans h0_) (by decide), fun h0_ => absurd ((hoff 20 (by kernel_rfl)).symm.trans h0_) (by decide)⟩
        refine steps_cons ?_ ?_
        · rintro b a w' ⟨v168, v171, v174, v177, v180, v183, v186, m20_, ha, Q_BK162, Q_HB, Q_HO169, Q_HO172, Q_HO175, Q_HO178, Q_HO181, Q_HO184, Q_HO187, Q_X20_⟩ hb_ hon hoff
          refine ⟨_, rfl, fun K hK => ?_⟩
          have e25 : a.tmps[25]? = some (.int .i64 a0_4) := by rw [ha]; exact putSel_on (e := (12, 25, .int .i64 a0_4)) 8 rfl rfl (hon 12 (by kernel_rfl)) rfl
          replace ha := Aside0.mk ha
          have BK162 := Aside0.mk Q_BK162
          have HB := Aside0.mk Q_HB
          have HO172 := Aside0.mk (Q_HO172 (hon 3 (by kernel_rfl)) (hoff 18 (by kernel_rfl)))
          refine goes_ Try.func30 (by kernel_rfl) rfl #[.int .i64 a0_4] (by rfl) rfl rfl (by first | (simp only [YO, List.map_cons, List.map_nil, Act.eval, Array.getD_eq_getD_getElem?, Option.getD_some, e25]; done) | (simp only [YO, List.map_cons, List.map_nil, Act.eval, Array.getD_eq_getD_getElem?, Option.getD_some, e25]; rfl)) ?_
          with_reducible refine (thalwegref01_Int.calls k a0_4 t176 _ A12.out).mono ?_
          rintro e w21 ⟨v177, rfl, ho0, hb⟩
          refine ⟨_, rfl, ?_⟩
          have n0_ := Aside0.mk (Kd.R_elder' (by (with_reducible repeat (first | apply YP | apply YQ | apply YR)); exact HO172.out) (Kd.R_base ho0) hb)
          have n1_ := Aside0.mk (Kd.R_lower (Kd.R_new' ho0 (Kd.R_lt (by (with_reducible repeat (first | apply YP | apply YQ | apply YR)); exact HO172.out))) (YE (by repeat (first | (with_reducible first | exact HB.out | apply YA | apply YB | apply YC | refine below_set ?_ GE162.out) | exact HB.out))))
          have n2_ := Aside0.mk (YK (g := gb162) (o := .cells #[.bool false, .int .i64 a0_1, .int .i64 a0_2, .int .i64 a0_3, .int .i64 a0_4, .int .i64 a0_5] 23 (0, 0)) (by (with_reducible repeat (first | refine YF ?_ _ | refine YG ?_ | refine YH ?_ _)); exact BK162.out) hb)
          have n3_ := Aside0.mk (YD (by repeat (first | (with_reducible first | exact HB.out | apply YA | apply YB | apply YC | refine below_set ?_ GE162.out) | exact HB.out)) hb)
          have z_HO169 := fun (h0_ : b 0 = true) (h1_ : b 18 = false) => (show Kd.R (Kd.int .u8) 5 w21 w.heap.size (fun _ => True) v168 y167 from by first | exact (Kd.R_elder' (by (with_reducible repeat (first | apply YP | apply YQ | apply YR)); exact (Q_HO169 h0_ h1_)) (Kd.R_base ho0) hb) | exact Kd.R_mono (Kd.R_elder' (by (with_reducible repeat (first | apply YP | apply YQ | apply YR)); exact (Q_HO169 h0_ h1_)) (Kd.R_base ho0) hb) (fun _ h_ => by first | trivial | exact h_ | exact h_.1))
          have z_HO175 := fun (h0_ : b 10 = true) (h1_ : b 18 = false) => (show Kd.R (Kd.int .u8) 5 w21 w.heap.size (fun _ => True) v174 y173 from by first | exact (Kd.R_elder' (by (with_reducible repeat (first | apply YP | apply YQ | apply YR)); exact (Q_HO175 h0_ h1_)) (Kd.R_base ho0) hb) | exact Kd.R_mono (Kd.R_elder' (by (with_reducible repeat (first | apply YP | apply YQ | apply YR)); exact (Q_HO175 h0_ h1_)) (Kd.R_base ho0) hb) (fun _ h_ => by first | trivial | exact h_ | exact h_.1))
          have z_HO181 := fun (h0_ : b 17 = true) (h1_ : b 18 = false) => (show Kd.R (Kd.int .u8) 5 w21 w.heap.size (fun _ => True) v180 y179 from by first | exact (Kd.R_elder' (by (with_reducible repeat (first | apply YP | apply YQ | apply YR)); exact (Q_HO181 h0_ h1_)) (Kd.R_base ho0) hb) | exact Kd.R_mono (Kd.R_elder' (by (with_reducible repeat (first | apply YP | apply YQ | apply YR)); exact (Q_HO181 h0_ h1_)) (Kd.R_base ho0) hb) (fun _ h_ => by first | trivial | exact h_ | exact h_.1))
          clear HO172
          clear BK162
          clear HB
          have HO172 := n0_
          have HO178 := n1_
          have BK162 := n2_
          have HB := n3_
          clear n0_ n1_ n2_ n3_
          (try clear hb)
          (try clear hb2)
          (try clear hk)
          (try clear hi)
          (try clear ho0)
          refine hK.out _ _ ⟨v168, v171, v174, v177, v180, v183, v186, m20_, (by rw [ha.out]; exact putSel_upk 9 hb_ rfl rfl rfl), (by (with_reducible repeat (first | refine YF ?_ _ | refine YG ?_ | refine YH ?_ _)); exact BK162.out), (by repeat (first | (with_reducible first | exact HB.out | apply YA | apply YB | apply YC | refine below_set ?_ GE162.out) | exact HB.out)), z_HO169, fun _ _ => (by (with_reducible repeat (first | apply YP | apply YQ | apply YR)); exact Kd.R_mono HO172.out (fun _ hk => by first | exact hk.2 | exact trivial | simp_all)), z_HO175, fun _ _ => (by (with_reducible repeat (first | apply YP | apply YQ | apply YR)); exact Kd.R_mono HO178.out (fun _ hk => by first | exact hk.2 | exact trivial | simp_all)), z_HO181, fun h0_ => absurd ((hoff 18 (by kernel_rfl)).symm.trans h0_) (by decide), fun h0_ => absurd ((hoff 19 (by kernel_rfl)).symm.trans h0_) (by decide), fun h0_ => absurd ((hoff 20 (by kernel_rfl)).symm.trans h0_) (by decide)⟩
        refine steps_cons ?_ ?_
        · rintro b a w' ⟨v168, v171, v174, v177, v180, v183, v186, m20_, ha, Q_BK162, Q_HB, Q_HO169, Q_HO172, Q_HO175, Q_HO178, Q_HO181, Q_HO184, Q_HO187, Q_X20_⟩ hb_ hon hoff
          refine ⟨_, rfl, fun K hK => ?_⟩
          have e27 : a.tmps[27]? = some (.pointer (some ⟨gb162, 5, none⟩)) := by rw [ha]; exact (putSel_off rfl).trans rfl
          replace ha := Aside0.mk ha
          have BK162 := Aside0.mk Q_BK162
          have HB := Aside0.mk Q_HB
          have hc0_ : w'.cell? ⟨gb162, 0, none⟩ = some (.bool false) := (YI BK162.out 0).trans rfl
          have hc1_ : w'.cell? ⟨gb162, 1, none⟩ = some (.int .i64 a0_1) := (YI BK162.out 1).trans rfl
          have hc2_ : w'.cell? ⟨gb162, 2, none⟩ = some (.int .i64 a0_2) := (YI BK162.out 2).trans rfl
          have hc3_ : w'.cell? ⟨gb162, 3, none⟩ = some (.int .i64 a0_3) := (YI BK162.out 3).trans rfl
          have hc4_ : w'.cell? ⟨gb162, 4, none⟩ = some (.int .i64 a0_4) := (YI BK162.out 4).trans rfl
          have hc5_ : w'.cell? ⟨gb162, 5, none⟩ = some (.int .i64 a0_5) := (YI BK162.out 5).trans rfl
          refine value_ (w1 := w') (v := .int .i64 a0_5) (by rfl) rfl ?_ ?_
          · go_simp
            (try simp only [i64_w])
            try rfl
          refine hK.out _ _ ⟨v168, v171, v174, v177, v180, v183, v186, m20_, (by rw [ha.out]; exact putSel_upk 10 hb_ rfl rfl rfl), Q_BK162, Q_HB, Q_HO169, Q_HO172, Q_HO175, Q_HO178, fun h0_ _ => absurd ((hoff 17 (by kernel_rfl)).symm.trans h0_) (by decide), fun h0_ => absurd ((hoff 18 (by kernel_rfl)).symm.trans h0_) (by decide), fun h0_ => absurd ((hoff 19 (by kernel_rfl)).symm.trans h0_) (by decide), fun h0_ => absurd ((hoff 20 (by kernel_rfl)).symm.trans h0_) (by decide)⟩
        refine steps_cons ?_ ?_
        · rintro b a w' ⟨v168, v171, v174, v177, v180, v183, v186, m20_, ha, Q_BK162, Q_HB, Q_HO169, Q_HO172, Q_HO175, Q_HO178, Q_HO181, Q_HO184, Q_HO187, Q_X20_⟩ hb_ hon hoff
          refine ⟨_, rfl, fun K hK => ?_⟩
          have e28 : a.tmps[28]? = some (.int .i64 a0_5) := by rw [ha]; exact putSel_on (e := (15, 28, .int .i64 a0_5)) 10 rfl rfl (hon 15 (by kernel_rfl)) rfl
          replace ha := Aside0.mk ha
          have BK162 := Aside0.mk Q_BK162
          have HB := Aside0.mk Q_HB
          refine value_ (w1 := w') (v := .int .u8 ((a0_5) % 256)) (by rfl) rfl ?_ ?_
          · go_simp
            (try simp only [i64_w])
            try rfl
          refine hK.out _ _ ⟨v168, v171, v174, v177, v180, v183, v186, m20_, (by rw [ha.out]; exact putSel_upk 11 hb_ rfl rfl rfl), Q_BK162, Q_HB, Q_HO169, Q_HO172, Q_HO175, Q_HO178, fun h0_ _ => absurd ((hoff 17 (by kernel_rfl)).symm.trans h0_) (by decide), fun h0_ => absurd ((hoff 18 (by kernel_rfl)).symm.trans h0_) (by decide), fun h0_ => absurd ((hoff 19 (by kernel_rfl)).symm.trans h0_) (by decide), fun h0_ => absurd ((hoff 20 (by kernel_rfl)).symm.trans h0_) (by decide)⟩
        refine steps_cons ?_ ?_
        · rintro b a w' ⟨v168, v171, v174, v177, v180, v183, v186, m20_, ha, Q_BK162, Q_HB, Q_HO169, Q_HO172, Q_HO175, Q_HO178, Q_HO181, Q_HO184, Q_HO187, Q_X20_⟩ hb_ hon hoff
          refine ⟨_, rfl, fun K hK => ?_⟩
          have e29 : a.tmps[29]? = some (.int .u8 ((a0_5) % 256)) := by rw [ha]; exact putSel_on (e := (16, 29, .int .u8 ((a0_5) % 256))) 11 rfl rfl (hon 16 (by kernel_rfl)) rfl
          replace ha := Aside0.mk ha
          have BK162 := Aside0.mk Q_BK162
          have HB := Aside0.mk Q_HB
          refine Kd.R_lit_step (Kd.int .u8) _ 5 ?hg (N := 30) ?hd (xs := ([(a0_5) % 256] : List Int)) (inner := [.int .u8 ((a0_5) % 256)]) (ok := fun _ => True) (okp := fun _ => True) ?hr ?hp (fun _ hk => hk) trivial (Below.refl _ _) (Nat.le_refl _) (by simp) ?_; (case hd => rfl); (case hg => rfl); (case hr => first | (go_simp; done) | (go_simp; rfl)); (case hp => exact (Reps.one (show Kd.M (Kd.int .u8) _ _ _ ((a0_5) % 256) [.int .u8 ((a0_5) % 256)] from rfl) (Reps.none _ _)))
          intro v180 w19 ho20 hb hg_ hnew_
          clear hg_ hnew_
          (first | rw [← Ny179.out] at ho20 | (simp only [Int.reduceToNat] at ho20; rw [← Ny179.out] at ho20))
          have n0_ := Aside0.mk (Kd.R_lower ho20 (YE (by repeat (first | (with_reducible first | exact HB.out | apply YA | apply YB | apply YC | refine below_set ?_ GE162.out) | exact HB.out))))
          have n1_ := Aside0.mk (YK (g := gb162) (o := .cells #[.bool false, .int .i64 a0_1, .int .i64 a0_2, .int .i64 a0_3, .int .i64 a0_4, .int .i64 a0_5] 23 (0, 0)) (by (with_reducible repeat (first | refine YF ?_ _ | refine YG ?_ | refine YH ?_ _)); exact BK162.out) hb)
          have n2_ := Aside0.mk (YD (by repeat (first | (with_reducible first | exact HB.out | apply YA | apply YB | apply YC | refine below_set ?_ GE162.out) | exact HB.out)) hb)
          have z_HO169 := fun (h0_ : b 0 = true) (h1_ : b 18 = false) => (show Kd.R (Kd.int .u8) 5 w19 w.heap.size (fun _ => True) v168 y167 from by first | exact (Kd.R_elder' (by (with_reducible repeat (first | apply YP | apply YQ | apply YR)); exact (Q_HO169 h0_ h1_)) (Kd.R_base ho20) hb) | exact Kd.R_mono (Kd.R_elder' (by (with_reducible repeat (first | apply YP | apply YQ | apply YR)); exact (Q_HO169 h0_ h1_)) (Kd.R_base ho20) hb) (fun _ h_ => by first | trivial | exact h_ | exact h_.1))
          have z_HO172 := fun (h0_ : b 3 = true) (h1_ : b 18 = false) => (show Kd.R (Kd.int .u8) 5 w19 w.heap.size (fun _ => True) v171 t170 from by first | exact (Kd.R_elder' (by (with_reducible repeat (first | apply YP | apply YQ | apply YR)); exact (Q_HO172 h0_ h1_)) (Kd.R_base ho20) hb) | exact Kd.R_mono (Kd.R_elder' (by (with_reducible repeat (first | apply YP | apply YQ | apply YR)); exact (Q_HO172 h0_ h1_)) (Kd.R_base ho20) hb) (fun _ h_ => by first | trivial | exact h_ | exact h_.1))
          have z_HO175 := fun (h0_ : b 10 = true) (h1_ : b 18 = false) => (show Kd.R (Kd.int .u8) 5 w19 w.heap.size (fun _ => True) v174 y173 from by first | exact (Kd.R_elder' (by (with_reducible repeat (first | apply YP | apply YQ | apply YR)); exact (Q_HO175 h0_ h1_)) (Kd.R_base ho20) hb) | exact Kd.R_mono (Kd.R_elder' (by (with_reducible repeat (first | apply YP | apply YQ | apply YR)); exact (Q_HO175 h0_ h1_)) (Kd.R_base ho20) hb) (fun _ h_ => by first | trivial | exact h_ | exact h_.1))
          have z_HO178 := fun (h0_ : b 13 = true) (h1_ : b 18 = false) => (show Kd.R (Kd.int .u8) 5 w19 w.heap.size (fun _ => True) v177 t176 from by first | exact (Kd.R_elder' (by (with_reducible repeat (first | apply YP | apply YQ | apply YR)); exact (Q_HO178 h0_ h1_)) (Kd.R_base ho20) hb) | exact Kd.R_mono (Kd.R_elder' (by (with_reducible repeat (first | apply YP | apply YQ | apply YR)); exact (Q_HO178 h0_ h1_)) (Kd.R_base ho20) hb) (fun _ h_ => by first | trivial | exact h_ | exact h_.1))
          clear BK162
          clear HB
          have HO181 := n0_
          have BK162 := n1_
          have HB := n2_
          clear n0_ n1_ n2_
          clear hb ho20
          refine hK.out _ _ ⟨v168, v171, v174, v177, v180, v183, v186, m20_, (by rw [ha.out]; exact putSel_upk 12 hb_ rfl rfl rfl), (by (with_reducible repeat (first | refine YF ?_ _ | refine YG ?_ | refine YH ?_ _)); exact BK162.out), (by repeat (first | (with_reducible first | exact HB.out | apply YA | apply YB | apply YC | refine below_set ?_ GE162.out) | exact HB.out)), z_HO169, z_HO172, z_HO175, z_HO178, fun _ _ => (by (with_reducible repeat (first | apply YP | apply YQ | apply YR)); exact HO181.out), fun h0_ => absurd ((hoff 18 (by kernel_rfl)).symm.trans h0_) (by decide), fun h0_ => absurd ((hoff 19 (by kernel_rfl)).symm.trans h0_) (by decide), fun h0_ => absurd ((hoff 20 (by kernel_rfl)).symm.trans h0_) (by decide)⟩
        refine steps_cons ?_ ?_
        · rintro b a w' ⟨v168, v171, v174, v177, v180, v183, v186, m20_, ha, Q_BK162, Q_HB, Q_HO169, Q_HO172, Q_HO175, Q_HO178, Q_HO181, Q_HO184, Q_HO187, Q_X20_⟩ hb_ hon hoff
          refine ⟨_, rfl, fun K hK => ?_⟩
          have e13 : a.tmps[13]? = some (v168) := by rw [ha]; exact putSel_on (e := (0, 13, v168)) 0 rfl rfl (hon 0 (by kernel_rfl)) rfl
          have e16 : a.tmps[16]? = some (v171) := by rw [ha]; exact putSel_on (e := (3, 16, v171)) 2 rfl rfl (hon 3 (by kernel_rfl)) rfl
          have e23 : a.tmps[23]? = some (v174) := by rw [ha]; exact putSel_on (e := (10, 23, v174)) 7 rfl rfl (hon 10 (by kernel_rfl)) rfl
          have e26 : a.tmps[26]? = some (v177) := by rw [ha]; exact putSel_on (e := (13, 26, v177)) 9 rfl rfl (hon 13 (by kernel_rfl)) rfl
          have e30 : a.tmps[30]? = some (v180) := by rw [ha]; exact putSel_on (e := (17, 30, v180)) 12 rfl rfl (hon 17 (by kernel_rfl)) rfl
          replace ha := Aside0.mk ha
          have BK162 := Aside0.mk Q_BK162
          have HB := Aside0.mk Q_HB
          have HO169 := Aside0.mk (Q_HO169 (hon 0 (by kernel_rfl)) hb_)
          have HO172 := Aside0.mk (Q_HO172 (hon 3 (by kernel_rfl)) hb_)
          have HO175 := Aside0.mk (Q_HO175 (hon 10 (by kernel_rfl)) hb_)
          have HO178 := Aside0.mk (Q_HO178 (hon 13 (by kernel_rfl)) hb_)
          have HO181 := Aside0.mk (Q_HO181 (hon 17 (by kernel_rfl)) hb_)
          obtain ⟨Ao28, co28, eo28⟩ := Kd.R_slice HO169.out
          (first | subst eo28 | (injection eo28 with f1_ f2_ f3_; have f4_ := f1_.symm; have f5_ := f3_.symm; clear f1_ f2_ f3_; subst f4_; subst f5_))
          obtain ⟨Ao29, co29, eo29⟩ := Kd.R_slice HO172.out
          (first | subst eo29 | (injection eo29 with f1_ f2_ f3_; have f4_ := f1_.symm; have f5_ := f3_.symm; clear f1_ f2_ f3_; subst f4_; subst f5_))
          obtain ⟨Ao30, co30, eo30⟩ := Kd.R_slice HO175.out
          (first | subst eo30 | (injection eo30 with f1_ f2_ f3_; have f4_ := f1_.symm; have f5_ := f3_.symm; clear f1_ f2_ f3_; subst f4_; subst f5_))
          obtain ⟨Ao31, co31, eo31⟩ := Kd.R_slice HO178.out
          (first | subst eo31 | (injection eo31 with f1_ f2_ f3_; have f4_ := f1_.symm; have f5_ := f3_.symm; clear f1_ f2_ f3_; subst f4_; subst f5_))
          obtain ⟨Ao32, co32, eo32⟩ := Kd.R_slice HO181.out
          (first | subst eo32 | (injection eo32 with f1_ f2_ f3_; have f4_ := f1_.symm; have f5_ := f3_.symm; clear f1_ f2_ f3_; subst f4_; subst f5_))
          refine Kd.N_lit_step (Kd.slice 5 (Kd.int .u8)) _ 29 ?hg (N' := 31) ?hd (xs := ([y167, t170, y173, t176, y179] : List (List Int))) (inner := [.slice Ao28 y167.length co28, .slice Ao29 t170.length co29, .slice Ao30 y173.length co30, .slice Ao31 t176.length co31, .slice Ao32 y179.length co32]) (ok := (fun k_ => k_ ≠ gb162)) (okp := (fun k_ => k_ ≠ gb162)) ?hr ?hp (fun _ hk => hk) ((show ∀ k_, w'.heap.size ≤ k_ → (fun k_ => k_ ≠ gb162) k_ from fun k_ hk => Kd.freshB (g := gb162) (o := .cells #[.bool false, .int .i64 a0_1, .int .i64 a0_2, .int .i64 a0_3, .int .i64 a0_4, .int .i64 a0_5] 23 (0, 0)) (by (with_reducible repeat (first | refine YF ?_ _ | refine YG ?_ | refine YH ?_ _)); exact BK162.out) k_ hk) _ (Nat.le_refl _)) (Below.refl _ _) (Nat.le_refl _) (by simp) ?_; (case hd => rfl); (case hg => rfl); (case hr => first | (go_simp; done) | (go_simp; rfl)); (case hp => exact (Reps.one (show Kd.FK (Kd.slice 5 (Kd.int .u8)) _ _ y167 [.slice Ao28 y167.length co28] from (Kd.FK_slice_mk (Kd.R_reads' (Kd.R_mono (ok' := (fun k_ => k_ ≠ gb162)) (Kd.R_types (HO169.out) BK162.out (by decide)) (fun k_ hk => hk.2))).2.1 (Kd.R_F (Kd.R_mono (ok' := (fun k_ => k_ ≠ gb162)) (Kd.R_types (HO169.out) BK162.out (by decide)) (fun k_ hk => hk.2))))) (Reps.one (show Kd.FK (Kd.slice 5 (Kd.int .u8)) _ _ t170 [.slice Ao29 t170.length co29] from (Kd.FK_slice_mk (Kd.R_reads' (Kd.R_mono (ok' := (fun k_ => k_ ≠ gb162)) (Kd.R_types (HO172.out) BK162.out (by decide)) (fun k_ hk => hk.2))).2.1 (Kd.R_F (Kd.R_mono (ok' := (fun k_ => k_ ≠ gb162)) (Kd.R_types (HO172.out) BK162.out (by decide)) (fun k_ hk => hk.2))))) (Reps.one (show Kd.FK (Kd.slice 5 (Kd.int .u8)) _ _ y173 [.slice Ao30 y173.length co30] from (Kd.FK_slice_mk (Kd.R_reads' (Kd.R_mono (ok' := (fun k_ => k_ ≠ gb162)) (Kd.R_types (HO175.out) BK162.out (by decide)) (fun k_ hk => hk.2))).2.1 (Kd.R_F (Kd.R_mono (ok' := (fun k_ => k_ ≠ gb162)) (Kd.R_types (HO175.out) BK162.out (by decide)) (fun k_ hk => hk.2))))) (Reps.one (show Kd.FK (Kd.slice 5 (Kd.int .u8)) _ _ t176 [.slice Ao31 t176.length co31] from (Kd.FK_slice_mk (Kd.R_reads' (Kd.R_mono (ok' := (fun k_ => k_ ≠ gb162)) (Kd.R_types (HO178.out) BK162.out (by decide)) (fun k_ hk => hk.2))).2.1 (Kd.R_F (Kd.R_mono (ok' := (fun k_ => k_ ≠ gb162)) (Kd.R_types (HO178.out) BK162.out (by decide)) (fun k_ hk => hk.2))))) (Reps.one (show Kd.FK (Kd.slice 5 (Kd.int .u8)) _ _ y179 [.slice Ao32 y179.length co32] from (Kd.FK_slice_mk (Kd.R_reads' (Kd.R_mono (ok' := (fun k_ => k_ ≠ gb162)) (Kd.R_types (HO181.out) BK162.out (by decide)) (fun k_ hk => hk.2))).2.1 (Kd.R_F (Kd.R_mono (ok' := (fun k_ => k_ ≠ gb162)) (Kd.R_types (HO181.out) BK162.out (by decide)) (fun k_ hk => hk.2))))) (Reps.none _ _)))))))
          intro v183 w33 ho34 hb hg_ hnew_
          clear hg_ hnew_
          (first | rw [← Ny182.out] at ho34 | (simp only [Int.reduceToNat] at ho34; rw [← Ny182.out] at ho34))
          have n0_ := Aside0.mk (Kd.N_lower ho34 (YE (by repeat (first | (with_reducible first | exact HB.out | apply YA | apply YB | apply YC | refine below_set ?_ GE162.out) | exact HB.out))))
          have n1_ := Aside0.mk (YK (g := gb162) (o := .cells #[.bool false, .int .i64 a0_1, .int .i64 a0_2, .int .i64 a0_3, .int .i64 a0_4, .int .i64 a0_5] 23 (0, 0)) (by (with_reducible repeat (first | refine YF ?_ _ | refine YG ?_ | refine YH ?_ _)); exact BK162.out) hb)
          have n2_ := Aside0.mk (YD (by repeat (first | (with_reducible first | exact HB.out | apply YA | apply YB | apply YC | refine below_set ?_ GE162.out) | exact HB.out)) hb)
          clear BK162
          clear HB
          clear HO169
          clear HO172
          clear HO175
          clear HO178
          clear HO181
          have HO184 := n0_
          have BK162 := n1_
          have HB := n2_
          clear n0_ n1_ n2_
          clear hb ho34
          refine hK.out _ _ ⟨.slice Ao28 y167.length co28, .slice Ao29 t170.length co29, .slice Ao30 y173.length co30, .slice Ao31 t176.length co31, .slice Ao32 y179.length co32, v183, v186, m20_, (by rw [ha.out]; exact putSel_upk 13 hb_ rfl rfl rfl), (by (with_reducible repeat (first | refine YF ?_ _ | refine YG ?_ | refine YH ?_ _)); exact BK162.out), (by repeat (first | (with_reducible first | exact HB.out | apply YA | apply YB | apply YC | refine below_set ?_ GE162.out) | exact HB.out)), fun _ h1_ => absurd ((up_self b 18).symm.trans h1_) (by decide), fun _ h1_ => absurd ((up_self b 18).symm.trans h1_) (by decide), fun _ h1_ => absurd ((up_self b 18).symm.trans h1_) (by decide), fun _ h1_ => absurd ((up_self b 18).symm.trans h1_) (by decide), fun _ h1_ => absurd ((up_self b 18).symm.trans h1_) (by decide), fun _ => (by (with_reducible repeat (first | apply Kd.N_alloc | apply Kd.N_drewN | apply Kd.N_drew)); exact HO184.out), fun h0_ => absurd ((hoff 19 (by kernel_rfl)).symm.trans h0_) (by decide), fun h0_ => absurd ((hoff 20 (by kernel_rfl)).symm.trans h0_) (by decide)⟩
        refine steps_cons ?_ ?_
        · rintro b a w' ⟨v168, v171, v174, v177, v180, v183, v186, m20_, ha, Q_BK162, Q_HB, Q_HO169, Q_HO172, Q_HO175, Q_HO178, Q_HO181, Q_HO184, Q_HO187, Q_X20_⟩ hb_ hon hoff
          refine ⟨_, rfl, fun K hK => ?_⟩
          have e31 : a.tmps[31]? = some (v183) := by rw [ha]; exact putSel_on (e := (18, 31, v183)) 13 rfl rfl (hon 18 (by kernel_rfl)) rfl
          replace ha := Aside0.mk ha
          have BK162 := Aside0.mk Q_BK162
          have HB := Aside0.mk Q_HB
          have HO184 := Aside0.mk (Q_HO184 (hon 18 (by kernel_rfl)))
          obtain ⟨Ao35, co35, eo35⟩ := Kd.N_slice HO184.out
          (first | subst eo35 | (injection eo35 with f1_ f2_ f3_; have f4_ := f1_.symm; have f5_ := f3_.symm; clear f1_ f2_ f3_; subst f4_; subst f5_))
          refine goes_ Try.func28 (by kernel_rfl) rfl #[.slice Ao35 y182.length co35] (by rfl) rfl rfl (by first | (simp only [YO, List.map_cons, List.map_nil, Act.eval, Array.getD_eq_getD_getElem?, Option.getD_some, e31]; done) | (simp only [YO, List.map_cons, List.map_nil, Act.eval, Array.getD_eq_getD_getElem?, Option.getD_some, e31]; rfl)) ?_
          with_reducible refine (thalwegref01_Both.calls k _ _ y182 t185 _ ?side1 ?side2 A13.out).mono ?_
          (case side1 => repeat (first | exact (Kd.N_reads' HO184.out).2.2 | (with_reducible refine Kd.C_alloc ?_ _) | (with_reducible refine Kd.C_drewN ?_ _) | (with_reducible refine Kd.C_drew ?_)))
          (case side2 => exact (Kd.N_reads' HO184.out).2.1)
          rintro e w36 ⟨v186, rfl, ho0, hb⟩
          refine ⟨_, rfl, ?_⟩
          have n0_ := Aside0.mk (Kd.N_elder' (by (with_reducible repeat (first | apply Kd.N_alloc | apply Kd.N_drewN | apply Kd.N_drew)); exact HO184.out) (Kd.R_base ho0) hb)
          have n1_ := Aside0.mk (Kd.R_lower ho0 (YE (by repeat (first | (with_reducible first | exact HB.out | apply YA | apply YB | apply YC | refine below_set ?_ GE162.out) | exact HB.out))))
          have n2_ := Aside0.mk (YK (g := gb162) (o := .cells #[.bool false, .int .i64 a0_1, .int .i64 a0_2, .int .i64 a0_3, .int .i64 a0_4, .int .i64 a0_5] 23 (0, 0)) (by (with_reducible repeat (first | refine YF ?_ _ | refine YG ?_ | refine YH ?_ _)); exact BK162.out) hb)
          have n3_ := Aside0.mk (YD (by repeat (first | (with_reducible first | exact HB.out | apply YA | apply YB | apply YC | refine below_set ?_ GE162.out) | exact HB.out)) hb)
          clear HO184
          clear BK162
          clear HB
          have HO184 := n0_
          have HO187 := n1_
          have BK162 := n2_
          have HB := n3_
          clear n0_ n1_ n2_ n3_
          (try clear hb)
          (try clear hb2)
          (try clear hk)
          (try clear hi)
          (try clear ho0)
          refine hK.out _ _ ⟨v168, v171, v174, v177, v180, .slice Ao35 y182.length co35, v186, m20_, (by rw [ha.out]; exact putSel_upk 14 hb_ rfl rfl rfl), (by (with_reducible repeat (first | refine YF ?_ _ | refine YG ?_ | refine YH ?_ _)); exact BK162.out), (by repeat (first | (with_reducible first | exact HB.out | apply YA | apply YB | apply YC | refine below_set ?_ GE162.out) | exact HB.out)), fun _ h1_ => absurd ((hon 18 (by kernel_rfl)).symm.trans h1_) (by decide), fun _ h1_ => absurd ((hon 18 (by kernel_rfl)).symm.trans h1_) (by decide), fun _ h1_ => absurd ((hon 18 (by kernel_rfl)).symm.trans h1_) (by decide), fun _ h1_ => absurd ((hon 18 (by kernel_rfl)).symm.trans h1_) (by decide), fun _ h1_ => absurd ((hon 18 (by kernel_rfl)).symm.trans h1_) (by decide), fun _ => (by (with_reducible repeat (first | apply Kd.N_alloc | apply Kd.N_drewN | apply Kd.N_drew)); exact Kd.N_mono HO184.out (fun _ hk => by first | exact ⟨hk.2, hk.1⟩ | exact trivial | simp_all)), fun _ => (by (with_reducible repeat (first | apply YP | apply YQ | apply YR)); exact HO187.out), fun h0_ => absurd ((hoff 20 (by kernel_rfl)).symm.trans h0_) (by decide)⟩
        refine steps_cons ?_ ?_
        · rintro b a w' ⟨v168, v171, v174, v177, v180, v183, v186, m20_, ha, Q_BK162, Q_HB, Q_HO169, Q_HO172, Q_HO175, Q_HO178, Q_HO181, Q_HO184, Q_HO187, Q_X20_⟩ hb_ hon hoff
          refine ⟨_, rfl, fun K hK => ?_⟩
          have e32 : a.tmps[32]? = some (v186) := by rw [ha]; exact putSel_on (e := (19, 32, v186)) 14 rfl rfl (hon 19 (by kernel_rfl)) rfl
          replace ha := Aside0.mk ha
          have BK162 := Aside0.mk Q_BK162
          have HB := Aside0.mk Q_HB
          have HO184 := Aside0.mk (Q_HO184 (hon 18 (by kernel_rfl)))
          have HO187 := Aside0.mk (Q_HO187 (hon 19 (by kernel_rfl)))
          refine value_ (w1 := w') (v := v186) (by rfl) rfl ?_ ?_
          · go_simp
            (try simp only [i64_w])
            try rfl
          refine hK.out _ _ ⟨v168, v171, v174, v177, v180, v183, v186, (v186), (by rw [ha.out]; exact putSel_upk 15 hb_ rfl rfl rfl), Q_BK162, Q_HB, fun _ h1_ => absurd ((hon 18 (by kernel_rfl)).symm.trans h1_) (by decide), fun _ h1_ => absurd ((hon 18 (by kernel_rfl)).symm.trans h1_) (by decide), fun _ h1_ => absurd ((hon 18 (by kernel_rfl)).symm.trans h1_) (by decide), fun _ h1_ => absurd ((hon 18 (by kernel_rfl)).symm.trans h1_) (by decide), fun _ h1_ => absurd ((hon 18 (by kernel_rfl)).symm.trans h1_) (by decide), Q_HO184, Q_HO187, fun _ => rfl⟩
        refine steps_cons ?_ ?_
        · rintro b a w' ⟨v168, v171, v174, v177, v180, v183, v186, m20_, ha, Q_BK162, Q_HB, Q_HO169, Q_HO172, Q_HO175, Q_HO178, Q_HO181, Q_HO184, Q_HO187, Q_X20_⟩ hb_ hon hoff
          refine ⟨_, rfl, fun K hK => ?_⟩
          replace ha := Aside0.mk ha
          have BK162 := Aside0.mk Q_BK162
          have HB := Aside0.mk Q_HB
          have HO184 := Aside0.mk (Q_HO184 (hon 18 (by kernel_rfl)))
          have HO187 := Aside0.mk (Q_HO187 (hon 19 (by kernel_rfl)))
          refine value_ (w1 := w') (v := .int .i64 0) (by rfl) rfl ?_ ?_
          · go_simp
            (try simp only [i64_w])
            try rfl
          refine hK.out _ _ ⟨v168, v171, v174, v177, v180, v183, v186, m20_, (by rw [ha.out]; exact putSel_upk 16 hb_ rfl rfl rfl), Q_BK162, Q_HB, fun _ h1_ => absurd ((hon 18 (by kernel_rfl)).symm.trans h1_) (by decide), fun _ h1_ => absurd ((hon 18 (by kernel_rfl)).symm.trans h1_) (by decide), fun _ h1_ => absurd ((hon 18 (by kernel_rfl)).symm.trans h1_) (by decide), fun _ h1_ => absurd ((hon 18 (by kernel_rfl)).symm.trans h1_) (by decide), fun _ h1_ => absurd ((hon 18 (by kernel_rfl)).symm.trans h1_) (by decide), Q_HO184, Q_HO187, Q_X20_⟩
        exact steps_nil
      rintro b a w36 hall ⟨v168, v171, v174, v177, v180, v183, v186, m20_, ha, Q_BK162, Q_HB, Q_HO169, Q_HO172, Q_HO175, Q_HO178, Q_HO181, Q_HO184, Q_HO187, Q_X20_⟩
      clear BK162 HB
      have hb0_ := hall 0 (by kernel_rfl)
      have hb2_ := hall 2 (by kernel_rfl)
      have hb3_ := hall 3 (by kernel_rfl)
      have hb5_ := hall 5 (by kernel_rfl)
      have hb6_ := hall 6 (by kernel_rfl)
      have hb8_ := hall 8 (by kernel_rfl)
      have hb9_ := hall 9 (by kernel_rfl)
      have hb10_ := hall 10 (by kernel_rfl)
      have hb12_ := hall 12 (by kernel_rfl)
      have hb13_ := hall 13 (by kernel_rfl)
      have hb15_ := hall 15 (by kernel_rfl)
      have hb16_ := hall 16 (by kernel_rfl)
      have hb17_ := hall 17 (by kernel_rfl)
      have hb18_ := hall 18 (by kernel_rfl)
      have hb19_ := hall 19 (by kernel_rfl)
      have hb20_ := hall 20 (by kernel_rfl)
      have hb21_ := hall 21 (by kernel_rfl)
      subst ha
      obtain rfl := Q_X20_ hb20_
      simp only [putSel, hb0_, hb2_, hb3_, hb5_, hb6_, hb8_, hb9_, hb10_, hb12_, hb13_, hb15_, hb16_, hb17_, hb18_, hb19_, hb20_, hb21_, if_true, Act.put, YL, YM, YN]
      have BK162 := Aside0.mk Q_BK162
      clear Q_BK162
      have HB := Aside0.mk Q_HB
      clear Q_HB
      clear Q_HO169
      clear Q_HO172
      clear Q_HO175
      clear Q_HO178
      clear Q_HO181
      have HO184 := Aside0.mk (Q_HO184 hb18_)
      clear Q_HO184
      have HO187 := Aside0.mk (Q_HO187 hb19_)
      clear Q_HO187
      clear hall hb0_ hb2_ hb3_ hb5_ hb6_ hb8_ hb9_ hb10_ hb12_ hb13_ hb15_ hb16_ hb17_ hb18_ hb19_ hb20_ hb21_
      try go_wp2
      go_ret2
      exact ⟨_, by first | rfl | (simp [errW_none, errW_some] <;> rfl) | (simp [*, errW_none, errW_some] <;> rfl), by (with_reducible repeat (first | apply YP | apply YQ | apply YR)); exact HO187.out, by repeat (first | (with_reducible first | exact HB.out | apply YA | apply YB | apply YC | refine below_set ?_ GE162.out) | exact HB.out)⟩
  · replace c3 := Bool.eq_false_iff.mpr c3
    subst c3
    have H1 : (some (([] : List Int), 1)) = some (r1, r2) := by rw [if_neg (show ¬ (false = true) by decide)] at H; exact H
    clear H
    have H := H1
    clear H1
    simp only [Option.some.injEq, Prod.mk.injEq] at H
    obtain ⟨rfl, rfl⟩ := H
    go_enter Try.func11, Try.ntmps11
    go_wp2_with (first | ((with_reducible refine gate_dst (N := 1) rfl ?_); refine box_event ?hg (N := 1) ?hd (cs := #[.bool a0_0, .int .i64 a0_1, .int .i64 a0_2, .int .i64 a0_3, .int .i64 a0_4, .int .i64 a0_5]) (t := 23) ?hr ?_; (case hd => rfl); (case hg => rfl); (case hr => first | (go_simp; done) | (go_simp; rfl)); intro gb162 hg w37 hbox hb; have n0_ := Aside0.mk (YD (by repeat (first | (with_reducible first | exact HB.out | apply YA | apply YB | apply YC) | exact HB.out)) hb); have n1_ := Aside0.mk (hbox); have n2_ := Aside0.mk ((by rw [hg]; exact (YE (by repeat (first | (with_reducible first | exact HB.out | apply YA | apply YB | apply YC) | exact HB.out))) : w.heap.size ≤ gb162)); have n3_ := Aside0.mk ((by rw [hg]; exact (YE (by repeat (first | (with_reducible first | exact HB.out | apply YA | apply YB | apply YC) | exact HB.out))) : w.heap.size ≤ gb162)); clear HB; have HB := n0_; have BK162 := n1_; have GW162 := n2_; have GE162 := n3_; clear n0_ n1_ n2_ n3_; clear hb hbox hg; have hcz38_0 : w37.cell? ⟨gb162, 0, none⟩ = some (.bool a0_0) := (YI BK162.out 0).trans rfl; have hcz38_1 : w37.cell? ⟨gb162, 1, none⟩ = some (.int .i64 a0_1) := (YI BK162.out 1).trans rfl; have hcz38_2 : w37.cell? ⟨gb162, 2, none⟩ = some (.int .i64 a0_2) := (YI BK162.out 2).trans rfl; have hcz38_3 : w37.cell? ⟨gb162, 3, none⟩ = some (.int .i64 a0_3) := (YI BK162.out 3).trans rfl; have hcz38_4 : w37.cell? ⟨gb162, 4, none⟩ = some (.int .i64 a0_4) := (YI BK162.out 4).trans rfl; have hcz38_5 : w37.cell? ⟨gb162, 5, none⟩ = some (.int .i64 a0_5) := (YI BK162.out 5).trans rfl; have hfz38_0 := YJ BK162.out 0; have hfz38_1 := YJ BK162.out 1; have hfz38_2 := YJ BK162.out 2; have hfz38_3 := YJ BK162.out 3; have hfz38_4 := YJ BK162.out 4; have hfz38_5 := YJ BK162.out 5) | ((with_reducible refine gate_callee (f := 13) rfl ?_); refine goesL_ (some 5) rfl rfl Try.func13 (by kernel_rfl) rfl #[.agg #[.bool a0_0, .int .i64 a0_1, .int .i64 a0_2, .int .i64 a0_3, .int .i64 a0_4, .int .i64 a0_5]] rfl (by (try simp only [YO, List.map_cons, List.map_nil]); first | done | rfl | (simp only [List.length_drop, List.length_take]; rfl)) ?_; (with_reducible refine (thalwegref02_Right.calls k a0_0 a0_1 a0_2 a0_3 a0_4 a0_5 false _ A2.out).mono ?_); rintro e w39 ⟨rfl, hb⟩; refine ⟨_, rfl, ?_⟩; have n0_ := Aside0.mk (YK (g := gb162) (o := .cells #[.bool a0_0, .int .i64 a0_1, .int .i64 a0_2, .int .i64 a0_3, .int .i64 a0_4, .int .i64 a0_5] 23 (0, 0)) (by (with_reducible repeat (first | refine YF ?_ _ | refine YG ?_ | refine YH ?_ _)); exact BK162.out) hb); have n1_ := Aside0.mk (YD (by repeat (first | (with_reducible first | exact HB.out | apply YA | apply YB | apply YC | refine below_set ?_ GE162.out) | exact HB.out)) hb); clear BK162; clear HB; have BK162 := n0_; have HB := n1_; clear n0_ n1_; (try clear hb); (try clear hb2); (try clear hk); (try clear hi)))
    go_ret2
    exact ⟨_, by first | rfl | (simp [errW_none, errW_some] <;> rfl) | (simp [*, errW_none, errW_some] <;> rfl), by first | exact Kd.R_nil _ _ _ _ _ | exact Kd.N_nil _ _ _ _ _ | exact Kd.V_nil _ _ _ _ _ | exact Kd.Q_nil _ _ _ _ _ | exact Kd.S_nil _ _ _ _ _, by repeat (first | (with_reducible first | exact HB.out | apply YA | apply YB | apply YC | refine below_set ?_ GE162.out) | exact HB.out)⟩

end Go.Proofs.Ytjeahmlahkngaaa.P
