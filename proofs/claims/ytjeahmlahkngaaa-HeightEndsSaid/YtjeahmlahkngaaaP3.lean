-- WRITTEN BY xprint.py, a program of this session that drives the kit's printer.
import Derived.Test.YtjeahmlahkngaaaP0
import Derived.Test.YtjeahmlahkngaaaP1
import Derived.Test.YtjeahmlahkngaaaP2
namespace Go.Proofs.Ytjeahmlahkngaaa.P
open Go.RowKit Go.Proofs.YtjeahmlahkngaaaW.PrintWords Go.Proofs.YtjeahmlahkngaaaW.PrintLast Go.Proofs.YtjeahmlahkngaaaW.PrintMore
open Go.Proofs.YtjeahmlahkngaaaW.PrintWords renaming below_alloc → YA, pw_below_drewN → YB, below_drew1 → YC, blk_drewN → YD, blk_drew → YE, blk_alloc → YF, blk_cell → YG, blk_frozen → YH
open Go.Proofs.YtjeahmlahkngaaaW.PrintWords.Aside0 renaming mk → YI
open List renaming setIfInBounds_toArray → YJ, set_cons_zero → YK, set_cons_succ → YL
attribute [local go_sem] max2_int min2_int max_two min_two max_three min_three max_four min_four   -- for this text's walks alone
set_option linter.unusedVariables false
set_option linter.unusedSimpArgs false

attribute [local go_sem high] eqA23
/-! ### height_Check: function 12 -/
def height_Check.j0 : Nat → Bool → Bool → Int → Int → Int → Int → Int → Option (Int)
  | 0, _, _, _, _, _, _, _ => none
  | k + 1, x3, x103000, x103001, x103002, x103003, x103004, x103005 => if x103000 = true then (if x3 = true then ((height_Null.f x103005).bind fun bt103 => (if ((bt103.1 && (x103001 == bt103.2.1 && (x103002 == bt103.2.2.1 && (x103003 == bt103.2.2.2.1 && (x103004 == bt103.2.2.2.2.1 && (x103005 == bt103.2.2.2.2.2)))))) = true) then (some 0) else (some 1))) else (some 1)) else (if x3 = true then (if x103001 ≥ 0 then (if x103001 ≤ 4611686018427387903 then (if x103002 ≥ 0 then (if x103002 < 64 then (if (x103003 / 2) = 0 then (if x103004 ≥ (-1099511627776) then (if x103004 ≤ 1099511627776 then (some 0) else (some 1)) else (some 1)) else (some 1)) else (some 1)) else (some 1)) else (some 1)) else (some 1)) else (some 1))
def height_Check.f (k : Nat) (a0_0 : Bool) (a0_1 : Int) (a0_2 : Int) (a0_3 : Int) (a0_4 : Int) (a0_5 : Int) : Option (Int) := if a0_5 ≥ 0 then (height_Check.j0 k (decide (a0_5 < 64)) a0_0 a0_1 a0_2 a0_3 a0_4 a0_5) else (height_Check.j0 k false a0_0 a0_1 a0_2 a0_3 a0_4 a0_5)
theorem height_Check.mono_l : ∀ k, (∀ y0 y1 y2 y3 y4 y5 y6, LeO (height_Check.j0 k y0 y1 y2 y3 y4 y5 y6) (height_Check.j0 (k + 1) y0 y1 y2 y3 y4 y5 y6))
  | 0 => fun _ _ _ _ _ _ _ r h => by simp [height_Check.j0] at h
  | k + 1 => by
    have ih0 := height_Check.mono_l k
    · intro y0 y1 y2 y3 y4 y5 y6
      unfold height_Check.j0
      repeat' first
      | (with_reducible exact ih0 _ _ _ _ _ _ _)
      | (with_reducible exact LeO.refl _)
      | (with_reducible exact LeO.none _)
      | (with_reducible refine LeO.ite ?_ ?_)
      | (with_reducible refine LeO.bind ?_ (fun _ => ?_))
      | exact ih0 _ _ _ _ _ _ _
      | exact LeO.none _
      | refine LeO.ite ?_ ?_
      | refine LeO.bind ?_ (fun _ => ?_)
theorem height_Check.mono : ∀ a0 a1 a2 a3 a4 a5 k, LeO (height_Check.f k a0 a1 a2 a3 a4 a5) (height_Check.f (k + 1) a0 a1 a2 a3 a4 a5) := by
  intro a0 a1 a2 a3 a4 a5 k
  have ih0 := height_Check.mono_l k
  unfold height_Check.f
  repeat' first
      | (with_reducible exact ih0 _ _ _ _ _ _ _)
      | (with_reducible exact LeO.refl _)
      | (with_reducible exact LeO.none _)
      | (with_reducible refine LeO.ite ?_ ?_)
      | (with_reducible refine LeO.bind ?_ (fun _ => ?_))
      | exact ih0 _ _ _ _ _ _ _
      | exact LeO.none _
      | refine LeO.ite ?_ ?_
      | refine LeO.bind ?_ (fun _ => ?_)
def height_Check.T3 : Bool × List (List Nat × List Nat) := (true, [([], []), ([0], [0]), ([1], [1]), ([1], [1]), ([3, 1], [1, 3]), ([4, 1, 1], [1, 4]), ([2, 5, 1], [1, 2, 5]), ([1, 6], [1, 6]), ([7, 5, 0, 1, 2, 3, 4, 5, 6, 7], [0, 7])])
def height_Check.B3 : List Nat := [0, 1, 3, 3, 11, 27, 63, 127, 255]
theorem height_Check.tab3 : rtab .any (opsOf Try.f12 3) = height_Check.T3 := by kernel_rfl
theorem height_Check.bits3 : waitsOk height_Check.T3.2 height_Check.B3 = true := by kernel_rfl
set_option maxHeartbeats 8000000 in
set_option maxRecDepth 100000 in
theorem height_Check.calls (k : Nat) (a0_0 : Bool) (a0_1 : Int) (a0_2 : Int) (a0_3 : Int) (a0_4 : Int) (a0_5 : Int) (r : Int) (w : World) (h : height_Check.f k a0_0 a0_1 a0_2 a0_3 a0_4 a0_5 = some r) :
    Calls Try.prog 12 #[.agg #[.bool a0_0, .int .i64 a0_1, .int .i64 a0_2, .int .i64 a0_3, .int .i64 a0_4, .int .i64 a0_5]] w fun e w' => e = .returned (.int .i64 r) ∧ Below w.heap.size w w' := by
  have hu23 := Try.underlying23
  have HB := YI (Below.refl w.heap.size w)
  have H : (if a0_5 ≥ 0 then (height_Check.j0 k (decide (a0_5 < 64)) a0_0 a0_1 a0_2 a0_3 a0_4 a0_5) else (height_Check.j0 k false a0_0 a0_1 a0_2 a0_3 a0_4 a0_5)) = some r := h
  clear h; have HC2 := YI H; clear H
  go_enter Try.func12, Try.ntmps12
  go_upto_region 1 with (first | ((with_reducible refine gate_dst (N := 1) rfl ?_); refine box_event ?hg (N := 1) ?hd (cs := #[.bool a0_0, .int .i64 a0_1, .int .i64 a0_2, .int .i64 a0_3, .int .i64 a0_4, .int .i64 a0_5]) (t := 23) ?hr ?_; (case hd => rfl); (case hg => rfl); (case hr => first | (go_simp; done) | (go_simp; rfl)); intro gb102 hg w3 hbox hb; have n0_ := YI (below_step (by repeat (first | (with_reducible first | exact HB.out | apply YA | apply YB | apply YC) | exact HB.out)) hb); have n1_ := YI (hbox); have n2_ := YI ((by rw [hg]; exact (below_size (by repeat (first | (with_reducible first | exact HB.out | apply YA | apply YB | apply YC) | exact HB.out))) : w.heap.size ≤ gb102)); have n3_ := YI ((by rw [hg]; exact (below_size (by repeat (first | (with_reducible first | exact HB.out | apply YA | apply YB | apply YC) | exact HB.out))) : w.heap.size ≤ gb102)); clear HB; have HB := n0_; have BK102 := n1_; have GW102 := n2_; have GE102 := n3_; clear n0_ n1_ n2_ n3_; clear hb hbox hg))
  (try simp only [Act.put, YJ, YK, YL])
  go_cut [3] (fun v3 wc => ∃ (kq : Nat) (x3_1 : Bool), v3 = .bool x3_1 ∧ Aside0 (height_Check.j0 kq x3_1 a0_0 a0_1 a0_2 a0_3 a0_4 a0_5 = some r) ∧ Aside0 (kq ≤ k) ∧ Aside0 (wc.heap[gb102]? = some (.cells #[.bool a0_0, .int .i64 a0_1, .int .i64 a0_2, .int .i64 a0_3, .int .i64 a0_4, .int .i64 a0_5] 23 (0, 0))) ∧ Aside0 (Below w.heap.size w wc))
  case first =>
    have H := HC2.out
    clear HC2
    by_cases c4 : a0_5 ≥ 0
    · rw [if_pos c4] at H
      have c4b0 : decide (0 ≤ a0_5) = true := decide_eq_true c4; clear c4
      (first | rw [c4b0] | (simp only [i64_w, i32_w]; rw [c4b0]) | rw [c4b1] | skip)
      have H' := YI H
      clear H
      have hcz5_0 : w3.cell? ⟨gb102, 0, none⟩ = some (.bool a0_0) := (YG BK102.out 0).trans rfl
      have hcz5_1 : w3.cell? ⟨gb102, 1, none⟩ = some (.int .i64 a0_1) := (YG BK102.out 1).trans rfl
      have hcz5_2 : w3.cell? ⟨gb102, 2, none⟩ = some (.int .i64 a0_2) := (YG BK102.out 2).trans rfl
      have hcz5_3 : w3.cell? ⟨gb102, 3, none⟩ = some (.int .i64 a0_3) := (YG BK102.out 3).trans rfl
      have hcz5_4 : w3.cell? ⟨gb102, 4, none⟩ = some (.int .i64 a0_4) := (YG BK102.out 4).trans rfl
      have hcz5_5 : w3.cell? ⟨gb102, 5, none⟩ = some (.int .i64 a0_5) := (YG BK102.out 5).trans rfl
      have hfz5_0 := YH BK102.out 0
      have hfz5_1 := YH BK102.out 1
      have hfz5_2 := YH BK102.out 2
      have hfz5_3 := YH BK102.out 3
      have hfz5_4 := YH BK102.out 4
      have hfz5_5 := YH BK102.out 5
      go_wp2
      go_meet
      case rel => exact ⟨_, (decide (a0_5 < 64)), (by first | rfl | (simp; done) | (simp [*]; done)), H', ⟨by first | omega | exact Nat.le_refl _⟩, ⟨by (with_reducible repeat (first | refine YD ?_ _ | refine YE ?_ | refine YF ?_ _)); exact BK102.out⟩, ⟨by repeat (first | (with_reducible first | exact HB.out | apply YA | apply YB | apply YC | refine below_set ?_ GE102.out) | exact HB.out)⟩⟩
    rw [if_neg c4] at H; have c4b0 : decide (0 ≤ a0_5) = false := decide_eq_false c4; clear c4
    (first | rw [c4b0] | (simp only [i64_w, i32_w]; rw [c4b0]) | rw [c4b1] | skip)
    have H' := YI H
    clear H
    have hcz6_0 : w3.cell? ⟨gb102, 0, none⟩ = some (.bool a0_0) := (YG BK102.out 0).trans rfl
    have hcz6_1 : w3.cell? ⟨gb102, 1, none⟩ = some (.int .i64 a0_1) := (YG BK102.out 1).trans rfl
    have hcz6_2 : w3.cell? ⟨gb102, 2, none⟩ = some (.int .i64 a0_2) := (YG BK102.out 2).trans rfl
    have hcz6_3 : w3.cell? ⟨gb102, 3, none⟩ = some (.int .i64 a0_3) := (YG BK102.out 3).trans rfl
    have hcz6_4 : w3.cell? ⟨gb102, 4, none⟩ = some (.int .i64 a0_4) := (YG BK102.out 4).trans rfl
    have hcz6_5 : w3.cell? ⟨gb102, 5, none⟩ = some (.int .i64 a0_5) := (YG BK102.out 5).trans rfl
    have hfz6_0 := YH BK102.out 0
    have hfz6_1 := YH BK102.out 1
    have hfz6_2 := YH BK102.out 2
    have hfz6_3 := YH BK102.out 3
    have hfz6_4 := YH BK102.out 4
    have hfz6_5 := YH BK102.out 5
    go_wp2
    go_meet
    case rel => exact ⟨_, (false), (by first | rfl | (simp; done) | (simp [*]; done)), H', ⟨by first | omega | exact Nat.le_refl _⟩, ⟨by (with_reducible repeat (first | refine YD ?_ _ | refine YE ?_ | refine YF ?_ _)); exact BK102.out⟩, ⟨by repeat (first | (with_reducible first | exact HB.out | apply YA | apply YB | apply YC | refine below_set ?_ GE102.out) | exact HB.out)⟩⟩
  case rest =>
    clear HC2
    try clear c1
    try clear p2
    try clear c4
    try clear c4b0
    try clear hcz5_0
    try clear hcz5_1
    try clear hcz5_2
    try clear hcz5_3
    try clear hcz5_4
    try clear hcz5_5
    try clear hcz6_0
    try clear hcz6_1
    try clear hcz6_2
    try clear hcz6_3
    try clear hcz6_4
    try clear hcz6_5
    try clear hfz5_0
    try clear hfz5_1
    try clear hfz5_2
    try clear hfz5_3
    try clear hfz5_4
    try clear hfz5_5
    try clear hfz6_0
    try clear hfz6_1
    try clear hfz6_2
    try clear hfz6_3
    try clear hfz6_4
    try clear hfz6_5
    obtain ⟨kq, x3_1, rfl, HA, HJ1, BK102, HB⟩ := hcut
    cases kq with
    | zero => exact absurd HA.out (by simp [height_Check.j0])
    | succ kj1 =>
      have H := HA.out
      clear HA
      simp only [height_Check.j0] at H
      by_cases c7 : a0_0 = true
      · subst c7
        have H1 : (if x3_1 = true then ((height_Null.f a0_5).bind fun bt103 => (if ((bt103.1 && (a0_1 == bt103.2.1 && (a0_2 == bt103.2.2.1 && (a0_3 == bt103.2.2.2.1 && (a0_4 == bt103.2.2.2.2.1 && (a0_5 == bt103.2.2.2.2.2)))))) = true) then (some 0) else (some 1))) else (some 1)) = some r := by rw [if_pos rfl] at H; exact H
        clear H
        have H := H1
        clear H1
        by_cases c8 : x3_1 = true
        · subst c8
          have H1 : ((height_Null.f a0_5).bind fun bt103 => (if ((bt103.1 && (a0_1 == bt103.2.1 && (a0_2 == bt103.2.2.1 && (a0_3 == bt103.2.2.2.1 && (a0_4 == bt103.2.2.2.2.1 && (a0_5 == bt103.2.2.2.2.2)))))) = true) then (some 0) else (some 1))) = some r := by rw [if_pos rfl] at H; exact H
          clear H
          have H := H1
          clear H1; replace H := Option.bind_eq_some_iff.mp H
          obtain ⟨⟨t103, t104, t105, t106, t107, t108⟩, A90, H⟩ := H
          replace H : (if ((t103 && (a0_1 == t104 && (a0_2 == t105 && (a0_3 == t106 && (a0_4 == t107 && (a0_5 == t108)))))) = true) then (some 0) else (some 1)) = some r := H
          have A9 := YI A90; clear A90
          by_cases c10 : ((t103 && (a0_1 == t104 && (a0_2 == t105 && (a0_3 == t106 && (a0_4 == t107 && (a0_5 == t108)))))) = true)
          · rw [if_pos c10] at H
            have c10b0 : (t103 && (a0_1 == t104 && (a0_2 == t105 && (a0_3 == t106 && (a0_4 == t107 && (a0_5 == t108)))))) = true := c10
            clear c10
            obtain rfl := Option.some.inj H
            have hcz11_0 : wc.cell? ⟨gb102, 0, none⟩ = some (.bool true) := (YG BK102.out 0).trans rfl
            have hcz11_1 : wc.cell? ⟨gb102, 1, none⟩ = some (.int .i64 a0_1) := (YG BK102.out 1).trans rfl
            have hcz11_2 : wc.cell? ⟨gb102, 2, none⟩ = some (.int .i64 a0_2) := (YG BK102.out 2).trans rfl
            have hcz11_3 : wc.cell? ⟨gb102, 3, none⟩ = some (.int .i64 a0_3) := (YG BK102.out 3).trans rfl
            have hcz11_4 : wc.cell? ⟨gb102, 4, none⟩ = some (.int .i64 a0_4) := (YG BK102.out 4).trans rfl
            have hcz11_5 : wc.cell? ⟨gb102, 5, none⟩ = some (.int .i64 a0_5) := (YG BK102.out 5).trans rfl
            have hfz11_0 := YH BK102.out 0
            have hfz11_1 := YH BK102.out 1
            have hfz11_2 := YH BK102.out 2
            have hfz11_3 := YH BK102.out 3
            have hfz11_4 := YH BK102.out 4
            have hfz11_5 := YH BK102.out 5
            try go_wp2
            have n0_ := YI (YE BK102.out)
            have n1_ := YI (YC HB.out)
            clear BK102; clear HB; have BK102 := n0_; have HB := n1_; clear n0_ n1_
            refine start_ (n := 9) (S := fun w' => w'.cell? ⟨gb102, 0, none⟩ = some (.bool true) ∧ w'.cell? ⟨gb102, 1, none⟩ = some (.int .i64 a0_1) ∧ w'.cell? ⟨gb102, 2, none⟩ = some (.int .i64 a0_2) ∧ w'.cell? ⟨gb102, 3, none⟩ = some (.int .i64 a0_3) ∧ w'.cell? ⟨gb102, 4, none⟩ = some (.int .i64 a0_4) ∧ w'.cell? ⟨gb102, 5, none⟩ = some (.int .i64 a0_5)) (ds := []) #[false, false, false, false, false, false, false, false, false] (by kernel_rfl) rfl rfl ⟨(YG BK102.out 0).trans rfl, (YG BK102.out 1).trans rfl, (YG BK102.out 2).trans rfl, (YG BK102.out 3).trans rfl, (YG BK102.out 4).trans rfl, (YG BK102.out 5).trans rfl⟩ (fun hHeld => ?_); refine with_tabW height_Check.tab3 height_Check.bits3 (fun HT_ HW_ => ?_)
            generalize wc.drew = w12 at BK102 HB hHeld ⊢
            refine pure_ (i := 0) (N := some 14) (v := ?_) (a' := ?_) #[true, false, false, false, false, false, false, false, false] rfl rfl (any_of HT_.out (by kernel_rfl)) (fun _ _ _ h => h) (Or.inl ⟨by rfl, ?_⟩) ?_ ?_
            rotate_left
            · intro w'
              go_simp; with_reducible rfl
            rotate_left
            · simp only [Act.put, YJ, YK, YL, i64_w, i32_w]
              rfl
            refine pure_ (i := 1) (N := some 15) (v := ?_) (a' := ?_) #[true, true, false, false, false, false, false, false, false] rfl rfl (any_of HT_.out (by kernel_rfl)) (fun _ _ _ h => h) (Or.inl ⟨by rfl, ?_⟩) ?_ ?_
            rotate_left
            · intro w'
              go_simp; with_reducible rfl
            rotate_left
            · simp only [Act.put, YJ, YK, YL, i64_w, i32_w]
              rfl
            refine pure_ (i := 3) (N := some 17) (v := ?_) (a' := ?_) #[true, true, false, true, false, false, false, false, false] rfl rfl (any_of HT_.out (by kernel_rfl)) (fun _ _ _ h => h) (Or.inl ⟨by rfl, ?_⟩) ?_ ?_
            rotate_left
            · intro w'
              go_simp; with_reducible rfl
            rotate_left
            · simp only [Act.put, YJ, YK, YL, i64_w, i32_w]
              rfl
            refine take_ (i := 2) (N := some 16) (v := ?_) (a' := ?_) #[true, true, true, true, false, false, false, false, false] rfl rfl (take_ofW HT_.out HW_.out (by kernel_rfl)) (fun _ _ _ h => h) (Or.inl ⟨by rfl, ?_⟩) hHeld ?_ ?_
            rotate_left
            · rintro w' ⟨s0, s1, s2, s3, s4, s5⟩
              go_simp; with_reducible rfl
            rotate_left
            · simp only [Act.put, YJ, YK, YL, i64_w, i32_w]
              rfl
            refine take_ (i := 4) (N := some 18) (v := ?_) (a' := ?_) #[true, true, true, true, true, false, false, false, false] rfl rfl (take_ofW HT_.out HW_.out (by kernel_rfl)) (fun _ _ _ h => h) (Or.inl ⟨by rfl, ?_⟩) hHeld ?_ ?_
            rotate_left
            · rintro w' ⟨s0, s1, s2, s3, s4, s5⟩
              go_simp; with_reducible rfl
            rotate_left
            · simp only [Act.put, YJ, YK, YL, i64_w, i32_w]
              rfl
            refine one_ (i := 5) (N := some 19) #[true, true, true, true, true, true, false, false, false] rfl rfl (one_of HT_.out (by kernel_rfl)) (by decide) (fun K hK => ?_)
            refine goes_ Try.func21 (by kernel_rfl) rfl #[.int .i64 a0_5] (by rfl) rfl rfl (by (try simp only [List.map_toArray, List.map_cons, List.map_nil]); first | done | rfl | (simp only [List.length_drop, List.length_take]; rfl)) ?_
            with_reducible refine (height_Null.calls a0_5 t103 t104 t105 t106 t107 t108 _ A9.out).mono ?_
            rintro e w13 ⟨rfl, hb⟩
            refine ⟨_, rfl, ?_⟩
            have n0_ := YI (blk_below (g := gb102) (o := .cells #[.bool true, .int .i64 a0_1, .int .i64 a0_2, .int .i64 a0_3, .int .i64 a0_4, .int .i64 a0_5] 23 (0, 0)) (by (with_reducible repeat (first | refine YD ?_ _ | refine YE ?_ | refine YF ?_ _)); exact BK102.out) hb)
            have n1_ := YI (below_step (by repeat (first | (with_reducible first | exact HB.out | apply YA | apply YB | apply YC | refine below_set ?_ GE102.out) | exact HB.out)) hb)
            clear BK102; clear HB; have BK102 := n0_; have HB := n1_; clear n0_ n1_; (try clear hb); (try clear hb2); (try clear hk); (try clear hi)
            refine hK.out _ _ ⟨(YG BK102.out 0).trans rfl, (YG BK102.out 1).trans rfl, (YG BK102.out 2).trans rfl, (YG BK102.out 3).trans rfl, (YG BK102.out 4).trans rfl, (YG BK102.out 5).trans rfl⟩ (fun hHeld => ?_)
            clear hK K
            refine norm_ (a' := ?_) ?_ ?_
            rotate_left
            · show Act.put _ (some 19) _ = _
              simp only [Act.put, YJ, YK, YL, i64_w, i32_w]
              rfl
            refine pure_ (i := 6) (N := some 20) (v := ?_) (a' := ?_) #[true, true, true, true, true, true, true, false, false] rfl rfl (any_of HT_.out (by kernel_rfl)) (fun _ _ _ h => h) (Or.inl ⟨by rfl, ?_⟩) ?_ ?_
            rotate_left
            · intro w'
              go_simp; with_reducible rfl
            rotate_left
            · simp only [Act.put, YJ, YK, YL, i64_w, i32_w]
              rfl
            refine pure_ (i := 7) (N := some 21) (v := ?_) (a' := ?_) #[true, true, true, true, true, true, true, true, false] rfl rfl (any_of HT_.out (by kernel_rfl)) (fun _ _ _ h => h) (Or.inl ⟨by rfl, ?_⟩) ?_ ?_
            rotate_left
            · intro w'
              go_simp; with_reducible rfl
            rotate_left
            · simp only [Act.put, YJ, YK, YL, i64_w, i32_w]
              rfl
            refine pure_ (i := 8) (N := some 3) (v := ?_) (a' := ?_) #[true, true, true, true, true, true, true, true, true] rfl rfl (any_of HT_.out (by kernel_rfl)) (fun _ _ _ h => h) (Or.inl ⟨by rfl, ?_⟩) ?_ ?_
            rotate_left
            · intro w'
              go_simp; with_reducible rfl
            rotate_left
            · simp only [Act.put, YJ, YK, YL, i64_w, i32_w]
              rfl
            refine done_ (done_of HT_.out (by kernel_rfl)) ?_
            try go_wp2
            go_ret
            exact ⟨by first | rfl | (simp [errW_none, errW_some] <;> rfl) | (simp [*, errW_none, errW_some] <;> rfl), by repeat (first | (with_reducible first | exact HB.out | apply YA | apply YB | apply YC | refine below_set ?_ GE102.out) | exact HB.out)⟩
          rw [if_neg c10] at H
          have c10b0 : (t103 && (a0_1 == t104 && (a0_2 == t105 && (a0_3 == t106 && (a0_4 == t107 && (a0_5 == t108)))))) = false := by simpa using c10
          clear c10
          obtain rfl := Option.some.inj H
          have hcz14_0 : wc.cell? ⟨gb102, 0, none⟩ = some (.bool true) := (YG BK102.out 0).trans rfl
          have hcz14_1 : wc.cell? ⟨gb102, 1, none⟩ = some (.int .i64 a0_1) := (YG BK102.out 1).trans rfl
          have hcz14_2 : wc.cell? ⟨gb102, 2, none⟩ = some (.int .i64 a0_2) := (YG BK102.out 2).trans rfl
          have hcz14_3 : wc.cell? ⟨gb102, 3, none⟩ = some (.int .i64 a0_3) := (YG BK102.out 3).trans rfl
          have hcz14_4 : wc.cell? ⟨gb102, 4, none⟩ = some (.int .i64 a0_4) := (YG BK102.out 4).trans rfl
          have hcz14_5 : wc.cell? ⟨gb102, 5, none⟩ = some (.int .i64 a0_5) := (YG BK102.out 5).trans rfl
          have hfz14_0 := YH BK102.out 0
          have hfz14_1 := YH BK102.out 1
          have hfz14_2 := YH BK102.out 2
          have hfz14_3 := YH BK102.out 3
          have hfz14_4 := YH BK102.out 4
          have hfz14_5 := YH BK102.out 5
          try go_wp2
          have n0_ := YI (YE BK102.out)
          have n1_ := YI (YC HB.out)
          clear BK102; clear HB; have BK102 := n0_; have HB := n1_; clear n0_ n1_
          refine start_ (n := 9) (S := fun w' => w'.cell? ⟨gb102, 0, none⟩ = some (.bool true) ∧ w'.cell? ⟨gb102, 1, none⟩ = some (.int .i64 a0_1) ∧ w'.cell? ⟨gb102, 2, none⟩ = some (.int .i64 a0_2) ∧ w'.cell? ⟨gb102, 3, none⟩ = some (.int .i64 a0_3) ∧ w'.cell? ⟨gb102, 4, none⟩ = some (.int .i64 a0_4) ∧ w'.cell? ⟨gb102, 5, none⟩ = some (.int .i64 a0_5)) (ds := []) #[false, false, false, false, false, false, false, false, false] (by kernel_rfl) rfl rfl ⟨(YG BK102.out 0).trans rfl, (YG BK102.out 1).trans rfl, (YG BK102.out 2).trans rfl, (YG BK102.out 3).trans rfl, (YG BK102.out 4).trans rfl, (YG BK102.out 5).trans rfl⟩ (fun hHeld => ?_); refine with_tabW height_Check.tab3 height_Check.bits3 (fun HT_ HW_ => ?_)
          generalize wc.drew = w15 at BK102 HB hHeld ⊢
          refine pure_ (i := 0) (N := some 14) (v := ?_) (a' := ?_) #[true, false, false, false, false, false, false, false, false] rfl rfl (any_of HT_.out (by kernel_rfl)) (fun _ _ _ h => h) (Or.inl ⟨by rfl, ?_⟩) ?_ ?_
          rotate_left
          · intro w'
            go_simp; with_reducible rfl
          rotate_left
          · simp only [Act.put, YJ, YK, YL, i64_w, i32_w]
            rfl
          refine pure_ (i := 1) (N := some 15) (v := ?_) (a' := ?_) #[true, true, false, false, false, false, false, false, false] rfl rfl (any_of HT_.out (by kernel_rfl)) (fun _ _ _ h => h) (Or.inl ⟨by rfl, ?_⟩) ?_ ?_
          rotate_left
          · intro w'
            go_simp; with_reducible rfl
          rotate_left
          · simp only [Act.put, YJ, YK, YL, i64_w, i32_w]
            rfl
          refine pure_ (i := 3) (N := some 17) (v := ?_) (a' := ?_) #[true, true, false, true, false, false, false, false, false] rfl rfl (any_of HT_.out (by kernel_rfl)) (fun _ _ _ h => h) (Or.inl ⟨by rfl, ?_⟩) ?_ ?_
          rotate_left
          · intro w'
            go_simp; with_reducible rfl
          rotate_left
          · simp only [Act.put, YJ, YK, YL, i64_w, i32_w]
            rfl
          refine take_ (i := 2) (N := some 16) (v := ?_) (a' := ?_) #[true, true, true, true, false, false, false, false, false] rfl rfl (take_ofW HT_.out HW_.out (by kernel_rfl)) (fun _ _ _ h => h) (Or.inl ⟨by rfl, ?_⟩) hHeld ?_ ?_
          rotate_left
          · rintro w' ⟨s0, s1, s2, s3, s4, s5⟩
            go_simp; with_reducible rfl
          rotate_left
          · simp only [Act.put, YJ, YK, YL, i64_w, i32_w]
            rfl
          refine take_ (i := 4) (N := some 18) (v := ?_) (a' := ?_) #[true, true, true, true, true, false, false, false, false] rfl rfl (take_ofW HT_.out HW_.out (by kernel_rfl)) (fun _ _ _ h => h) (Or.inl ⟨by rfl, ?_⟩) hHeld ?_ ?_
          rotate_left
          · rintro w' ⟨s0, s1, s2, s3, s4, s5⟩
            go_simp; with_reducible rfl
          rotate_left
          · simp only [Act.put, YJ, YK, YL, i64_w, i32_w]
            rfl
          refine one_ (i := 5) (N := some 19) #[true, true, true, true, true, true, false, false, false] rfl rfl (one_of HT_.out (by kernel_rfl)) (by decide) (fun K hK => ?_)
          refine goes_ Try.func21 (by kernel_rfl) rfl #[.int .i64 a0_5] (by rfl) rfl rfl (by (try simp only [List.map_toArray, List.map_cons, List.map_nil]); first | done | rfl | (simp only [List.length_drop, List.length_take]; rfl)) ?_
          with_reducible refine (height_Null.calls a0_5 t103 t104 t105 t106 t107 t108 _ A9.out).mono ?_
          rintro e w16 ⟨rfl, hb⟩
          refine ⟨_, rfl, ?_⟩
          have n0_ := YI (blk_below (g := gb102) (o := .cells #[.bool true, .int .i64 a0_1, .int .i64 a0_2, .int .i64 a0_3, .int .i64 a0_4, .int .i64 a0_5] 23 (0, 0)) (by (with_reducible repeat (first | refine YD ?_ _ | refine YE ?_ | refine YF ?_ _)); exact BK102.out) hb)
          have n1_ := YI (below_step (by repeat (first | (with_reducible first | exact HB.out | apply YA | apply YB | apply YC | refine below_set ?_ GE102.out) | exact HB.out)) hb)
          clear BK102; clear HB; have BK102 := n0_; have HB := n1_; clear n0_ n1_; (try clear hb); (try clear hb2); (try clear hk); (try clear hi)
          refine hK.out _ _ ⟨(YG BK102.out 0).trans rfl, (YG BK102.out 1).trans rfl, (YG BK102.out 2).trans rfl, (YG BK102.out 3).trans rfl, (YG BK102.out 4).trans rfl, (YG BK102.out 5).trans rfl⟩ (fun hHeld => ?_)
          clear hK K
          refine norm_ (a' := ?_) ?_ ?_
          rotate_left
          · show Act.put _ (some 19) _ = _
            simp only [Act.put, YJ, YK, YL, i64_w, i32_w]
            rfl
          refine pure_ (i := 6) (N := some 20) (v := ?_) (a' := ?_) #[true, true, true, true, true, true, true, false, false] rfl rfl (any_of HT_.out (by kernel_rfl)) (fun _ _ _ h => h) (Or.inl ⟨by rfl, ?_⟩) ?_ ?_
          rotate_left
          · intro w'
            go_simp; with_reducible rfl
          rotate_left
          · simp only [Act.put, YJ, YK, YL, i64_w, i32_w]
            rfl
          refine pure_ (i := 7) (N := some 21) (v := ?_) (a' := ?_) #[true, true, true, true, true, true, true, true, false] rfl rfl (any_of HT_.out (by kernel_rfl)) (fun _ _ _ h => h) (Or.inl ⟨by rfl, ?_⟩) ?_ ?_
          rotate_left
          · intro w'
            go_simp; with_reducible rfl
          rotate_left
          · simp only [Act.put, YJ, YK, YL, i64_w, i32_w]
            rfl
          refine pure_ (i := 8) (N := some 3) (v := ?_) (a' := ?_) #[true, true, true, true, true, true, true, true, true] rfl rfl (any_of HT_.out (by kernel_rfl)) (fun _ _ _ h => h) (Or.inl ⟨by rfl, ?_⟩) ?_ ?_
          rotate_left
          · intro w'
            go_simp; with_reducible rfl
          rotate_left
          · simp only [Act.put, YJ, YK, YL, i64_w, i32_w]
            rfl
          refine done_ (done_of HT_.out (by kernel_rfl)) ?_
          try go_wp2
          go_ret
          exact ⟨by first | rfl | (simp [errW_none, errW_some] <;> rfl) | (simp [*, errW_none, errW_some] <;> rfl), by repeat (first | (with_reducible first | exact HB.out | apply YA | apply YB | apply YC | refine below_set ?_ GE102.out) | exact HB.out)⟩
        replace c8 := Bool.eq_false_iff.mpr c8
        subst c8
        have H1 : (some 1) = some r := by rw [if_neg (show ¬ (false = true) by decide)] at H; exact H
        clear H
        have H := H1
        clear H1
        obtain rfl := Option.some.inj H
        have hcz17_0 : wc.cell? ⟨gb102, 0, none⟩ = some (.bool true) := (YG BK102.out 0).trans rfl
        have hcz17_1 : wc.cell? ⟨gb102, 1, none⟩ = some (.int .i64 a0_1) := (YG BK102.out 1).trans rfl
        have hcz17_2 : wc.cell? ⟨gb102, 2, none⟩ = some (.int .i64 a0_2) := (YG BK102.out 2).trans rfl
        have hcz17_3 : wc.cell? ⟨gb102, 3, none⟩ = some (.int .i64 a0_3) := (YG BK102.out 3).trans rfl
        have hcz17_4 : wc.cell? ⟨gb102, 4, none⟩ = some (.int .i64 a0_4) := (YG BK102.out 4).trans rfl
        have hcz17_5 : wc.cell? ⟨gb102, 5, none⟩ = some (.int .i64 a0_5) := (YG BK102.out 5).trans rfl
        have hfz17_0 := YH BK102.out 0
        have hfz17_1 := YH BK102.out 1
        have hfz17_2 := YH BK102.out 2
        have hfz17_3 := YH BK102.out 3
        have hfz17_4 := YH BK102.out 4
        have hfz17_5 := YH BK102.out 5
        try go_wp2
        have n0_ := YI (YE BK102.out)
        have n1_ := YI (YC HB.out)
        clear BK102; clear HB; have BK102 := n0_; have HB := n1_; clear n0_ n1_
        refine start_ (n := 9) (S := fun w' => True) (ds := []) #[false, false, false, false, false, false, false, false, false] (by kernel_rfl) rfl rfl trivial (fun hHeld => ?_); refine with_tabW height_Check.tab3 height_Check.bits3 (fun HT_ HW_ => ?_)
        generalize wc.drew = w18 at BK102 HB hHeld ⊢
        refine pure_ (i := 0) (N := some 14) (v := ?_) (a' := ?_) #[true, false, false, false, false, false, false, false, false] rfl rfl (any_of HT_.out (by kernel_rfl)) (fun _ _ _ h => h) (Or.inl ⟨by rfl, ?_⟩) ?_ ?_
        rotate_left
        · intro w'
          go_simp; with_reducible rfl
        rotate_left
        · simp only [Act.put, YJ, YK, YL, i64_w, i32_w]
          rfl
        refine pure_ (i := 1) (N := some 15) (v := ?_) (a' := ?_) #[true, true, false, false, false, false, false, false, false] rfl rfl (any_of HT_.out (by kernel_rfl)) (fun _ _ _ h => h) (Or.inl ⟨by rfl, ?_⟩) ?_ ?_
        rotate_left
        · intro w'
          go_simp; with_reducible rfl
        rotate_left
        · simp only [Act.put, YJ, YK, YL, i64_w, i32_w]
          rfl
        refine pure_ (i := 2) (N := some 16) (v := undef) (a' := ?_) #[true, true, true, false, false, false, false, false, false] rfl rfl (any_of HT_.out (by kernel_rfl)) (fun _ _ _ h => h) (Or.inr ⟨by rfl, rfl⟩) ?_ ?_
        rotate_left
        · simp only [Act.put, YJ, YK, YL, i64_w, i32_w]
          rfl
        refine pure_ (i := 3) (N := some 17) (v := undef) (a' := ?_) #[true, true, true, true, false, false, false, false, false] rfl rfl (any_of HT_.out (by kernel_rfl)) (fun _ _ _ h => h) (Or.inr ⟨by rfl, rfl⟩) ?_ ?_
        rotate_left
        · simp only [Act.put, YJ, YK, YL, i64_w, i32_w]
          rfl
        refine pure_ (i := 4) (N := some 18) (v := undef) (a' := ?_) #[true, true, true, true, true, false, false, false, false] rfl rfl (any_of HT_.out (by kernel_rfl)) (fun _ _ _ h => h) (Or.inr ⟨by rfl, rfl⟩) ?_ ?_
        rotate_left
        · simp only [Act.put, YJ, YK, YL, i64_w, i32_w]
          rfl
        refine pure_ (i := 5) (N := some 19) (v := undef) (a' := ?_) #[true, true, true, true, true, true, false, false, false] rfl rfl (any_of HT_.out (by kernel_rfl)) (fun _ _ _ h => h) (Or.inr ⟨by rfl, rfl⟩) ?_ ?_
        rotate_left
        · simp only [Act.put, YJ, YK, YL, i64_w, i32_w]
          rfl
        refine pure_ (i := 6) (N := some 20) (v := undef) (a' := ?_) #[true, true, true, true, true, true, true, false, false] rfl rfl (any_of HT_.out (by kernel_rfl)) (fun _ _ _ h => h) (Or.inr ⟨by rfl, rfl⟩) ?_ ?_
        rotate_left
        · simp only [Act.put, YJ, YK, YL, i64_w, i32_w]
          rfl
        refine pure_ (i := 7) (N := some 21) (v := ?_) (a' := ?_) #[true, true, true, true, true, true, true, true, false] rfl rfl (any_of HT_.out (by kernel_rfl)) (fun _ _ _ h => h) (Or.inl ⟨by rfl, ?_⟩) ?_ ?_
        rotate_left
        · intro w'
          go_simp; with_reducible rfl
        rotate_left
        · simp only [Act.put, YJ, YK, YL, i64_w, i32_w]
          rfl
        refine pure_ (i := 8) (N := some 3) (v := ?_) (a' := ?_) #[true, true, true, true, true, true, true, true, true] rfl rfl (any_of HT_.out (by kernel_rfl)) (fun _ _ _ h => h) (Or.inl ⟨by rfl, ?_⟩) ?_ ?_
        rotate_left
        · intro w'
          go_simp; with_reducible rfl
        rotate_left
        · simp only [Act.put, YJ, YK, YL, i64_w, i32_w]
          rfl
        refine done_ (done_of HT_.out (by kernel_rfl)) ?_
        try go_wp2
        go_ret
        exact ⟨by first | rfl | (simp [errW_none, errW_some] <;> rfl) | (simp [*, errW_none, errW_some] <;> rfl), by repeat (first | (with_reducible first | exact HB.out | apply YA | apply YB | apply YC | refine below_set ?_ GE102.out) | exact HB.out)⟩
      replace c7 := Bool.eq_false_iff.mpr c7
      subst c7
      have H1 : (if x3_1 = true then (if a0_1 ≥ 0 then (if a0_1 ≤ 4611686018427387903 then (if a0_2 ≥ 0 then (if a0_2 < 64 then (if (a0_3 / 2) = 0 then (if a0_4 ≥ (-1099511627776) then (if a0_4 ≤ 1099511627776 then (some 0) else (some 1)) else (some 1)) else (some 1)) else (some 1)) else (some 1)) else (some 1)) else (some 1)) else (some 1)) = some r := by rw [if_neg (show ¬ (false = true) by decide)] at H; exact H
      clear H
      have H := H1
      clear H1
      by_cases c19 : x3_1 = true
      · subst c19
        have H1 : (if a0_1 ≥ 0 then (if a0_1 ≤ 4611686018427387903 then (if a0_2 ≥ 0 then (if a0_2 < 64 then (if (a0_3 / 2) = 0 then (if a0_4 ≥ (-1099511627776) then (if a0_4 ≤ 1099511627776 then (some 0) else (some 1)) else (some 1)) else (some 1)) else (some 1)) else (some 1)) else (some 1)) else (some 1)) = some r := by rw [if_pos rfl] at H; exact H
        clear H
        have H := H1
        clear H1
        by_cases c20 : a0_1 ≥ 0
        · rw [if_pos c20] at H
          have c20b0 : decide (0 ≤ a0_1) = true := decide_eq_true c20; clear c20
          by_cases c21 : a0_1 ≤ 4611686018427387903
          · rw [if_pos c21] at H
            have c21b0 : decide (a0_1 ≤ 4611686018427387903) = true := decide_eq_true c21; clear c21
            by_cases c22 : a0_2 ≥ 0
            · rw [if_pos c22] at H
              have c22b0 : decide (0 ≤ a0_2) = true := decide_eq_true c22; clear c22
              by_cases c23 : a0_2 < 64
              · rw [if_pos c23] at H
                have c23b0 : decide (a0_2 < 64) = true := decide_eq_true c23; clear c23
                by_cases c24 : (a0_3 / 2) = 0
                · rw [if_pos c24] at H
                  have c24b0 : ((a0_3 / 2) == 0) = true := beq_iff_eq.mpr c24
                  have c24b1 : ((a0_3 / 2) != 0) = false := bne_eq_false_iff_eq.mpr c24
                  clear c24
                  by_cases c25 : a0_4 ≥ (-1099511627776)
                  · rw [if_pos c25] at H
                    have c25b0 : decide ((-1099511627776) ≤ a0_4) = true := decide_eq_true c25; clear c25
                    by_cases c26 : a0_4 ≤ 1099511627776
                    · rw [if_pos c26] at H
                      have c26b0 : decide (a0_4 ≤ 1099511627776) = true := decide_eq_true c26; clear c26
                      obtain rfl := Option.some.inj H
                      have hcz27_0 : wc.cell? ⟨gb102, 0, none⟩ = some (.bool false) := (YG BK102.out 0).trans rfl
                      have hcz27_1 : wc.cell? ⟨gb102, 1, none⟩ = some (.int .i64 a0_1) := (YG BK102.out 1).trans rfl
                      have hcz27_2 : wc.cell? ⟨gb102, 2, none⟩ = some (.int .i64 a0_2) := (YG BK102.out 2).trans rfl
                      have hcz27_3 : wc.cell? ⟨gb102, 3, none⟩ = some (.int .i64 a0_3) := (YG BK102.out 3).trans rfl
                      have hcz27_4 : wc.cell? ⟨gb102, 4, none⟩ = some (.int .i64 a0_4) := (YG BK102.out 4).trans rfl
                      have hcz27_5 : wc.cell? ⟨gb102, 5, none⟩ = some (.int .i64 a0_5) := (YG BK102.out 5).trans rfl
                      have hfz27_0 := YH BK102.out 0
                      have hfz27_1 := YH BK102.out 1
                      have hfz27_2 := YH BK102.out 2
                      have hfz27_3 := YH BK102.out 3
                      have hfz27_4 := YH BK102.out 4
                      have hfz27_5 := YH BK102.out 5
                      go_wp2
                      go_ret
                      exact ⟨by first | rfl | (simp [errW_none, errW_some] <;> rfl) | (simp [*, errW_none, errW_some] <;> rfl), by repeat (first | (with_reducible first | exact HB.out | apply YA | apply YB | apply YC | refine below_set ?_ GE102.out) | exact HB.out)⟩
                    rw [if_neg c26] at H; have c26b0 : decide (a0_4 ≤ 1099511627776) = false := decide_eq_false c26; clear c26
                    obtain rfl := Option.some.inj H
                    have hcz28_0 : wc.cell? ⟨gb102, 0, none⟩ = some (.bool false) := (YG BK102.out 0).trans rfl
                    have hcz28_1 : wc.cell? ⟨gb102, 1, none⟩ = some (.int .i64 a0_1) := (YG BK102.out 1).trans rfl
                    have hcz28_2 : wc.cell? ⟨gb102, 2, none⟩ = some (.int .i64 a0_2) := (YG BK102.out 2).trans rfl
                    have hcz28_3 : wc.cell? ⟨gb102, 3, none⟩ = some (.int .i64 a0_3) := (YG BK102.out 3).trans rfl
                    have hcz28_4 : wc.cell? ⟨gb102, 4, none⟩ = some (.int .i64 a0_4) := (YG BK102.out 4).trans rfl
                    have hcz28_5 : wc.cell? ⟨gb102, 5, none⟩ = some (.int .i64 a0_5) := (YG BK102.out 5).trans rfl
                    have hfz28_0 := YH BK102.out 0
                    have hfz28_1 := YH BK102.out 1
                    have hfz28_2 := YH BK102.out 2
                    have hfz28_3 := YH BK102.out 3
                    have hfz28_4 := YH BK102.out 4
                    have hfz28_5 := YH BK102.out 5
                    go_wp2
                    go_ret
                    exact ⟨by first | rfl | (simp [errW_none, errW_some] <;> rfl) | (simp [*, errW_none, errW_some] <;> rfl), by repeat (first | (with_reducible first | exact HB.out | apply YA | apply YB | apply YC | refine below_set ?_ GE102.out) | exact HB.out)⟩
                  rw [if_neg c25] at H; have c25b0 : decide ((-1099511627776) ≤ a0_4) = false := decide_eq_false c25; clear c25
                  obtain rfl := Option.some.inj H
                  have hcz29_0 : wc.cell? ⟨gb102, 0, none⟩ = some (.bool false) := (YG BK102.out 0).trans rfl
                  have hcz29_1 : wc.cell? ⟨gb102, 1, none⟩ = some (.int .i64 a0_1) := (YG BK102.out 1).trans rfl
                  have hcz29_2 : wc.cell? ⟨gb102, 2, none⟩ = some (.int .i64 a0_2) := (YG BK102.out 2).trans rfl
                  have hcz29_3 : wc.cell? ⟨gb102, 3, none⟩ = some (.int .i64 a0_3) := (YG BK102.out 3).trans rfl
                  have hcz29_4 : wc.cell? ⟨gb102, 4, none⟩ = some (.int .i64 a0_4) := (YG BK102.out 4).trans rfl
                  have hcz29_5 : wc.cell? ⟨gb102, 5, none⟩ = some (.int .i64 a0_5) := (YG BK102.out 5).trans rfl
                  have hfz29_0 := YH BK102.out 0
                  have hfz29_1 := YH BK102.out 1
                  have hfz29_2 := YH BK102.out 2
                  have hfz29_3 := YH BK102.out 3
                  have hfz29_4 := YH BK102.out 4
                  have hfz29_5 := YH BK102.out 5
                  go_wp2
                  go_ret
                  exact ⟨by first | rfl | (simp [errW_none, errW_some] <;> rfl) | (simp [*, errW_none, errW_some] <;> rfl), by repeat (first | (with_reducible first | exact HB.out | apply YA | apply YB | apply YC | refine below_set ?_ GE102.out) | exact HB.out)⟩
                rw [if_neg c24] at H
                have c24b0 : ((a0_3 / 2) == 0) = false := beq_eq_false_iff_ne.mpr c24
                have c24b1 : ((a0_3 / 2) != 0) = true := bne_iff_ne.mpr c24
                obtain rfl := Option.some.inj H
                have hcz30_0 : wc.cell? ⟨gb102, 0, none⟩ = some (.bool false) := (YG BK102.out 0).trans rfl
                have hcz30_1 : wc.cell? ⟨gb102, 1, none⟩ = some (.int .i64 a0_1) := (YG BK102.out 1).trans rfl
                have hcz30_2 : wc.cell? ⟨gb102, 2, none⟩ = some (.int .i64 a0_2) := (YG BK102.out 2).trans rfl
                have hcz30_3 : wc.cell? ⟨gb102, 3, none⟩ = some (.int .i64 a0_3) := (YG BK102.out 3).trans rfl
                have hcz30_4 : wc.cell? ⟨gb102, 4, none⟩ = some (.int .i64 a0_4) := (YG BK102.out 4).trans rfl
                have hcz30_5 : wc.cell? ⟨gb102, 5, none⟩ = some (.int .i64 a0_5) := (YG BK102.out 5).trans rfl
                have hfz30_0 := YH BK102.out 0
                have hfz30_1 := YH BK102.out 1
                have hfz30_2 := YH BK102.out 2
                have hfz30_3 := YH BK102.out 3
                have hfz30_4 := YH BK102.out 4
                have hfz30_5 := YH BK102.out 5
                go_wp2
                go_ret
                exact ⟨by first | rfl | (simp [errW_none, errW_some] <;> rfl) | (simp [*, errW_none, errW_some] <;> rfl), by repeat (first | (with_reducible first | exact HB.out | apply YA | apply YB | apply YC | refine below_set ?_ GE102.out) | exact HB.out)⟩
              rw [if_neg c23] at H; have c23b0 : decide (a0_2 < 64) = false := decide_eq_false c23; clear c23
              obtain rfl := Option.some.inj H
              have hcz31_0 : wc.cell? ⟨gb102, 0, none⟩ = some (.bool false) := (YG BK102.out 0).trans rfl
              have hcz31_1 : wc.cell? ⟨gb102, 1, none⟩ = some (.int .i64 a0_1) := (YG BK102.out 1).trans rfl
              have hcz31_2 : wc.cell? ⟨gb102, 2, none⟩ = some (.int .i64 a0_2) := (YG BK102.out 2).trans rfl
              have hcz31_3 : wc.cell? ⟨gb102, 3, none⟩ = some (.int .i64 a0_3) := (YG BK102.out 3).trans rfl
              have hcz31_4 : wc.cell? ⟨gb102, 4, none⟩ = some (.int .i64 a0_4) := (YG BK102.out 4).trans rfl
              have hcz31_5 : wc.cell? ⟨gb102, 5, none⟩ = some (.int .i64 a0_5) := (YG BK102.out 5).trans rfl
              have hfz31_0 := YH BK102.out 0
              have hfz31_1 := YH BK102.out 1
              have hfz31_2 := YH BK102.out 2
              have hfz31_3 := YH BK102.out 3
              have hfz31_4 := YH BK102.out 4
              have hfz31_5 := YH BK102.out 5
              go_wp2
              go_ret
              exact ⟨by first | rfl | (simp [errW_none, errW_some] <;> rfl) | (simp [*, errW_none, errW_some] <;> rfl), by repeat (first | (with_reducible first | exact HB.out | apply YA | apply YB | apply YC | refine below_set ?_ GE102.out) | exact HB.out)⟩
            rw [if_neg c22] at H; have c22b0 : decide (0 ≤ a0_2) = false := decide_eq_false c22; clear c22
            obtain rfl := Option.some.inj H
            have hcz32_0 : wc.cell? ⟨gb102, 0, none⟩ = some (.bool false) := (YG BK102.out 0).trans rfl
            have hcz32_1 : wc.cell? ⟨gb102, 1, none⟩ = some (.int .i64 a0_1) := (YG BK102.out 1).trans rfl
            have hcz32_2 : wc.cell? ⟨gb102, 2, none⟩ = some (.int .i64 a0_2) := (YG BK102.out 2).trans rfl
            have hcz32_3 : wc.cell? ⟨gb102, 3, none⟩ = some (.int .i64 a0_3) := (YG BK102.out 3).trans rfl
            have hcz32_4 : wc.cell? ⟨gb102, 4, none⟩ = some (.int .i64 a0_4) := (YG BK102.out 4).trans rfl
            have hcz32_5 : wc.cell? ⟨gb102, 5, none⟩ = some (.int .i64 a0_5) := (YG BK102.out 5).trans rfl
            have hfz32_0 := YH BK102.out 0
            have hfz32_1 := YH BK102.out 1
            have hfz32_2 := YH BK102.out 2
            have hfz32_3 := YH BK102.out 3
            have hfz32_4 := YH BK102.out 4
            have hfz32_5 := YH BK102.out 5
            go_wp2
            go_ret
            exact ⟨by first | rfl | (simp [errW_none, errW_some] <;> rfl) | (simp [*, errW_none, errW_some] <;> rfl), by repeat (first | (with_reducible first | exact HB.out | apply YA | apply YB | apply YC | refine below_set ?_ GE102.out) | exact HB.out)⟩
          rw [if_neg c21] at H; have c21b0 : decide (a0_1 ≤ 4611686018427387903) = false := decide_eq_false c21; clear c21
          obtain rfl := Option.some.inj H
          have hcz33_0 : wc.cell? ⟨gb102, 0, none⟩ = some (.bool false) := (YG BK102.out 0).trans rfl
          have hcz33_1 : wc.cell? ⟨gb102, 1, none⟩ = some (.int .i64 a0_1) := (YG BK102.out 1).trans rfl
          have hcz33_2 : wc.cell? ⟨gb102, 2, none⟩ = some (.int .i64 a0_2) := (YG BK102.out 2).trans rfl
          have hcz33_3 : wc.cell? ⟨gb102, 3, none⟩ = some (.int .i64 a0_3) := (YG BK102.out 3).trans rfl
          have hcz33_4 : wc.cell? ⟨gb102, 4, none⟩ = some (.int .i64 a0_4) := (YG BK102.out 4).trans rfl
          have hcz33_5 : wc.cell? ⟨gb102, 5, none⟩ = some (.int .i64 a0_5) := (YG BK102.out 5).trans rfl
          have hfz33_0 := YH BK102.out 0
          have hfz33_1 := YH BK102.out 1
          have hfz33_2 := YH BK102.out 2
          have hfz33_3 := YH BK102.out 3
          have hfz33_4 := YH BK102.out 4
          have hfz33_5 := YH BK102.out 5
          go_wp2
          go_ret
          exact ⟨by first | rfl | (simp [errW_none, errW_some] <;> rfl) | (simp [*, errW_none, errW_some] <;> rfl), by repeat (first | (with_reducible first | exact HB.out | apply YA | apply YB | apply YC | refine below_set ?_ GE102.out) | exact HB.out)⟩
        rw [if_neg c20] at H; have c20b0 : decide (0 ≤ a0_1) = false := decide_eq_false c20; clear c20
        obtain rfl := Option.some.inj H
        have hcz34_0 : wc.cell? ⟨gb102, 0, none⟩ = some (.bool false) := (YG BK102.out 0).trans rfl
        have hcz34_1 : wc.cell? ⟨gb102, 1, none⟩ = some (.int .i64 a0_1) := (YG BK102.out 1).trans rfl
        have hcz34_2 : wc.cell? ⟨gb102, 2, none⟩ = some (.int .i64 a0_2) := (YG BK102.out 2).trans rfl
        have hcz34_3 : wc.cell? ⟨gb102, 3, none⟩ = some (.int .i64 a0_3) := (YG BK102.out 3).trans rfl
        have hcz34_4 : wc.cell? ⟨gb102, 4, none⟩ = some (.int .i64 a0_4) := (YG BK102.out 4).trans rfl
        have hcz34_5 : wc.cell? ⟨gb102, 5, none⟩ = some (.int .i64 a0_5) := (YG BK102.out 5).trans rfl
        have hfz34_0 := YH BK102.out 0
        have hfz34_1 := YH BK102.out 1
        have hfz34_2 := YH BK102.out 2
        have hfz34_3 := YH BK102.out 3
        have hfz34_4 := YH BK102.out 4
        have hfz34_5 := YH BK102.out 5
        go_wp2
        go_ret
        exact ⟨by first | rfl | (simp [errW_none, errW_some] <;> rfl) | (simp [*, errW_none, errW_some] <;> rfl), by repeat (first | (with_reducible first | exact HB.out | apply YA | apply YB | apply YC | refine below_set ?_ GE102.out) | exact HB.out)⟩
      replace c19 := Bool.eq_false_iff.mpr c19
      subst c19
      have H1 : (some 1) = some r := by rw [if_neg (show ¬ (false = true) by decide)] at H; exact H
      clear H
      have H := H1
      clear H1
      obtain rfl := Option.some.inj H
      have hcz35_0 : wc.cell? ⟨gb102, 0, none⟩ = some (.bool false) := (YG BK102.out 0).trans rfl
      have hcz35_1 : wc.cell? ⟨gb102, 1, none⟩ = some (.int .i64 a0_1) := (YG BK102.out 1).trans rfl
      have hcz35_2 : wc.cell? ⟨gb102, 2, none⟩ = some (.int .i64 a0_2) := (YG BK102.out 2).trans rfl
      have hcz35_3 : wc.cell? ⟨gb102, 3, none⟩ = some (.int .i64 a0_3) := (YG BK102.out 3).trans rfl
      have hcz35_4 : wc.cell? ⟨gb102, 4, none⟩ = some (.int .i64 a0_4) := (YG BK102.out 4).trans rfl
      have hcz35_5 : wc.cell? ⟨gb102, 5, none⟩ = some (.int .i64 a0_5) := (YG BK102.out 5).trans rfl
      have hfz35_0 := YH BK102.out 0
      have hfz35_1 := YH BK102.out 1
      have hfz35_2 := YH BK102.out 2
      have hfz35_3 := YH BK102.out 3
      have hfz35_4 := YH BK102.out 4
      have hfz35_5 := YH BK102.out 5
      go_wp2
      go_ret
      exact ⟨by first | rfl | (simp [errW_none, errW_some] <;> rfl) | (simp [*, errW_none, errW_some] <;> rfl), by repeat (first | (with_reducible first | exact HB.out | apply YA | apply YB | apply YC | refine below_set ?_ GE102.out) | exact HB.out)⟩

end Go.Proofs.Ytjeahmlahkngaaa.P
