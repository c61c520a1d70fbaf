-- WRITTEN BY xprint.py, a program of this session that drives the kit's printer.
import Derived.Test.YtjeahmlahkngaaaP0
import Derived.Test.YtjeahmlahkngaaaP2
import Derived.Test.YtjeahmlahkngaaaP4
import Derived.Test.YtjeahmlahkngaaaP5
import Derived.Test.YtjeahmlahkngaaaP9
import Derived.Test.YtjeahmlahkngaaaP10
namespace Go.Proofs.Ytjeahmlahkngaaa.P
open Go.RowKit Go.Proofs.YtjeahmlahkngaaaW.PrintWords Go.Proofs.YtjeahmlahkngaaaW.PrintLast Go.Proofs.YtjeahmlahkngaaaW.PrintMore
open Go.Proofs.YtjeahmlahkngaaaW.PrintWords renaming below_alloc → YA, pw_below_drewN → YB, below_drew1 → YC, below_step → YD, blk_drewN → YE, blk_drew → YF, blk_alloc → YG, blk_cell → YH, blk_frozen → YI, blk_below → YJ
open Go.Proofs.YtjeahmlahkngaaaW.PrintWords.Aside0 renaming mk → YK
open List renaming setIfInBounds_toArray → YL, set_cons_zero → YM, set_cons_succ → YN, map_toArray → YO, length_take → YP, length_drop → YQ
open Go.Proofs.YtjeahmlahkngaaaW.PrintWords.Kd renaming R_alloc → YR, R_drewN → YS, R_drew → YT
attribute [local go_sem] max2_int min2_int max_two min_two max_three min_three max_four min_four   -- for this text's walks alone
set_option linter.unusedVariables false
set_option linter.unusedSimpArgs false

/-! ### thalweglaw02_awake: function 20 -/
def thalweglaw02_awake.f (k : Nat)  : Option (Bool) := (height_At.f k 0 0 0 1 2).bind fun bt183 => ((height_Null.f 5).bind fun bt191 => ((height_Bytes.f k bt191.1 bt191.2.1 bt191.2.2.1 bt191.2.2.2.1 bt191.2.2.2.2.1 bt191.2.2.2.2.2).bind fun bt197 => ((height_Zero.f 3).bind fun bt201 => ((height_Less.f k bt201.1 bt201.2.1 bt201.2.2.1 bt201.2.2.2.1 bt201.2.2.2.2.1 bt201.2.2.2.2.2 bt183.1 bt183.2.1 bt183.2.2.1 bt183.2.2.2.1 bt183.2.2.2.2.1 bt183.2.2.2.2.2.1).bind fun t207 => (if t207 = true then (if bt183.2.2.2.2.2.2 = 0 then (if (strOfNums bt197.1).toList = ([0, 5] : List UInt8) then (if bt197.2 = bt183.2.2.2.2.2.2 then ((height_Less.f k bt183.1 bt183.2.1 bt183.2.2.1 bt183.2.2.2.1 bt183.2.2.2.2.1 bt183.2.2.2.2.2.1 bt183.1 bt183.2.1 bt183.2.2.1 bt183.2.2.2.1 bt183.2.2.2.2.1 bt183.2.2.2.2.2.1).bind fun t208 => (some (!t208))) else (none)) else (none)) else (none)) else (none))))))
theorem thalweglaw02_awake.mono : ∀ k, LeO (thalweglaw02_awake.f k ) (thalweglaw02_awake.f (k + 1) ) := by
  intro  k
  unfold thalweglaw02_awake.f
  repeat' first
      | (with_reducible exact height_At.mono _ _ _ _ _ _)
      | (with_reducible exact height_Bytes.mono _ _ _ _ _ _ _)
      | (with_reducible exact height_Less.mono _ _ _ _ _ _ _ _ _ _ _ _ _)
      | (with_reducible exact LeO.refl _)
      | (with_reducible exact LeO.none _)
      | (with_reducible refine LeO.ite ?_ ?_)
      | (with_reducible refine LeO.bind ?_ (fun _ => ?_))
      | exact height_At.mono _ _ _ _ _ _
      | exact height_Bytes.mono _ _ _ _ _ _ _
      | exact height_Less.mono _ _ _ _ _ _ _ _ _ _ _ _ _
      | exact LeO.none _
      | refine LeO.ite ?_ ?_
      | refine LeO.bind ?_ (fun _ => ?_)
def thalweglaw02_awake.T3 : Bool × List (List Nat × List Nat) := (true, [([], []), ([], []), ([0, 1, 0], [0, 1]), ([2, 2], [2]), ([3], [3]), ([4, 3], [3, 4]), ([3, 5], [3, 5]), ([6, 3], [6]), ([7], [7]), ([8, 7], [7, 8]), ([9, 7], [7, 9]), ([7, 10], [7, 10]), ([11, 7], [11]), ([12], [12]), ([12], [12]), ([13, 14, 12], [12, 13, 14]), ([12, 15], [12, 15]), ([16, 12], [16]), ([17], [17]), ([17], [17]), ([18, 19, 17, 17], [17, 18, 19]), ([20, 17], [17, 20]), ([17, 21], [17, 21]), ([22, 20, 0, 1, 2, 3, 4, 5, 6, 7, 8, 9, 10, 11, 12, 13, 14, 15, 16, 17, 18, 19, 20, 21, 22], [22])])
def thalweglaw02_awake.B3 : List Nat := [0, 0, 3, 7, 15, 31, 63, 127, 255, 511, 1023, 2047, 4095, 8191, 8191, 32767, 65535, 131071, 262143, 262143, 1048575, 2097151, 4194303, 8388607]
theorem thalweglaw02_awake.tab3 : rtab .any (opsOf Try.f20 3) = thalweglaw02_awake.T3 := by kernel_rfl
theorem thalweglaw02_awake.bits3 : waitsOk thalweglaw02_awake.T3.2 thalweglaw02_awake.B3 = true := by kernel_rfl
set_option maxHeartbeats 8000000 in
set_option maxRecDepth 100000 in
theorem thalweglaw02_awake.calls (k : Nat)  (r : Bool) (w : World) (h : thalweglaw02_awake.f k  = some r) :
    Calls Try.prog 20 #[] w fun e w' => e = .returned (.bool r) ∧ Below w.heap.size w w' := by
  have hu25 := Try.underlying25
  have hu23 := Try.underlying23
  have HB := YK (Below.refl w.heap.size w)
  have H : ((height_At.f k 0 0 0 1 2).bind fun bt183 => ((height_Null.f 5).bind fun bt191 => ((height_Bytes.f k bt191.1 bt191.2.1 bt191.2.2.1 bt191.2.2.2.1 bt191.2.2.2.2.1 bt191.2.2.2.2.2).bind fun bt197 => ((height_Zero.f 3).bind fun bt201 => ((height_Less.f k bt201.1 bt201.2.1 bt201.2.2.1 bt201.2.2.2.1 bt201.2.2.2.2.1 bt201.2.2.2.2.2 bt183.1 bt183.2.1 bt183.2.2.1 bt183.2.2.2.1 bt183.2.2.2.2.1 bt183.2.2.2.2.2.1).bind fun t207 => (if t207 = true then (if bt183.2.2.2.2.2.2 = 0 then (if (strOfNums bt197.1).toList = ([0, 5] : List UInt8) then (if bt197.2 = bt183.2.2.2.2.2.2 then ((height_Less.f k bt183.1 bt183.2.1 bt183.2.2.1 bt183.2.2.2.1 bt183.2.2.2.2.1 bt183.2.2.2.2.2.1 bt183.1 bt183.2.1 bt183.2.2.1 bt183.2.2.2.1 bt183.2.2.2.2.1 bt183.2.2.2.2.2.1).bind fun t208 => (some (!t208))) else (none)) else (none)) else (none)) else (none))))))) = some r := h
  clear h; replace H := Option.bind_eq_some_iff.mp H
  obtain ⟨⟨t183, t184, t185, t186, t187, t188, t189⟩, A10, H⟩ := H
  replace H : ((height_Null.f 5).bind fun bt191 => ((height_Bytes.f k bt191.1 bt191.2.1 bt191.2.2.1 bt191.2.2.2.1 bt191.2.2.2.2.1 bt191.2.2.2.2.2).bind fun bt197 => ((height_Zero.f 3).bind fun bt201 => ((height_Less.f k bt201.1 bt201.2.1 bt201.2.2.1 bt201.2.2.2.1 bt201.2.2.2.2.1 bt201.2.2.2.2.2 t183 t184 t185 t186 t187 t188).bind fun t207 => (if t207 = true then (if t189 = 0 then (if (strOfNums bt197.1).toList = ([0, 5] : List UInt8) then (if bt197.2 = t189 then ((height_Less.f k t183 t184 t185 t186 t187 t188 t183 t184 t185 t186 t187 t188).bind fun t208 => (some (!t208))) else (none)) else (none)) else (none)) else (none)))))) = some r := H
  have A1 := YK A10; clear A10; replace H := Option.bind_eq_some_iff.mp H
  obtain ⟨⟨t191, t192, t193, t194, t195, t196⟩, A20, H⟩ := H
  replace H : ((height_Bytes.f k t191 t192 t193 t194 t195 t196).bind fun bt197 => ((height_Zero.f 3).bind fun bt201 => ((height_Less.f k bt201.1 bt201.2.1 bt201.2.2.1 bt201.2.2.2.1 bt201.2.2.2.2.1 bt201.2.2.2.2.2 t183 t184 t185 t186 t187 t188).bind fun t207 => (if t207 = true then (if t189 = 0 then (if (strOfNums bt197.1).toList = ([0, 5] : List UInt8) then (if bt197.2 = t189 then ((height_Less.f k t183 t184 t185 t186 t187 t188 t183 t184 t185 t186 t187 t188).bind fun t208 => (some (!t208))) else (none)) else (none)) else (none)) else (none))))) = some r := H
  have A2 := YK A20; clear A20; replace H := Option.bind_eq_some_iff.mp H
  obtain ⟨⟨t197, t200⟩, A30, H⟩ := H
  replace H : ((height_Zero.f 3).bind fun bt201 => ((height_Less.f k bt201.1 bt201.2.1 bt201.2.2.1 bt201.2.2.2.1 bt201.2.2.2.2.1 bt201.2.2.2.2.2 t183 t184 t185 t186 t187 t188).bind fun t207 => (if t207 = true then (if t189 = 0 then (if (strOfNums t197).toList = ([0, 5] : List UInt8) then (if t200 = t189 then ((height_Less.f k t183 t184 t185 t186 t187 t188 t183 t184 t185 t186 t187 t188).bind fun t208 => (some (!t208))) else (none)) else (none)) else (none)) else (none)))) = some r := H
  have A3 := YK A30; clear A30; replace H := Option.bind_eq_some_iff.mp H
  obtain ⟨⟨t201, t202, t203, t204, t205, t206⟩, A40, H⟩ := H
  replace H : ((height_Less.f k t201 t202 t203 t204 t205 t206 t183 t184 t185 t186 t187 t188).bind fun t207 => (if t207 = true then (if t189 = 0 then (if (strOfNums t197).toList = ([0, 5] : List UInt8) then (if t200 = t189 then ((height_Less.f k t183 t184 t185 t186 t187 t188 t183 t184 t185 t186 t187 t188).bind fun t208 => (some (!t208))) else (none)) else (none)) else (none)) else (none))) = some r := H
  have A4 := YK A40; clear A40; replace H := Option.bind_eq_some_iff.mp H; obtain ⟨t207, A50, H⟩ := H
  replace H : (if t207 = true then (if t189 = 0 then (if (strOfNums t197).toList = ([0, 5] : List UInt8) then (if t200 = t189 then ((height_Less.f k t183 t184 t185 t186 t187 t188 t183 t184 t185 t186 t187 t188).bind fun t208 => (some (!t208))) else (none)) else (none)) else (none)) else (none)) = some r := H
  have A5 := YK A50; clear A50
  by_cases c6 : t207 = true
  · subst c6
    have H1 : (if t189 = 0 then (if (strOfNums t197).toList = ([0, 5] : List UInt8) then (if t200 = t189 then ((height_Less.f k t183 t184 t185 t186 t187 t188 t183 t184 t185 t186 t187 t188).bind fun t208 => (some (!t208))) else (none)) else (none)) else (none)) = some r := by rw [if_pos rfl] at H; exact H
    clear H
    have H := H1
    clear H1
    by_cases c7 : t189 = 0
    rotate_left
    · rw [if_neg c7] at H
      exact absurd H (by simp)
    rw [if_pos c7] at H
    have c7b0 : (t189 == 0) = true := beq_iff_eq.mpr c7
    have c7b1 : (t189 != 0) = false := bne_eq_false_iff_eq.mpr c7
    clear c7
    by_cases c8 : (strOfNums t197).toList = ([0, 5] : List UInt8)
    rotate_left
    · rw [if_neg c8] at H
      exact absurd H (by simp)
    rw [if_pos c8] at H
    have c8b0 : ((strOfNums t197).toList == ([0, 5] : List UInt8)) = true := beq_iff_eq.mpr c8
    have c8b1 : ((strOfNums t197).toList != ([0, 5] : List UInt8)) = false := bne_eq_false_iff_eq.mpr c8
    clear c8
    by_cases c9 : t200 = t189
    rotate_left
    · rw [if_neg c9] at H
      exact absurd H (by simp)
    rw [if_pos c9] at H
    have c9b0 : (t200 == t189) = true := beq_iff_eq.mpr c9
    have c9b1 : (t200 != t189) = false := bne_eq_false_iff_eq.mpr c9
    clear c9; replace H := Option.bind_eq_some_iff.mp H; obtain ⟨t208, A100, H⟩ := H
    replace H : (some (!t208)) = some r := H
    have A10 := YK A100; clear A100
    obtain rfl := Option.some.inj H
    go_enter Try.func20, Try.ntmps20
    try go_wp2_with (first | ((with_reducible refine gate_callee (f := 8) rfl ?_); refine goesL_ (some 7) rfl rfl Try.func8 (by kernel_rfl) rfl #[.agg #[.int .i64 0, .int .i64 0, .int .i64 0], .int .i64 1, .int .i64 2] rfl (by (try simp only [YO, List.map_cons, List.map_nil]); first | done | rfl | (simp only [YQ, YP]; rfl)) ?_; (with_reducible refine (height_At.calls k 0 0 0 1 2 t183 t184 t185 t186 t187 t188 t189 _ A1.out).mono ?_); rintro e w11 ⟨rfl, hb⟩; refine ⟨_, rfl, ?_⟩; have n0_ := YK (YD (by repeat (first | (with_reducible first | exact HB.out | apply YA | apply YB | apply YC) | exact HB.out)) hb); clear HB; have HB := n0_; clear n0_; (try clear hb); (try clear hb2); (try clear hk); (try clear hi)) | ((with_reducible refine gate_dst (N := 1) rfl ?_); refine box_event ?hg (N := 1) ?hd (cs := #[.bool false, .int .i64 0, .int .i64 0, .int .i64 0, .int .i64 0, .int .i64 0]) (t := 23) ?hr ?_; (case hd => rfl); (case hg => rfl); (case hr => first | (go_simp; done) | (go_simp; rfl)); intro gb190 hg w12 hbox hb; have n0_ := YK (YD (by repeat (first | (with_reducible first | exact HB.out | apply YA | apply YB | apply YC) | exact HB.out)) hb); have n1_ := YK (hbox); have n2_ := YK ((by rw [hg]; exact (below_size (by repeat (first | (with_reducible first | exact HB.out | apply YA | apply YB | apply YC) | exact HB.out))) : w.heap.size ≤ gb190)); have n3_ := YK ((by rw [hg]; exact (below_size (by repeat (first | (with_reducible first | exact HB.out | apply YA | apply YB | apply YC) | exact HB.out))) : w.heap.size ≤ gb190)); clear HB; have HB := n0_; have BK190 := n1_; have GW190 := n2_; have GE190 := n3_; clear n0_ n1_ n2_ n3_; clear hb hbox hg; have hcz13_0 : w12.cell? ⟨gb190, 0, none⟩ = some (.bool false) := (YH BK190.out 0).trans rfl; have hcz13_1 : w12.cell? ⟨gb190, 1, none⟩ = some (.int .i64 0) := (YH BK190.out 1).trans rfl; have hcz13_2 : w12.cell? ⟨gb190, 2, none⟩ = some (.int .i64 0) := (YH BK190.out 2).trans rfl; have hcz13_3 : w12.cell? ⟨gb190, 3, none⟩ = some (.int .i64 0) := (YH BK190.out 3).trans rfl; have hcz13_4 : w12.cell? ⟨gb190, 4, none⟩ = some (.int .i64 0) := (YH BK190.out 4).trans rfl; have hcz13_5 : w12.cell? ⟨gb190, 5, none⟩ = some (.int .i64 0) := (YH BK190.out 5).trans rfl; have hfz13_0 := YI BK190.out 0; have hfz13_1 := YI BK190.out 1; have hfz13_2 := YI BK190.out 2; have hfz13_3 := YI BK190.out 3; have hfz13_4 := YI BK190.out 4; have hfz13_5 := YI BK190.out 5) | ((with_reducible refine gate_callee (f := 21) rfl ?_); refine goesL_ (some 11) rfl rfl Try.func21 (by kernel_rfl) rfl #[.int .i64 5] rfl (by (try simp only [YO, List.map_cons, List.map_nil]); first | done | rfl | (simp only [YQ, YP]; rfl)) ?_; (with_reducible refine (height_Null.calls 5 t191 t192 t193 t194 t195 t196 _ A2.out).mono ?_); rintro e w14 ⟨rfl, hb⟩; refine ⟨_, rfl, ?_⟩; have n0_ := YK (YJ (g := gb190) (o := .cells #[.bool t183, .int .i64 t184, .int .i64 t185, .int .i64 t186, .int .i64 t187, .int .i64 t188] 23 (0, 0)) (by (with_reducible repeat (first | refine YE ?_ _ | refine YF ?_ | refine YG ?_ _)); refine blk_put (cs := #[.bool t183, .int .i64 t184, .int .i64 t185, .int .i64 t186, .int .i64 t187, .int .i64 0]) ?_ 5 _ rfl; (with_reducible repeat (first | refine YE ?_ _ | refine YF ?_ | refine YG ?_ _)); refine blk_put (cs := #[.bool t183, .int .i64 t184, .int .i64 t185, .int .i64 t186, .int .i64 0, .int .i64 0]) ?_ 4 _ rfl; (with_reducible repeat (first | refine YE ?_ _ | refine YF ?_ | refine YG ?_ _)); refine blk_put (cs := #[.bool t183, .int .i64 t184, .int .i64 t185, .int .i64 0, .int .i64 0, .int .i64 0]) ?_ 3 _ rfl; (with_reducible repeat (first | refine YE ?_ _ | refine YF ?_ | refine YG ?_ _)); refine blk_put (cs := #[.bool t183, .int .i64 t184, .int .i64 0, .int .i64 0, .int .i64 0, .int .i64 0]) ?_ 2 _ rfl; (with_reducible repeat (first | refine YE ?_ _ | refine YF ?_ | refine YG ?_ _)); refine blk_put (cs := #[.bool t183, .int .i64 0, .int .i64 0, .int .i64 0, .int .i64 0, .int .i64 0]) ?_ 1 _ rfl; (with_reducible repeat (first | refine YE ?_ _ | refine YF ?_ | refine YG ?_ _)); refine blk_put (cs := #[.bool false, .int .i64 0, .int .i64 0, .int .i64 0, .int .i64 0, .int .i64 0]) ?_ 0 _ rfl; (with_reducible repeat (first | refine YE ?_ _ | refine YF ?_ | refine YG ?_ _)); exact BK190.out) hb); have n1_ := YK (YD (by repeat (first | (with_reducible first | exact HB.out | apply YA | apply YB | apply YC | refine below_set ?_ GE190.out) | exact HB.out)) hb); clear BK190; clear HB; have BK190 := n0_; have HB := n1_; clear n0_ n1_; (try clear hb); (try clear hb2); (try clear hk); (try clear hi)) | ((with_reducible refine gate_callee (f := 10) rfl ?_); refine goesL_ (some 12) rfl rfl Try.func10 (by kernel_rfl) rfl #[.agg #[.bool t191, .int .i64 t192, .int .i64 t193, .int .i64 t194, .int .i64 t195, .int .i64 t196]] rfl (by (try simp only [YO, List.map_cons, List.map_nil]); first | done | rfl | (simp only [YQ, YP]; rfl)) ?_; (with_reducible refine (height_Bytes.calls k t191 t192 t193 t194 t195 t196 t197 t200 _ A3.out).mono ?_); rintro e w15 ⟨v198, rfl, ho0, hb⟩; refine ⟨_, rfl, ?_⟩; have n0_ := YK (Kd.R_lower ho0 (below_size (by repeat (first | (with_reducible first | exact HB.out | apply YA | apply YB | apply YC | refine below_set ?_ GE190.out) | exact HB.out)))); have n1_ := YK (YJ (g := gb190) (o := .cells #[.bool t183, .int .i64 t184, .int .i64 t185, .int .i64 t186, .int .i64 t187, .int .i64 t188] 23 (0, 0)) (by (with_reducible repeat (first | refine YE ?_ _ | refine YF ?_ | refine YG ?_ _)); exact BK190.out) hb); have n2_ := YK (YD (by repeat (first | (with_reducible first | exact HB.out | apply YA | apply YB | apply YC | refine below_set ?_ GE190.out) | exact HB.out)) hb); clear BK190; clear HB; have HO199 := n0_; have BK190 := n1_; have HB := n2_; clear n0_ n1_ n2_; (try clear hb); (try clear hb2); (try clear hk); (try clear hi); (try clear ho0)))
    have n0_ := YK (YT HO199.out)
    have n1_ := YK (YF BK190.out)
    have n2_ := YK (YC HB.out)
    clear HO199; clear BK190; clear HB; have HO199 := n0_; have BK190 := n1_; have HB := n2_; clear n0_ n1_ n2_
    refine start_ (n := 24) (S := fun w' => w'.cell? ⟨gb190, 0, none⟩ = some (.bool t183) ∧ w'.cell? ⟨gb190, 1, none⟩ = some (.int .i64 t184) ∧ w'.cell? ⟨gb190, 2, none⟩ = some (.int .i64 t185) ∧ w'.cell? ⟨gb190, 3, none⟩ = some (.int .i64 t186) ∧ w'.cell? ⟨gb190, 4, none⟩ = some (.int .i64 t187) ∧ w'.cell? ⟨gb190, 5, none⟩ = some (.int .i64 t188) ∧ (convert 29 9 v198).run Try.prog w' = .ok (.string (strOfNums t197)) w') (ds := []) #[false, false, false, false, false, false, false, false, false, false, false, false, false, false, false, false, false, false, false, false, false, false, false, false] (by kernel_rfl) rfl rfl ⟨(YH BK190.out 0).trans rfl, (YH BK190.out 1).trans rfl, (YH BK190.out 2).trans rfl, (YH BK190.out 3).trans rfl, (YH BK190.out 4).trans rfl, (YH BK190.out 5).trans rfl, (own_string (P := Try.prog) Try.underlying29 Try.underlying5 Try.underlying9 (Kd.own_of_R (by (with_reducible repeat (first | apply YR | apply YS | apply YT)); exact HO199.out)))⟩ (fun hHeld => ?_); refine with_tabW thalweglaw02_awake.tab3 thalweglaw02_awake.bits3 (fun HT_ HW_ => ?_)
    generalize w15.drew = w16 at HO199 BK190 HB hHeld ⊢
    refine take_ (i := 1) (N := some 16) (v := ?_) (a' := ?_) #[false, true, false, false, false, false, false, false, false, false, false, false, false, false, false, false, false, false, false, false, false, false, false, false] rfl rfl (take_ofW HT_.out HW_.out (by kernel_rfl)) (fun _ _ _ h => h) (Or.inl ⟨by rfl, ?_⟩) hHeld ?_ ?_
    rotate_left
    · rintro w' ⟨s0, s1, s2, s3, s4, s5, s6⟩
      go_simp; with_reducible rfl
    rotate_left
    · simp only [Act.put, YL, YM, YN, i64_w, i32_w]
      rfl
    refine one_ (i := 0) (N := some 15) #[true, true, false, false, false, false, false, false, false, false, false, false, false, false, false, false, false, false, false, false, false, false, false, false] rfl rfl (one_of HT_.out (by kernel_rfl)) (by decide) (fun K hK => ?_)
    refine goes_ Try.func23 (by kernel_rfl) rfl #[.int .i64 3] (by rfl) rfl rfl (by (try simp only [YO, List.map_cons, List.map_nil]); first | done | rfl | (simp only [YQ, YP]; rfl)) ?_
    with_reducible refine (height_Zero.calls 3 t201 t202 t203 t204 t205 t206 _ A4.out).mono ?_
    rintro e w17 ⟨rfl, hb⟩
    refine ⟨_, rfl, ?_⟩
    have n0_ := YK (Kd.R_below (by (with_reducible repeat (first | apply YR | apply YS | apply YT)); exact HO199.out) hb)
    have n1_ := YK (YJ (g := gb190) (o := .cells #[.bool t183, .int .i64 t184, .int .i64 t185, .int .i64 t186, .int .i64 t187, .int .i64 t188] 23 (0, 0)) (by (with_reducible repeat (first | refine YE ?_ _ | refine YF ?_ | refine YG ?_ _)); exact BK190.out) hb)
    have n2_ := YK (YD (by repeat (first | (with_reducible first | exact HB.out | apply YA | apply YB | apply YC | refine below_set ?_ GE190.out) | exact HB.out)) hb)
    clear HO199; clear BK190; clear HB; have HO199 := n0_; have BK190 := n1_; have HB := n2_; clear n0_ n1_ n2_; (try clear hb); (try clear hb2); (try clear hk); (try clear hi)
    refine hK.out _ _ ⟨(YH BK190.out 0).trans rfl, (YH BK190.out 1).trans rfl, (YH BK190.out 2).trans rfl, (YH BK190.out 3).trans rfl, (YH BK190.out 4).trans rfl, (YH BK190.out 5).trans rfl, (own_string (P := Try.prog) Try.underlying29 Try.underlying5 Try.underlying9 (Kd.own_of_R (by (with_reducible repeat (first | apply YR | apply YS | apply YT)); exact HO199.out)))⟩ (fun hHeld => ?_)
    clear hK K
    refine norm_ (a' := ?_) ?_ ?_
    rotate_left
    · show Act.put _ (some 15) _ = _
      simp only [Act.put, YL, YM, YN, i64_w, i32_w]
      rfl
    refine one_ (i := 2) (N := some 17) #[true, true, true, false, false, false, false, false, false, false, false, false, false, false, false, false, false, false, false, false, false, false, false, false] rfl rfl (one_of HT_.out (by kernel_rfl)) (by decide) (fun K hK => ?_)
    refine goes_ Try.func14 (by kernel_rfl) rfl #[.agg #[.bool t201, .int .i64 t202, .int .i64 t203, .int .i64 t204, .int .i64 t205, .int .i64 t206], .agg #[.bool t183, .int .i64 t184, .int .i64 t185, .int .i64 t186, .int .i64 t187, .int .i64 t188]] (by rfl) rfl rfl (by (try simp only [YO, List.map_cons, List.map_nil]); first | done | rfl | (simp only [YQ, YP]; rfl)) ?_
    with_reducible refine (height_Less.calls k t201 t202 t203 t204 t205 t206 t183 t184 t185 t186 t187 t188 true _ A5.out).mono ?_
    rintro e w18 ⟨rfl, hb⟩
    refine ⟨_, rfl, ?_⟩
    have n0_ := YK (Kd.R_below (by (with_reducible repeat (first | apply YR | apply YS | apply YT)); exact HO199.out) hb)
    have n1_ := YK (YJ (g := gb190) (o := .cells #[.bool t183, .int .i64 t184, .int .i64 t185, .int .i64 t186, .int .i64 t187, .int .i64 t188] 23 (0, 0)) (by (with_reducible repeat (first | refine YE ?_ _ | refine YF ?_ | refine YG ?_ _)); exact BK190.out) hb)
    have n2_ := YK (YD (by repeat (first | (with_reducible first | exact HB.out | apply YA | apply YB | apply YC | refine below_set ?_ GE190.out) | exact HB.out)) hb)
    clear HO199; clear BK190; clear HB; have HO199 := n0_; have BK190 := n1_; have HB := n2_; clear n0_ n1_ n2_; (try clear hb); (try clear hb2); (try clear hk); (try clear hi)
    refine hK.out _ _ ⟨(YH BK190.out 0).trans rfl, (YH BK190.out 1).trans rfl, (YH BK190.out 2).trans rfl, (YH BK190.out 3).trans rfl, (YH BK190.out 4).trans rfl, (YH BK190.out 5).trans rfl, (own_string (P := Try.prog) Try.underlying29 Try.underlying5 Try.underlying9 (Kd.own_of_R (by (with_reducible repeat (first | apply YR | apply YS | apply YT)); exact HO199.out)))⟩ (fun hHeld => ?_)
    clear hK K
    refine norm_ (a' := ?_) ?_ ?_
    rotate_left
    · show Act.put _ (some 17) _ = _
      simp only [Act.put, YL, YM, YN, i64_w, i32_w]
      rfl
    refine pure_ (i := 3) (N := some 18) (v := ?_) (a' := ?_) #[true, true, true, true, false, false, false, false, false, false, false, false, false, false, false, false, false, false, false, false, false, false, false, false] rfl rfl (any_of HT_.out (by kernel_rfl)) (fun _ _ _ h => h) (Or.inl ⟨by rfl, ?_⟩) ?_ ?_
    rotate_left
    · intro w'
      go_simp; with_reducible rfl
    rotate_left
    · simp only [Act.put, YL, YM, YN, i64_w, i32_w]
      rfl
    refine pure_ (i := 4) (N := some 19) (v := ?_) (a' := ?_) #[true, true, true, true, true, false, false, false, false, false, false, false, false, false, false, false, false, false, false, false, false, false, false, false] rfl rfl (any_of HT_.out (by kernel_rfl)) (fun _ _ _ h => h) (Or.inl ⟨by rfl, ?_⟩) ?_ ?_
    rotate_left
    · intro w'
      go_simp; with_reducible rfl
    rotate_left
    · simp only [Act.put, YL, YM, YN, i64_w, i32_w]
      rfl
    refine pure_ (i := 5) (N := some 20) (v := ?_) (a' := ?_) #[true, true, true, true, true, true, false, false, false, false, false, false, false, false, false, false, false, false, false, false, false, false, false, false] rfl rfl (any_of HT_.out (by kernel_rfl)) (fun _ _ _ h => h) (Or.inl ⟨by rfl, ?_⟩) ?_ ?_
    rotate_left
    · intro w'
      go_simp; with_reducible rfl
    rotate_left
    · simp only [Act.put, YL, YM, YN, i64_w, i32_w]
      rfl
    refine pure_ (i := 6) (N := some 21) (v := ?_) (a' := ?_) #[true, true, true, true, true, true, true, false, false, false, false, false, false, false, false, false, false, false, false, false, false, false, false, false] rfl rfl (any_of HT_.out (by kernel_rfl)) (fun _ _ _ h => h) (Or.inl ⟨by rfl, ?_⟩) ?_ ?_
    rotate_left
    · intro w'
      go_simp; with_reducible rfl
    rotate_left
    · simp only [Act.put, YL, YM, YN, i64_w, i32_w]
      rfl
    refine pure_ (i := 7) (N := some 22) (v := ?_) (a' := ?_) #[true, true, true, true, true, true, true, true, false, false, false, false, false, false, false, false, false, false, false, false, false, false, false, false] rfl rfl (any_of HT_.out (by kernel_rfl)) (fun _ _ _ h => h) (Or.inl ⟨by rfl, ?_⟩) ?_ ?_
    rotate_left
    · intro w'
      go_simp; with_reducible rfl
    rotate_left
    · simp only [Act.put, YL, YM, YN, i64_w, i32_w]
      rfl
    refine pure_ (i := 8) (N := some 23) (v := ?_) (a' := ?_) #[true, true, true, true, true, true, true, true, true, false, false, false, false, false, false, false, false, false, false, false, false, false, false, false] rfl rfl (any_of HT_.out (by kernel_rfl)) (fun _ _ _ h => h) (Or.inl ⟨by rfl, ?_⟩) ?_ ?_
    rotate_left
    · intro w'
      go_simp; with_reducible rfl
    rotate_left
    · simp only [Act.put, YL, YM, YN, i64_w, i32_w]
      rfl
    refine take_ (i := 9) (N := some 24) (v := ?_) (a' := ?_) #[true, true, true, true, true, true, true, true, true, true, false, false, false, false, false, false, false, false, false, false, false, false, false, false] rfl rfl (take_ofW HT_.out HW_.out (by kernel_rfl)) (fun _ _ _ h => h) (Or.inl ⟨by rfl, ?_⟩) hHeld ?_ ?_
    rotate_left
    · rintro w' ⟨s0, s1, s2, s3, s4, s5, s6⟩
      go_simp; with_reducible rfl
    rotate_left
    · simp only [Act.put, YL, YM, YN, i64_w, i32_w]
      rfl
    refine pure_ (i := 10) (N := some 25) (v := ?_) (a' := ?_) #[true, true, true, true, true, true, true, true, true, true, true, false, false, false, false, false, false, false, false, false, false, false, false, false] rfl rfl (any_of HT_.out (by kernel_rfl)) (fun _ _ _ h => h) (Or.inl ⟨by rfl, ?_⟩) ?_ ?_
    rotate_left
    · intro w'
      go_simp; with_reducible rfl
    rotate_left
    · simp only [Act.put, YL, YM, YN, i64_w, i32_w]
      rfl
    refine pure_ (i := 11) (N := some 26) (v := ?_) (a' := ?_) #[true, true, true, true, true, true, true, true, true, true, true, true, false, false, false, false, false, false, false, false, false, false, false, false] rfl rfl (any_of HT_.out (by kernel_rfl)) (fun _ _ _ h => h) (Or.inl ⟨by rfl, ?_⟩) ?_ ?_
    rotate_left
    · intro w'
      go_simp; with_reducible rfl
    rotate_left
    · simp only [Act.put, YL, YM, YN, i64_w, i32_w]
      rfl
    refine pure_ (i := 12) (N := some 27) (v := ?_) (a' := ?_) #[true, true, true, true, true, true, true, true, true, true, true, true, true, false, false, false, false, false, false, false, false, false, false, false] rfl rfl (any_of HT_.out (by kernel_rfl)) (fun _ _ _ h => h) (Or.inl ⟨by rfl, ?_⟩) ?_ ?_
    rotate_left
    · intro w'
      go_simp; with_reducible rfl
    rotate_left
    · simp only [Act.put, YL, YM, YN, i64_w, i32_w]
      rfl
    refine pure_ (i := 13) (N := some 28) (v := ?_) (a' := ?_) #[true, true, true, true, true, true, true, true, true, true, true, true, true, true, false, false, false, false, false, false, false, false, false, false] rfl rfl (any_of HT_.out (by kernel_rfl)) (fun _ _ _ h => h) (Or.inl ⟨by rfl, ?_⟩) ?_ ?_
    rotate_left
    · intro w'
      go_simp; with_reducible rfl
    rotate_left
    · simp only [Act.put, YL, YM, YN, i64_w, i32_w]
      rfl
    refine pure_ (i := 14) (N := some 29) (v := ?_) (a' := ?_) #[true, true, true, true, true, true, true, true, true, true, true, true, true, true, true, false, false, false, false, false, false, false, false, false] rfl rfl (any_of HT_.out (by kernel_rfl)) (fun _ _ _ h => h) (Or.inl ⟨by rfl, ?_⟩) ?_ ?_
    rotate_left
    · intro w'
      go_simp; with_reducible rfl
    rotate_left
    · simp only [Act.put, YL, YM, YN, i64_w, i32_w]
      rfl
    refine pure_ (i := 15) (N := some 30) (v := ?_) (a' := ?_) #[true, true, true, true, true, true, true, true, true, true, true, true, true, true, true, true, false, false, false, false, false, false, false, false] rfl rfl (any_of HT_.out (by kernel_rfl)) (fun _ _ _ h => h) (Or.inl ⟨by rfl, ?_⟩) ?_ ?_
    rotate_left
    · intro w'
      go_simp; with_reducible rfl
    rotate_left
    · simp only [Act.put, YL, YM, YN, i64_w, i32_w]
      rfl
    refine pure_ (i := 16) (N := some 31) (v := ?_) (a' := ?_) #[true, true, true, true, true, true, true, true, true, true, true, true, true, true, true, true, true, false, false, false, false, false, false, false] rfl rfl (any_of HT_.out (by kernel_rfl)) (fun _ _ _ h => h) (Or.inl ⟨by rfl, ?_⟩) ?_ ?_
    rotate_left
    · intro w'
      go_simp; with_reducible rfl
    rotate_left
    · simp only [Act.put, YL, YM, YN, i64_w, i32_w]
      rfl
    refine pure_ (i := 17) (N := some 32) (v := ?_) (a' := ?_) #[true, true, true, true, true, true, true, true, true, true, true, true, true, true, true, true, true, true, false, false, false, false, false, false] rfl rfl (any_of HT_.out (by kernel_rfl)) (fun _ _ _ h => h) (Or.inl ⟨by rfl, ?_⟩) ?_ ?_
    rotate_left
    · intro w'
      go_simp; with_reducible rfl
    rotate_left
    · simp only [Act.put, YL, YM, YN, i64_w, i32_w]
      rfl
    refine take_ (i := 18) (N := some 33) (v := ?_) (a' := ?_) #[true, true, true, true, true, true, true, true, true, true, true, true, true, true, true, true, true, true, true, false, false, false, false, false] rfl rfl (take_ofW HT_.out HW_.out (by kernel_rfl)) (fun _ _ _ h => h) (Or.inl ⟨by rfl, ?_⟩) hHeld ?_ ?_
    rotate_left
    · rintro w' ⟨s0, s1, s2, s3, s4, s5, s6⟩
      go_simp; with_reducible rfl
    rotate_left
    · simp only [Act.put, YL, YM, YN, i64_w, i32_w]
      rfl
    refine take_ (i := 19) (N := some 34) (v := ?_) (a' := ?_) #[true, true, true, true, true, true, true, true, true, true, true, true, true, true, true, true, true, true, true, true, false, false, false, false] rfl rfl (take_ofW HT_.out HW_.out (by kernel_rfl)) (fun _ _ _ h => h) (Or.inl ⟨by rfl, ?_⟩) hHeld ?_ ?_
    rotate_left
    · rintro w' ⟨s0, s1, s2, s3, s4, s5, s6⟩
      go_simp; with_reducible rfl
    rotate_left
    · simp only [Act.put, YL, YM, YN, i64_w, i32_w]
      rfl
    refine one_ (i := 20) (N := some 35) #[true, true, true, true, true, true, true, true, true, true, true, true, true, true, true, true, true, true, true, true, true, false, false, false] rfl rfl (one_of HT_.out (by kernel_rfl)) (by decide) (fun K hK => ?_)
    refine goes_ Try.func14 (by kernel_rfl) rfl #[.agg #[.bool t183, .int .i64 t184, .int .i64 t185, .int .i64 t186, .int .i64 t187, .int .i64 t188], .agg #[.bool t183, .int .i64 t184, .int .i64 t185, .int .i64 t186, .int .i64 t187, .int .i64 t188]] (by rfl) rfl rfl (by (try simp only [YO, List.map_cons, List.map_nil]); first | done | rfl | (simp only [YQ, YP]; rfl)) ?_
    with_reducible refine (height_Less.calls k t183 t184 t185 t186 t187 t188 t183 t184 t185 t186 t187 t188 t208 _ A10.out).mono ?_
    rintro e w20 ⟨rfl, hb⟩
    refine ⟨_, rfl, ?_⟩
    have n0_ := YK (Kd.R_below (by (with_reducible repeat (first | apply YR | apply YS | apply YT)); exact HO199.out) hb)
    have n1_ := YK (YJ (g := gb190) (o := .cells #[.bool t183, .int .i64 t184, .int .i64 t185, .int .i64 t186, .int .i64 t187, .int .i64 t188] 23 (0, 0)) (by (with_reducible repeat (first | refine YE ?_ _ | refine YF ?_ | refine YG ?_ _)); exact BK190.out) hb)
    have n2_ := YK (YD (by repeat (first | (with_reducible first | exact HB.out | apply YA | apply YB | apply YC | refine below_set ?_ GE190.out) | exact HB.out)) hb)
    clear HO199; clear BK190; clear HB; have HO199 := n0_; have BK190 := n1_; have HB := n2_; clear n0_ n1_ n2_; (try clear hb); (try clear hb2); (try clear hk); (try clear hi)
    refine hK.out _ _ ⟨(YH BK190.out 0).trans rfl, (YH BK190.out 1).trans rfl, (YH BK190.out 2).trans rfl, (YH BK190.out 3).trans rfl, (YH BK190.out 4).trans rfl, (YH BK190.out 5).trans rfl, (own_string (P := Try.prog) Try.underlying29 Try.underlying5 Try.underlying9 (Kd.own_of_R (by (with_reducible repeat (first | apply YR | apply YS | apply YT)); exact HO199.out)))⟩ (fun hHeld => ?_)
    clear hK K
    refine norm_ (a' := ?_) ?_ ?_
    rotate_left
    · show Act.put _ (some 35) _ = _
      simp only [Act.put, YL, YM, YN, i64_w, i32_w]
      rfl
    refine pure_ (i := 21) (N := some 36) (v := ?_) (a' := ?_) #[true, true, true, true, true, true, true, true, true, true, true, true, true, true, true, true, true, true, true, true, true, true, false, false] rfl rfl (any_of HT_.out (by kernel_rfl)) (fun _ _ _ h => h) (Or.inl ⟨by rfl, ?_⟩) ?_ ?_
    rotate_left
    · intro w'
      go_simp; with_reducible rfl
    rotate_left
    · simp only [Act.put, YL, YM, YN, i64_w, i32_w]
      rfl
    refine pure_ (i := 22) (N := some 37) (v := ?_) (a' := ?_) #[true, true, true, true, true, true, true, true, true, true, true, true, true, true, true, true, true, true, true, true, true, true, true, false] rfl rfl (any_of HT_.out (by kernel_rfl)) (fun _ _ _ h => h) (Or.inl ⟨by rfl, ?_⟩) ?_ ?_
    rotate_left
    · intro w'
      go_simp; with_reducible rfl
    rotate_left
    · simp only [Act.put, YL, YM, YN, i64_w, i32_w]
      rfl
    refine pure_ (i := 23) (N := some 0) (v := ?_) (a' := ?_) #[true, true, true, true, true, true, true, true, true, true, true, true, true, true, true, true, true, true, true, true, true, true, true, true] rfl rfl (any_of HT_.out (by kernel_rfl)) (fun _ _ _ h => h) (Or.inl ⟨by rfl, ?_⟩) ?_ ?_
    rotate_left
    · intro w'
      go_simp; with_reducible rfl
    rotate_left
    · simp only [Act.put, YL, YM, YN, i64_w, i32_w]
      rfl
    refine done_ (done_of HT_.out (by kernel_rfl)) ?_
    try go_wp2
    go_ret
    exact ⟨by first | rfl | (simp [errW_none, errW_some] <;> rfl) | (simp [*, errW_none, errW_some] <;> rfl), by repeat (first | (with_reducible first | exact HB.out | apply YA | apply YB | apply YC | refine below_set ?_ GE190.out) | exact HB.out)⟩
  replace c6 := Bool.eq_false_iff.mpr c6
  subst c6
  have H1 : (none) = some r := by rw [if_neg (show ¬ (false = true) by decide)] at H; exact H
  clear H
  have H := H1
  clear H1
  exact absurd H (by simp)

end Go.Proofs.Ytjeahmlahkngaaa.P
