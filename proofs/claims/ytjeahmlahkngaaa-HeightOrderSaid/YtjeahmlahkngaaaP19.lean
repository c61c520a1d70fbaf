-- WRITTEN BY xprint.py, a program of this session that drives the kit's printer.
import Derived.Test.YtjeahmlahkngaaaP0
import Derived.Test.YtjeahmlahkngaaaP3
import Derived.Test.YtjeahmlahkngaaaP5
import Derived.Test.YtjeahmlahkngaaaP8
import Derived.Test.YtjeahmlahkngaaaP15
import Derived.Test.YtjeahmlahkngaaaP18
namespace Go.Proofs.Ytjeahmlahkngaaa.P
open Go.RowKit Go.Proofs.YtjeahmlahkngaaaW.PrintWords Go.Proofs.YtjeahmlahkngaaaW.PrintLast Go.Proofs.YtjeahmlahkngaaaW.PrintMore
open Go.Proofs.YtjeahmlahkngaaaW.PrintWords renaming below_alloc → YA, pw_below_drewN → YB, below_drew1 → YC, below_step → YD, blk_drewN → YE, blk_drew → YF, blk_alloc → YG, blk_cell → YH, blk_frozen → YI, blk_below → YJ
open Go.Proofs.YtjeahmlahkngaaaW.PrintWords.Aside0 renaming mk → YK
open List renaming setIfInBounds_toArray → YL, set_cons_zero → YM, set_cons_succ → YN, map_toArray → YO, length_take → YP, length_drop → YQ
open Go.Proofs.YtjeahmlahkngaaaW.PrintWords.Kd renaming R_alloc → YR, R_drewN → YS, R_drew → YT
attribute [local go_sem] max2_int min2_int max_two min_two max_three min_three max_four min_four   -- for this text's walks alone
set_option linter.unusedVariables false
set_option linter.unusedSimpArgs false

/-! ### thalweglaw02_awake: function 20 -/
def thalweglaw02_awake.f (k : Nat)  : Option (Bool) := (height_At.f k 0 0 0 1 2).bind fun bt256 => ((height_Null.f 5).bind fun bt264 => ((height_Bytes.f k bt264.1 bt264.2.1 bt264.2.2.1 bt264.2.2.2.1 bt264.2.2.2.2.1 bt264.2.2.2.2.2).bind fun bt270 => ((height_Zero.f 3).bind fun bt274 => ((height_Less.f k bt274.1 bt274.2.1 bt274.2.2.1 bt274.2.2.2.1 bt274.2.2.2.2.1 bt274.2.2.2.2.2 bt256.1 bt256.2.1 bt256.2.2.1 bt256.2.2.2.1 bt256.2.2.2.2.1 bt256.2.2.2.2.2.1).bind fun t280 => (if t280 = true then (if bt256.2.2.2.2.2.2 = 0 then (if (strOfNums bt270.1).toList = ([0, 5] : List UInt8) then (if bt270.2 = bt256.2.2.2.2.2.2 then ((height_Less.f k bt256.1 bt256.2.1 bt256.2.2.1 bt256.2.2.2.1 bt256.2.2.2.2.1 bt256.2.2.2.2.2.1 bt256.1 bt256.2.1 bt256.2.2.1 bt256.2.2.2.1 bt256.2.2.2.2.1 bt256.2.2.2.2.2.1).bind fun t281 => (some (!t281))) else (none)) else (none)) else (none)) else (none))))))
theorem thalweglaw02_awake.mono : ∀ k, LeO (thalweglaw02_awake.f k ) (thalweglaw02_awake.f (k + 1) ) := by
  intro  k
  unfold thalweglaw02_awake.f
  repeat' first
      | (with_reducible exact height_At.mono _ _ _ _ _ _)
      | (with_reducible exact height_Bytes.mono _ _ _ _ _ _ _)
      | (with_reducible exact height_Less.mono _ _ _ _ _ _ _ _ _ _ _ _ _)
      | (with_reducible exact LeO.refl _)
      | (with_reducible exact LeO.none _)
      | (with_reducible refine LeO.ite ?_ ?_)
      | (with_reducible refine LeO.bind ?_ (fun _ => ?_))
      | exact height_At.mono _ _ _ _ _ _
      | exact height_Bytes.mono _ _ _ _ _ _ _
      | exact height_Less.mono _ _ _ _ _ _ _ _ _ _ _ _ _
      | exact LeO.none _
      | refine LeO.ite ?_ ?_
      | refine LeO.bind ?_ (fun _ => ?_)
def thalweglaw02_awake.T3 : Bool × List (List Nat × List Nat) := (true, [([], []), ([], []), ([0, 1, 0], [0, 1]), ([2, 2], [2]), ([3], [3]), ([4, 3], [3, 4]), ([3, 5], [3, 5]), ([6, 3], [6]), ([7], [7]), ([8, 7], [7, 8]), ([9, 7], [7, 9]), ([7, 10], [7, 10]), ([11, 7], [11]), ([12], [12]), ([12], [12]), ([13, 14, 12], [12, 13, 14]), ([12, 15], [12, 15]), ([16, 12], [16]), ([17], [17]), ([17], [17]), ([18, 19, 17, 17], [17, 18, 19]), ([20, 17], [17, 20]), ([17, 21], [17, 21]), ([22, 20, 0, 1, 2, 3, 4, 5, 6, 7, 8, 9, 10, 11, 12, 13, 14, 15, 16, 17, 18, 19, 20, 21, 22], [22])])
def thalweglaw02_awake.B3 : List Nat := [0, 0, 3, 7, 15, 31, 63, 127, 255, 511, 1023, 2047, 4095, 8191, 8191, 32767, 65535, 131071, 262143, 262143, 1048575, 2097151, 4194303, 8388607]
theorem thalweglaw02_awake.tab3 : rtab .any (opsOf Try.f20 3) = thalweglaw02_awake.T3 := by kernel_rfl
theorem thalweglaw02_awake.bits3 : waitsOk thalweglaw02_awake.T3.2 thalweglaw02_awake.B3 = true := by kernel_rfl
set_option maxHeartbeats 8000000 in
set_option maxRecDepth 100000 in
theorem thalweglaw02_awake.calls (k : Nat)  (r : Bool) (w : World) (h : thalweglaw02_awake.f k  = some r) :
    Calls Try.prog 20 #[] w fun e w' => e = .returned (.bool r) ∧ Below w.heap.size w w' := by
  have hu25 := Try.underlying25
  have hu23 := Try.underlying23
  have HB := YK (Below.refl w.heap.size w)
  have H : ((height_At.f k 0 0 0 1 2).bind fun bt256 => ((height_Null.f 5).bind fun bt264 => ((height_Bytes.f k bt264.1 bt264.2.1 bt264.2.2.1 bt264.2.2.2.1 bt264.2.2.2.2.1 bt264.2.2.2.2.2).bind fun bt270 => ((height_Zero.f 3).bind fun bt274 => ((height_Less.f k bt274.1 bt274.2.1 bt274.2.2.1 bt274.2.2.2.1 bt274.2.2.2.2.1 bt274.2.2.2.2.2 bt256.1 bt256.2.1 bt256.2.2.1 bt256.2.2.2.1 bt256.2.2.2.2.1 bt256.2.2.2.2.2.1).bind fun t280 => (if t280 = true then (if bt256.2.2.2.2.2.2 = 0 then (if (strOfNums bt270.1).toList = ([0, 5] : List UInt8) then (if bt270.2 = bt256.2.2.2.2.2.2 then ((height_Less.f k bt256.1 bt256.2.1 bt256.2.2.1 bt256.2.2.2.1 bt256.2.2.2.2.1 bt256.2.2.2.2.2.1 bt256.1 bt256.2.1 bt256.2.2.1 bt256.2.2.2.1 bt256.2.2.2.2.1 bt256.2.2.2.2.2.1).bind fun t281 => (some (!t281))) else (none)) else (none)) else (none)) else (none))))))) = some r := h
  clear h; replace H := Option.bind_eq_some_iff.mp H
  obtain ⟨⟨t256, t257, t258, t259, t260, t261, t262⟩, A10, H⟩ := H
  replace H : ((height_Null.f 5).bind fun bt264 => ((height_Bytes.f k bt264.1 bt264.2.1 bt264.2.2.1 bt264.2.2.2.1 bt264.2.2.2.2.1 bt264.2.2.2.2.2).bind fun bt270 => ((height_Zero.f 3).bind fun bt274 => ((height_Less.f k bt274.1 bt274.2.1 bt274.2.2.1 bt274.2.2.2.1 bt274.2.2.2.2.1 bt274.2.2.2.2.2 t256 t257 t258 t259 t260 t261).bind fun t280 => (if t280 = true then (if t262 = 0 then (if (strOfNums bt270.1).toList = ([0, 5] : List UInt8) then (if bt270.2 = t262 then ((height_Less.f k t256 t257 t258 t259 t260 t261 t256 t257 t258 t259 t260 t261).bind fun t281 => (some (!t281))) else (none)) else (none)) else (none)) else (none)))))) = some r := H
  have A1 := YK A10; clear A10; replace H := Option.bind_eq_some_iff.mp H
  obtain ⟨⟨t264, t265, t266, t267, t268, t269⟩, A20, H⟩ := H
  replace H : ((height_Bytes.f k t264 t265 t266 t267 t268 t269).bind fun bt270 => ((height_Zero.f 3).bind fun bt274 => ((height_Less.f k bt274.1 bt274.2.1 bt274.2.2.1 bt274.2.2.2.1 bt274.2.2.2.2.1 bt274.2.2.2.2.2 t256 t257 t258 t259 t260 t261).bind fun t280 => (if t280 = true then (if t262 = 0 then (if (strOfNums bt270.1).toList = ([0, 5] : List UInt8) then (if bt270.2 = t262 then ((height_Less.f k t256 t257 t258 t259 t260 t261 t256 t257 t258 t259 t260 t261).bind fun t281 => (some (!t281))) else (none)) else (none)) else (none)) else (none))))) = some r := H
  have A2 := YK A20; clear A20; replace H := Option.bind_eq_some_iff.mp H
  obtain ⟨⟨t270, t273⟩, A30, H⟩ := H
  replace H : ((height_Zero.f 3).bind fun bt274 => ((height_Less.f k bt274.1 bt274.2.1 bt274.2.2.1 bt274.2.2.2.1 bt274.2.2.2.2.1 bt274.2.2.2.2.2 t256 t257 t258 t259 t260 t261).bind fun t280 => (if t280 = true then (if t262 = 0 then (if (strOfNums t270).toList = ([0, 5] : List UInt8) then (if t273 = t262 then ((height_Less.f k t256 t257 t258 t259 t260 t261 t256 t257 t258 t259 t260 t261).bind fun t281 => (some (!t281))) else (none)) else (none)) else (none)) else (none)))) = some r := H
  have A3 := YK A30; clear A30; replace H := Option.bind_eq_some_iff.mp H
  obtain ⟨⟨t274, t275, t276, t277, t278, t279⟩, A40, H⟩ := H
  replace H : ((height_Less.f k t274 t275 t276 t277 t278 t279 t256 t257 t258 t259 t260 t261).bind fun t280 => (if t280 = true then (if t262 = 0 then (if (strOfNums t270).toList = ([0, 5] : List UInt8) then (if t273 = t262 then ((height_Less.f k t256 t257 t258 t259 t260 t261 t256 t257 t258 t259 t260 t261).bind fun t281 => (some (!t281))) else (none)) else (none)) else (none)) else (none))) = some r := H
  have A4 := YK A40; clear A40; replace H := Option.bind_eq_some_iff.mp H; obtain ⟨t280, A50, H⟩ := H
  replace H : (if t280 = true then (if t262 = 0 then (if (strOfNums t270).toList = ([0, 5] : List UInt8) then (if t273 = t262 then ((height_Less.f k t256 t257 t258 t259 t260 t261 t256 t257 t258 t259 t260 t261).bind fun t281 => (some (!t281))) else (none)) else (none)) else (none)) else (none)) = some r := H
  have A5 := YK A50; clear A50
  by_cases c6 : t280 = true
  · subst c6
    have H1 : (if t262 = 0 then (if (strOfNums t270).toList = ([0, 5] : List UInt8) then (if t273 = t262 then ((height_Less.f k t256 t257 t258 t259 t260 t261 t256 t257 t258 t259 t260 t261).bind fun t281 => (some (!t281))) else (none)) else (none)) else (none)) = some r := by rw [if_pos rfl] at H; exact H
    clear H
    have H := H1
    clear H1
    by_cases c7 : t262 = 0
    rotate_left
    · rw [if_neg c7] at H
      exact absurd H (by simp)
    rw [if_pos c7] at H
    have c7b0 : (t262 == 0) = true := beq_iff_eq.mpr c7
    have c7b1 : (t262 != 0) = false := bne_eq_false_iff_eq.mpr c7
    clear c7
    by_cases c8 : (strOfNums t270).toList = ([0, 5] : List UInt8)
    rotate_left
    · rw [if_neg c8] at H
      exact absurd H (by simp)
    rw [if_pos c8] at H
    have c8b0 : ((strOfNums t270).toList == ([0, 5] : List UInt8)) = true := beq_iff_eq.mpr c8
    have c8b1 : ((strOfNums t270).toList != ([0, 5] : List UInt8)) = false := bne_eq_false_iff_eq.mpr c8
    clear c8
    by_cases c9 : t273 = t262
    rotate_left
    · rw [if_neg c9] at H
      exact absurd H (by simp)
    rw [if_pos c9] at H
    have c9b0 : (t273 == t262) = true := beq_iff_eq.mpr c9
    have c9b1 : (t273 != t262) = false := bne_eq_false_iff_eq.mpr c9
    clear c9; replace H := Option.bind_eq_some_iff.mp H; obtain ⟨t281, A100, H⟩ := H
    replace H : (some (!t281)) = some r := H
    have A10 := YK A100; clear A100
    obtain rfl := Option.some.inj H
    go_enter Try.func20, Try.ntmps20
    try go_wp2_with (first | ((with_reducible refine gate_callee (f := 8) rfl ?_); refine goesL_ (some 7) rfl rfl Try.func8 (by kernel_rfl) rfl #[.agg #[.int .i64 0, .int .i64 0, .int .i64 0], .int .i64 1, .int .i64 2] rfl (by (try simp only [YO, List.map_cons, List.map_nil]); first | done | rfl | (simp only [YQ, YP]; rfl)) ?_; (with_reducible refine (height_At.calls k 0 0 0 1 2 t256 t257 t258 t259 t260 t261 t262 _ A1.out).mono ?_); rintro e w11 ⟨rfl, hb⟩; refine ⟨_, rfl, ?_⟩; have n0_ := YK (YD (by repeat (first | (with_reducible first | exact HB.out | apply YA | apply YB | apply YC) | exact HB.out)) hb); clear HB; have HB := n0_; clear n0_; (try clear hb); (try clear hb2); (try clear hk); (try clear hi)) | ((with_reducible refine gate_dst (N := 1) rfl ?_); refine box_event ?hg (N := 1) ?hd (cs := #[.bool false, .int .i64 0, .int .i64 0, .int .i64 0, .int .i64 0, .int .i64 0]) (t := 23) ?hr ?_; (case hd => rfl); (case hg => rfl); (case hr => first | (go_simp; done) | (go_simp; rfl)); intro gb263 hg w12 hbox hb; have n0_ := YK (YD (by repeat (first | (with_reducible first | exact HB.out | apply YA | apply YB | apply YC) | exact HB.out)) hb); have n1_ := YK (hbox); have n2_ := YK ((by rw [hg]; exact (below_size (by repeat (first | (with_reducible first | exact HB.out | apply YA | apply YB | apply YC) | exact HB.out))) : w.heap.size ≤ gb263)); have n3_ := YK ((by rw [hg]; exact (below_size (by repeat (first | (with_reducible first | exact HB.out | apply YA | apply YB | apply YC) | exact HB.out))) : w.heap.size ≤ gb263)); clear HB; have HB := n0_; have BK263 := n1_; have GW263 := n2_; have GE263 := n3_; clear n0_ n1_ n2_ n3_; clear hb hbox hg; have hcz13_0 : w12.cell? ⟨gb263, 0, none⟩ = some (.bool false) := (YH BK263.out 0).trans rfl; have hcz13_1 : w12.cell? ⟨gb263, 1, none⟩ = some (.int .i64 0) := (YH BK263.out 1).trans rfl; have hcz13_2 : w12.cell? ⟨gb263, 2, none⟩ = some (.int .i64 0) := (YH BK263.out 2).trans rfl; have hcz13_3 : w12.cell? ⟨gb263, 3, none⟩ = some (.int .i64 0) := (YH BK263.out 3).trans rfl; have hcz13_4 : w12.cell? ⟨gb263, 4, none⟩ = some (.int .i64 0) := (YH BK263.out 4).trans rfl; have hcz13_5 : w12.cell? ⟨gb263, 5, none⟩ = some (.int .i64 0) := (YH BK263.out 5).trans rfl; have hfz13_0 := YI BK263.out 0; have hfz13_1 := YI BK263.out 1; have hfz13_2 := YI BK263.out 2; have hfz13_3 := YI BK263.out 3; have hfz13_4 := YI BK263.out 4; have hfz13_5 := YI BK263.out 5) | ((with_reducible refine gate_callee (f := 21) rfl ?_); refine goesL_ (some 11) rfl rfl Try.func21 (by kernel_rfl) rfl #[.int .i64 5] rfl (by (try simp only [YO, List.map_cons, List.map_nil]); first | done | rfl | (simp only [YQ, YP]; rfl)) ?_; (with_reducible refine (height_Null.calls 5 t264 t265 t266 t267 t268 t269 _ A2.out).mono ?_); rintro e w14 ⟨rfl, hb⟩; refine ⟨_, rfl, ?_⟩; have n0_ := YK (YJ (g := gb263) (o := .cells #[.bool t256, .int .i64 t257, .int .i64 t258, .int .i64 t259, .int .i64 t260, .int .i64 t261] 23 (0, 0)) (by (with_reducible repeat (first | refine YE ?_ _ | refine YF ?_ | refine YG ?_ _)); refine blk_put (cs := #[.bool t256, .int .i64 t257, .int .i64 t258, .int .i64 t259, .int .i64 t260, .int .i64 0]) ?_ 5 _ rfl; (with_reducible repeat (first | refine YE ?_ _ | refine YF ?_ | refine YG ?_ _)); refine blk_put (cs := #[.bool t256, .int .i64 t257, .int .i64 t258, .int .i64 t259, .int .i64 0, .int .i64 0]) ?_ 4 _ rfl; (with_reducible repeat (first | refine YE ?_ _ | refine YF ?_ | refine YG ?_ _)); refine blk_put (cs := #[.bool t256, .int .i64 t257, .int .i64 t258, .int .i64 0, .int .i64 0, .int .i64 0]) ?_ 3 _ rfl; (with_reducible repeat (first | refine YE ?_ _ | refine YF ?_ | refine YG ?_ _)); refine blk_put (cs := #[.bool t256, .int .i64 t257, .int .i64 0, .int .i64 0, .int .i64 0, .int .i64 0]) ?_ 2 _ rfl; (with_reducible repeat (first | refine YE ?_ _ | refine YF ?_ | refine YG ?_ _)); refine blk_put (cs := #[.bool t256, .int .i64 0, .int .i64 0, .int .i64 0, .int .i64 0, .int .i64 0]) ?_ 1 _ rfl; (with_reducible repeat (first | refine YE ?_ _ | refine YF ?_ | refine YG ?_ _)); refine blk_put (cs := #[.bool false, .int .i64 0, .int .i64 0, .int .i64 0, .int .i64 0, .int .i64 0]) ?_ 0 _ rfl; (with_reducible repeat (first | refine YE ?_ _ | refine YF ?_ | refine YG ?_ _)); exact BK263.out) hb); have n1_ := YK (YD (by repeat (first | (with_reducible first | exact HB.out | apply YA | apply YB | apply YC | refine below_set ?_ GE263.out) | exact HB.out)) hb); clear BK263; clear HB; have BK263 := n0_; have HB := n1_; clear n0_ n1_; (try clear hb); (try clear hb2); (try clear hk); (try clear hi)) | ((with_reducible refine gate_callee (f := 10) rfl ?_); refine goesL_ (some 12) rfl rfl Try.func10 (by kernel_rfl) rfl #[.agg #[.bool t264, .int .i64 t265, .int .i64 t266, .int .i64 t267, .int .i64 t268, .int .i64 t269]] rfl (by (try simp only [YO, List.map_cons, List.map_nil]); first | done | rfl | (simp only [YQ, YP]; rfl)) ?_; (with_reducible refine (height_Bytes.calls k t264 t265 t266 t267 t268 t269 t270 t273 _ A3.out).mono ?_); rintro e w15 ⟨v271, rfl, ho0, hb⟩; refine ⟨_, rfl, ?_⟩; have n0_ := YK (Kd.R_lower ho0 (below_size (by repeat (first | (with_reducible first | exact HB.out | apply YA | apply YB | apply YC | refine below_set ?_ GE263.out) | exact HB.out)))); have n1_ := YK (YJ (g := gb263) (o := .cells #[.bool t256, .int .i64 t257, .int .i64 t258, .int .i64 t259, .int .i64 t260, .int .i64 t261] 23 (0, 0)) (by (with_reducible repeat (first | refine YE ?_ _ | refine YF ?_ | refine YG ?_ _)); exact BK263.out) hb); have n2_ := YK (YD (by repeat (first | (with_reducible first | exact HB.out | apply YA | apply YB | apply YC | refine below_set ?_ GE263.out) | exact HB.out)) hb); clear BK263; clear HB; have HO272 := n0_; have BK263 := n1_; have HB := n2_; clear n0_ n1_ n2_; (try clear hb); (try clear hb2); (try clear hk); (try clear hi); (try clear ho0)))
    have n0_ := YK (YT HO272.out)
    have n1_ := YK (YF BK263.out)
    have n2_ := YK (YC HB.out)
    clear HO272; clear BK263; clear HB; have HO272 := n0_; have BK263 := n1_; have HB := n2_; clear n0_ n1_ n2_
    refine start_ (n := 24) (S := fun w' => w'.cell? ⟨gb263, 0, none⟩ = some (.bool t256) ∧ w'.cell? ⟨gb263, 1, none⟩ = some (.int .i64 t257) ∧ w'.cell? ⟨gb263, 2, none⟩ = some (.int .i64 t258) ∧ w'.cell? ⟨gb263, 3, none⟩ = some (.int .i64 t259) ∧ w'.cell? ⟨gb263, 4, none⟩ = some (.int .i64 t260) ∧ w'.cell? ⟨gb263, 5, none⟩ = some (.int .i64 t261) ∧ (convert 29 9 v271).run Try.prog w' = .ok (.string (strOfNums t270)) w') (ds := []) #[false, false, false, false, false, false, false, false, false, false, false, false, false, false, false, false, false, false, false, false, false, false, false, false] (by kernel_rfl) rfl rfl ⟨(YH BK263.out 0).trans rfl, (YH BK263.out 1).trans rfl, (YH BK263.out 2).trans rfl, (YH BK263.out 3).trans rfl, (YH BK263.out 4).trans rfl, (YH BK263.out 5).trans rfl, (own_string (P := Try.prog) Try.underlying29 Try.underlying5 Try.underlying9 (Kd.own_of_R (by (with_reducible repeat (first | apply YR | apply YS | apply YT)); exact HO272.out)))⟩ (fun hHeld => ?_); refine with_tabW thalweglaw02_awake.tab3 thalweglaw02_awake.bits3 (fun HT_ HW_ => ?_)
    generalize w15.drew = w16 at HO272 BK263 HB hHeld ⊢
    refine take_ (i := 1) (N := some 16) (v := ?_) (a' := ?_) #[false, true, false, false, false, false, false, false, false, false, false, false, false, false, false, false, false, false, false, false, false, false, false, false] rfl rfl (take_ofW HT_.out HW_.out (by kernel_rfl)) (fun _ _ _ h => h) (Or.inl ⟨by rfl, ?_⟩) hHeld ?_ ?_
    rotate_left
    · rintro w' ⟨s0, s1, s2, s3, s4, s5, s6⟩
      go_simp; with_reducible rfl
    rotate_left
    · simp only [Act.put, YL, YM, YN, i64_w, i32_w]
      rfl
    refine one_ (i := 0) (N := some 15) #[true, true, false, false, false, false, false, false, false, false, false, false, false, false, false, false, false, false, false, false, false, false, false, false] rfl rfl (one_of HT_.out (by kernel_rfl)) (by decide) (fun K hK => ?_)
    refine goes_ Try.func23 (by kernel_rfl) rfl #[.int .i64 3] (by rfl) rfl rfl (by (try simp only [YO, List.map_cons, List.map_nil]); first | done | rfl | (simp only [YQ, YP]; rfl)) ?_
    with_reducible refine (height_Zero.calls 3 t274 t275 t276 t277 t278 t279 _ A4.out).mono ?_
    rintro e w17 ⟨rfl, hb⟩
    refine ⟨_, rfl, ?_⟩
    have n0_ := YK (Kd.R_below (by (with_reducible repeat (first | apply YR | apply YS | apply YT)); exact HO272.out) hb)
    have n1_ := YK (YJ (g := gb263) (o := .cells #[.bool t256, .int .i64 t257, .int .i64 t258, .int .i64 t259, .int .i64 t260, .int .i64 t261] 23 (0, 0)) (by (with_reducible repeat (first | refine YE ?_ _ | refine YF ?_ | refine YG ?_ _)); exact BK263.out) hb)
    have n2_ := YK (YD (by repeat (first | (with_reducible first | exact HB.out | apply YA | apply YB | apply YC | refine below_set ?_ GE263.out) | exact HB.out)) hb)
    clear HO272; clear BK263; clear HB; have HO272 := n0_; have BK263 := n1_; have HB := n2_; clear n0_ n1_ n2_; (try clear hb); (try clear hb2); (try clear hk); (try clear hi)
    refine hK.out _ _ ⟨(YH BK263.out 0).trans rfl, (YH BK263.out 1).trans rfl, (YH BK263.out 2).trans rfl, (YH BK263.out 3).trans rfl, (YH BK263.out 4).trans rfl, (YH BK263.out 5).trans rfl, (own_string (P := Try.prog) Try.underlying29 Try.underlying5 Try.underlying9 (Kd.own_of_R (by (with_reducible repeat (first | apply YR | apply YS | apply YT)); exact HO272.out)))⟩ (fun hHeld => ?_)
    clear hK K
    refine norm_ (a' := ?_) ?_ ?_
    rotate_left
    · show Act.put _ (some 15) _ = _
      simp only [Act.put, YL, YM, YN, i64_w, i32_w]
      rfl
    refine one_ (i := 2) (N := some 17) #[true, true, true, false, false, false, false, false, false, false, false, false, false, false, false, false, false, false, false, false, false, false, false, false] rfl rfl (one_of HT_.out (by kernel_rfl)) (by decide) (fun K hK => ?_)
    refine goes_ Try.func14 (by kernel_rfl) rfl #[.agg #[.bool t274, .int .i64 t275, .int .i64 t276, .int .i64 t277, .int .i64 t278, .int .i64 t279], .agg #[.bool t256, .int .i64 t257, .int .i64 t258, .int .i64 t259, .int .i64 t260, .int .i64 t261]] (by rfl) rfl rfl (by (try simp only [YO, List.map_cons, List.map_nil]); first | done | rfl | (simp only [YQ, YP]; rfl)) ?_
    with_reducible refine (height_Less.calls k t274 t275 t276 t277 t278 t279 t256 t257 t258 t259 t260 t261 true _ A5.out).mono ?_
    rintro e w18 ⟨rfl, hb⟩
    refine ⟨_, rfl, ?_⟩
    have n0_ := YK (Kd.R_below (by (with_reducible repeat (first | apply YR | apply YS | apply YT)); exact HO272.out) hb)
    have n1_ := YK (YJ (g := gb263) (o := .cells #[.bool t256, .int .i64 t257, .int .i64 t258, .int .i64 t259, .int .i64 t260, .int .i64 t261] 23 (0, 0)) (by (with_reducible repeat (first | refine YE ?_ _ | refine YF ?_ | refine YG ?_ _)); exact BK263.out) hb)
    have n2_ := YK (YD (by repeat (first | (with_reducible first | exact HB.out | apply YA | apply YB | apply YC | refine below_set ?_ GE263.out) | exact HB.out)) hb)
    clear HO272; clear BK263; clear HB; have HO272 := n0_; have BK263 := n1_; have HB := n2_; clear n0_ n1_ n2_; (try clear hb); (try clear hb2); (try clear hk); (try clear hi)
    refine hK.out _ _ ⟨(YH BK263.out 0).trans rfl, (YH BK263.out 1).trans rfl, (YH BK263.out 2).trans rfl, (YH BK263.out 3).trans rfl, (YH BK263.out 4).trans rfl, (YH BK263.out 5).trans rfl, (own_string (P := Try.prog) Try.underlying29 Try.underlying5 Try.underlying9 (Kd.own_of_R (by (with_reducible repeat (first | apply YR | apply YS | apply YT)); exact HO272.out)))⟩ (fun hHeld => ?_)
    clear hK K
    refine norm_ (a' := ?_) ?_ ?_
    rotate_left
    · show Act.put _ (some 17) _ = _
      simp only [Act.put, YL, YM, YN, i64_w, i32_w]
      rfl
    refine pure_ (i := 3) (N := some 18) (v := ?_) (a' := ?_) #[true, true, true, true, false, false, false, false, false, false, false, false, false, false, false, false, false, false, false, false, false, false, false, false] rfl rfl (any_of HT_.out (by kernel_rfl)) (fun _ _ _ h => h) (Or.inl ⟨by rfl, ?_⟩) ?_ ?_
    rotate_left
    · intro w'
      go_simp; with_reducible rfl
    rotate_left
    · simp only [Act.put, YL, YM, YN, i64_w, i32_w]
      rfl
    refine pure_ (i := 4) (N := some 19) (v := ?_) (a' := ?_) #[true, true, true, true, true, false, false, false, false, false, false, false, false, false, false, false, false, false, false, false, false, false, false, false] rfl rfl (any_of HT_.out (by kernel_rfl)) (fun _ _ _ h => h) (Or.inl ⟨by rfl, ?_⟩) ?_ ?_
    rotate_left
    · intro w'
      go_simp; with_reducible rfl
    rotate_left
    · simp only [Act.put, YL, YM, YN, i64_w, i32_w]
      rfl
    refine pure_ (i := 5) (N := some 20) (v := ?_) (a' := ?_) #[true, true, true, true, true, true, false, false, false, false, false, false, false, false, false, false, false, false, false, false, false, false, false, false] rfl rfl (any_of HT_.out (by kernel_rfl)) (fun _ _ _ h => h) (Or.inl ⟨by rfl, ?_⟩) ?_ ?_
    rotate_left
    · intro w'
      go_simp; with_reducible rfl
    rotate_left
    · simp only [Act.put, YL, YM, YN, i64_w, i32_w]
      rfl
    refine pure_ (i := 6) (N := some 21) (v := ?_) (a' := ?_) #[true, true, true, true, true, true, true, false, false, false, false, false, false, false, false, false, false, false, false, false, false, false, false, false] rfl rfl (any_of HT_.out (by kernel_rfl)) (fun _ _ _ h => h) (Or.inl ⟨by rfl, ?_⟩) ?_ ?_
    rotate_left
    · intro w'
      go_simp; with_reducible rfl
    rotate_left
    · simp only [Act.put, YL, YM, YN, i64_w, i32_w]
      rfl
    refine pure_ (i := 7) (N := some 22) (v := ?_) (a' := ?_) #[true, true, true, true, true, true, true, true, false, false, false, false, false, false, false, false, false, false, false, false, false, false, false, false] rfl rfl (any_of HT_.out (by kernel_rfl)) (fun _ _ _ h => h) (Or.inl ⟨by rfl, ?_⟩) ?_ ?_
    rotate_left
    · intro w'
      go_simp; with_reducible rfl
    rotate_left
    · simp only [Act.put, YL, YM, YN, i64_w, i32_w]
      rfl
    refine pure_ (i := 8) (N := some 23) (v := ?_) (a' := ?_) #[true, true, true, true, true, true, true, true, true, false, false, false, false, false, false, false, false, false, false, false, false, false, false, false] rfl rfl (any_of HT_.out (by kernel_rfl)) (fun _ _ _ h => h) (Or.inl ⟨by rfl, ?_⟩) ?_ ?_
    rotate_left
    · intro w'
      go_simp; with_reducible rfl
    rotate_left
    · simp only [Act.put, YL, YM, YN, i64_w, i32_w]
      rfl
    refine take_ (i := 9) (N := some 24) (v := ?_) (a' := ?_) #[true, true, true, true, true, true, true, true, true, true, false, false, false, false, false, false, false, false, false, false, false, false, false, false] rfl rfl (take_ofW HT_.out HW_.out (by kernel_rfl)) (fun _ _ _ h => h) (Or.inl ⟨by rfl, ?_⟩) hHeld ?_ ?_
    rotate_left
    · rintro w' ⟨s0, s1, s2, s3, s4, s5, s6⟩
      go_simp; with_reducible rfl
    rotate_left
    · simp only [Act.put, YL, YM, YN, i64_w, i32_w]
      rfl
    refine pure_ (i := 10) (N := some 25) (v := ?_) (a' := ?_) #[true, true, true, true, true, true, true, true, true, true, true, false, false, false, false, false, false, false, false, false, false, false, false, false] rfl rfl (any_of HT_.out (by kernel_rfl)) (fun _ _ _ h => h) (Or.inl ⟨by rfl, ?_⟩) ?_ ?_
    rotate_left
    · intro w'
      go_simp; with_reducible rfl
    rotate_left
    · simp only [Act.put, YL, YM, YN, i64_w, i32_w]
      rfl
    refine pure_ (i := 11) (N := some 26) (v := ?_) (a' := ?_) #[true, true, true, true, true, true, true, true, true, true, true, true, false, false, false, false, false, false, false, false, false, false, false, false] rfl rfl (any_of HT_.out (by kernel_rfl)) (fun _ _ _ h => h) (Or.inl ⟨by rfl, ?_⟩) ?_ ?_
    rotate_left
    · intro w'
      go_simp; with_reducible rfl
    rotate_left
    · simp only [Act.put, YL, YM, YN, i64_w, i32_w]
      rfl
    refine pure_ (i := 12) (N := some 27) (v := ?_) (a' := ?_) #[true, true, true, true, true, true, true, true, true, true, true, true, true, false, false, false, false, false, false, false, false, false, false, false] rfl rfl (any_of HT_.out (by kernel_rfl)) (fun _ _ _ h => h) (Or.inl ⟨by rfl, ?_⟩) ?_ ?_
    rotate_left
    · intro w'
      go_simp; with_reducible rfl
    rotate_left
    · simp only [Act.put, YL, YM, YN, i64_w, i32_w]
      rfl
    refine pure_ (i := 13) (N := some 28) (v := ?_) (a' := ?_) #[true, true, true, true, true, true, true, true, true, true, true, true, true, true, false, false, false, false, false, false, false, false, false, false] rfl rfl (any_of HT_.out (by kernel_rfl)) (fun _ _ _ h => h) (Or.inl ⟨by rfl, ?_⟩) ?_ ?_
    rotate_left
    · intro w'
      go_simp; with_reducible rfl
    rotate_left
    · simp only [Act.put, YL, YM, YN, i64_w, i32_w]
      rfl
    refine pure_ (i := 14) (N := some 29) (v := ?_) (a' := ?_) #[true, true, true, true, true, true, true, true, true, true, true, true, true, true, true, false, false, false, false, false, false, false, false, false] rfl rfl (any_of HT_.out (by kernel_rfl)) (fun _ _ _ h => h) (Or.inl ⟨by rfl, ?_⟩) ?_ ?_
    rotate_left
    · intro w'
      go_simp; with_reducible rfl
    rotate_left
    · simp only [Act.put, YL, YM, YN, i64_w, i32_w]
      rfl
    refine pure_ (i := 15) (N := some 30) (v := ?_) (a' := ?_) #[true, true, true, true, true, true, true, true, true, true, true, true, true, true, true, true, false, false, false, false, false, false, false, false] rfl rfl (any_of HT_.out (by kernel_rfl)) (fun _ _ _ h => h) (Or.inl ⟨by rfl, ?_⟩) ?_ ?_
    rotate_left
    · intro w'
      go_simp; with_reducible rfl
    rotate_left
    · simp only [Act.put, YL, YM, YN, i64_w, i32_w]
      rfl
    refine pure_ (i := 16) (N := some 31) (v := ?_) (a' := ?_) #[true, true, true, true, true, true, true, true, true, true, true, true, true, true, true, true, true, false, false, false, false, false, false, false] rfl rfl (any_of HT_.out (by kernel_rfl)) (fun _ _ _ h => h) (Or.inl ⟨by rfl, ?_⟩) ?_ ?_
    rotate_left
    · intro w'
      go_simp; with_reducible rfl
    rotate_left
    · simp only [Act.put, YL, YM, YN, i64_w, i32_w]
      rfl
    refine pure_ (i := 17) (N := some 32) (v := ?_) (a' := ?_) #[true, true, true, true, true, true, true, true, true, true, true, true, true, true, true, true, true, true, false, false, false, false, false, false] rfl rfl (any_of HT_.out (by kernel_rfl)) (fun _ _ _ h => h) (Or.inl ⟨by rfl, ?_⟩) ?_ ?_
    rotate_left
    · intro w'
      go_simp; with_reducible rfl
    rotate_left
    · simp only [Act.put, YL, YM, YN, i64_w, i32_w]
      rfl
    refine take_ (i := 18) (N := some 33) (v := ?_) (a' := ?_) #[true, true, true, true, true, true, true, true, true, true, true, true, true, true, true, true, true, true, true, false, false, false, false, false] rfl rfl (take_ofW HT_.out HW_.out (by kernel_rfl)) (fun _ _ _ h => h) (Or.inl ⟨by rfl, ?_⟩) hHeld ?_ ?_
    rotate_left
    · rintro w' ⟨s0, s1, s2, s3, s4, s5, s6⟩
      go_simp; with_reducible rfl
    rotate_left
    · simp only [Act.put, YL, YM, YN, i64_w, i32_w]
      rfl
    refine take_ (i := 19) (N := some 34) (v := ?_) (a' := ?_) #[true, true, true, true, true, true, true, true, true, true, true, true, true, true, true, true, true, true, true, true, false, false, false, false] rfl rfl (take_ofW HT_.out HW_.out (by kernel_rfl)) (fun _ _ _ h => h) (Or.inl ⟨by rfl, ?_⟩) hHeld ?_ ?_
    rotate_left
    · rintro w' ⟨s0, s1, s2, s3, s4, s5, s6⟩
      go_simp; with_reducible rfl
    rotate_left
    · simp only [Act.put, YL, YM, YN, i64_w, i32_w]
      rfl
    refine one_ (i := 20) (N := some 35) #[true, true, true, true, true, true, true, true, true, true, true, true, true, true, true, true, true, true, true, true, true, false, false, false] rfl rfl (one_of HT_.out (by kernel_rfl)) (by decide) (fun K hK => ?_)
    refine goes_ Try.func14 (by kernel_rfl) rfl #[.agg #[.bool t256, .int .i64 t257, .int .i64 t258, .int .i64 t259, .int .i64 t260, .int .i64 t261], .agg #[.bool t256, .int .i64 t257, .int .i64 t258, .int .i64 t259, .int .i64 t260, .int .i64 t261]] (by rfl) rfl rfl (by (try simp only [YO, List.map_cons, List.map_nil]); first | done | rfl | (simp only [YQ, YP]; rfl)) ?_
    with_reducible refine (height_Less.calls k t256 t257 t258 t259 t260 t261 t256 t257 t258 t259 t260 t261 t281 _ A10.out).mono ?_
    rintro e w20 ⟨rfl, hb⟩
    refine ⟨_, rfl, ?_⟩
    have n0_ := YK (Kd.R_below (by (with_reducible repeat (first | apply YR | apply YS | apply YT)); exact HO272.out) hb)
    have n1_ := YK (YJ (g := gb263) (o := .cells #[.bool t256, .int .i64 t257, .int .i64 t258, .int .i64 t259, .int .i64 t260, .int .i64 t261] 23 (0, 0)) (by (with_reducible repeat (first | refine YE ?_ _ | refine YF ?_ | refine YG ?_ _)); exact BK263.out) hb)
    have n2_ := YK (YD (by repeat (first | (with_reducible first | exact HB.out | apply YA | apply YB | apply YC | refine below_set ?_ GE263.out) | exact HB.out)) hb)
    clear HO272; clear BK263; clear HB; have HO272 := n0_; have BK263 := n1_; have HB := n2_; clear n0_ n1_ n2_; (try clear hb); (try clear hb2); (try clear hk); (try clear hi)
    refine hK.out _ _ ⟨(YH BK263.out 0).trans rfl, (YH BK263.out 1).trans rfl, (YH BK263.out 2).trans rfl, (YH BK263.out 3).trans rfl, (YH BK263.out 4).trans rfl, (YH BK263.out 5).trans rfl, (own_string (P := Try.prog) Try.underlying29 Try.underlying5 Try.underlying9 (Kd.own_of_R (by (with_reducible repeat (first | apply YR | apply YS | apply YT)); exact HO272.out)))⟩ (fun hHeld => ?_)
    clear hK K
    refine norm_ (a' := ?_) ?_ ?_
    rotate_left
    · show Act.put _ (some 35) _ = _
      simp only [Act.put, YL, YM, YN, i64_w, i32_w]
      rfl
    refine pure_ (i := 21) (N := some 36) (v := ?_) (a' := ?_) #[true, true, true, true, true, true, true, true, true, true, true, true, true, true, true, true, true, true, true, true, true, true, false, false] rfl rfl (any_of HT_.out (by kernel_rfl)) (fun _ _ _ h => h) (Or.inl ⟨by rfl, ?_⟩) ?_ ?_
    rotate_left
    · intro w'
      go_simp; with_reducible rfl
    rotate_left
    · simp only [Act.put, YL, YM, YN, i64_w, i32_w]
      rfl
    refine pure_ (i := 22) (N := some 37) (v := ?_) (a' := ?_) #[true, true, true, true, true, true, true, true, true, true, true, true, true, true, true, true, true, true, true, true, true, true, true, false] rfl rfl (any_of HT_.out (by kernel_rfl)) (fun _ _ _ h => h) (Or.inl ⟨by rfl, ?_⟩) ?_ ?_
    rotate_left
    · intro w'
      go_simp; with_reducible rfl
    rotate_left
    · simp only [Act.put, YL, YM, YN, i64_w, i32_w]
      rfl
    refine pure_ (i := 23) (N := some 0) (v := ?_) (a' := ?_) #[true, true, true, true, true, true, true, true, true, true, true, true, true, true, true, true, true, true, true, true, true, true, true, true] rfl rfl (any_of HT_.out (by kernel_rfl)) (fun _ _ _ h => h) (Or.inl ⟨by rfl, ?_⟩) ?_ ?_
    rotate_left
    · intro w'
      go_simp; with_reducible rfl
    rotate_left
    · simp only [Act.put, YL, YM, YN, i64_w, i32_w]
      rfl
    refine done_ (done_of HT_.out (by kernel_rfl)) ?_
    try go_wp2
    go_ret
    exact ⟨by first | rfl | (simp [errW_none, errW_some] <;> rfl) | (simp [*, errW_none, errW_some] <;> rfl), by repeat (first | (with_reducible first | exact HB.out | apply YA | apply YB | apply YC | refine below_set ?_ GE263.out) | exact HB.out)⟩
  replace c6 := Bool.eq_false_iff.mpr c6
  subst c6
  have H1 : (none) = some r := by rw [if_neg (show ¬ (false = true) by decide)] at H; exact H
  clear H
  have H := H1
  clear H1
  exact absurd H (by simp)

end Go.Proofs.Ytjeahmlahkngaaa.P
