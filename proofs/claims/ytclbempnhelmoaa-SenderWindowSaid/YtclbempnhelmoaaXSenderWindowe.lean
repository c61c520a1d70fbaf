/- Walks. -/
import Derived.WalkMore
import Derived.Test.YtclbempnhelmoaaXSenderWindowa
import Derived.Test.YtclbempnhelmoaaXSenderWindowb
import Derived.Test.YtclbempnhelmoaaXSenderWindowc
import Derived.Test.YtclbempnhelmoaaXSenderWindowd
set_option linter.unusedVariables false
set_option linter.unusedSimpArgs false
set_option maxHeartbeats 8000000
set_option maxRecDepth 100000
namespace Go.Proofs.Ytclbempnhelmoaa.P
open Go.RowKit YtclbempnhelmoaaW.PrintWords YtclbempnhelmoaaW.PrintLast YtclbempnhelmoaaW.PrintMore
open YtclbempnhelmoaaW.PrintWords renaming below_alloc → YA, pw_below_drewN → YB, below_drew1 → YC, below_step → YD, below_size → YE, blk_drewN → YF, blk_drew → YG, blk_alloc → YH, blk_cell → YI, blk_frozen → YJ, blk_below → YK
open YtclbempnhelmoaaW.PrintWords.Aside0 renaming mk → YL
open List renaming map_toArray → YM, length_take → YN, length_drop → YO
attribute [local go_sem] max2_int min2_int max_two min_two max_three min_three max_four min_four
def ack_mask_has.f (a0 : Int) (a1 : Int) : Option (Bool) := if 0 ≤ (wrap64 (a1 - 1)) then (some ((Go.bits .and .i64 (shr .i64 a0 (wrap64 (a1 - 1))) 1) == 1)) else (none)
theorem ack_mask_has.calls (a0 : Int) (a1 : Int) (r : Bool) (w : World) (h : ack_mask_has.f a0 a1 = some r) :
  Calls Try.prog 58 #[.int .i64 a0, .int .i64 a1] w fun e w' => e = .returned (.bool r) ∧ Drawn0 w w' := by
 have H : (if 0 ≤ (wrap64 (a1 - 1)) then (some ((Go.bits .and .i64 (shr .i64 a0 (wrap64 (a1 - 1))) 1) == 1)) else (none)) = some r := h
 clear h
 obtain ⟨ji3, hji3⟩ : ∃ j_ : Int, (wrap64 (a1 - 1)) = j_ := ⟨_, rfl⟩
 replace H : (if 0 ≤ (ji3) then (some ((Go.bits .and .i64 (shr .i64 a0 (ji3)) 1) == 1)) else (none)) = some r := by first | (rw [hji3] at H; exact H) | (simp only [hji3] at H ⊢; exact H)
 have hji3w : (IntKind.i64.wrap (a1 - 1)) = ji3 := (i64_w _).trans hji3
 by_cases c4 : 0 ≤ (ji3)
 rotate_left
 ·rw [if_neg c4] at H
  exact absurd H (by simp)
 rw [if_pos c4] at H
 have c4b0 := eq_true c4
 have c4b1 : decide (0 ≤ (ji3)) = true := decide_eq_true c4; clear c4
 obtain ⟨ji5, hji5⟩ : ∃ j_ : Int, (shr .i64 a0 (ji3)) = j_ := ⟨_, rfl⟩
 replace H : (some ((Go.bits .and .i64 (ji5) 1) == 1)) = some r := by first | (rw [hji5] at H; exact H) | (simp only [hji5] at H ⊢; exact H)
 have hji5_ : (a0 / 2 ^ min (ji3).toNat 64) = ji5 := hji5
 have hji5z : (ji3) ≤ 64 → (a0 / 2 ^ (ji3).toNat) = ji5 := shr_small hji5
 obtain rfl := Option.some.inj H
 go_enter Try.func58, Try.ntmps58
 go_wp2
 go_ret
 exact ⟨by first | rfl | (simp; done) | (simp only [← hji3, ← hji5] <;> (first | rfl | simp)) | (simp [*]; done), by repeat (first | exact Drawn0.refl _ | apply Drawn0.step)⟩
def ack_Has.f (k : Nat) (a0_0 : Int) (a0_1 : Int) (a0_2 : Int) (a0_3 : Int) (a1 : Int) : Option (Bool) := (ack_right.f a0_0 a0_1 a0_2 a0_3).bind fun t266 => (if t266 = true then ((serial_Far.f k a0_2 a1).bind fun t267 => (if t267 ≥ 32768 then (some true) else (if t267 ≥ 1 then (if t267 ≤ 16 then ((ack_mask_has.f a0_3 t267).bind fun t268 => (some t268)) else (some false)) else (some false)))) else (some false))
theorem ack_Has.mono : ∀ a0 a1 a2 a3 a4 k, LeO (ack_Has.f k a0 a1 a2 a3 a4) (ack_Has.f (k + 1) a0 a1 a2 a3 a4) := by
 intro a0 a1 a2 a3 a4 k
 unfold ack_Has.f
 repeat' first
   | (with_reducible exact serial_Far.mono _ _ _)
   | (with_reducible exact LeO.refl _)
   | (with_reducible exact LeO.none _)
   | (with_reducible refine LeO.ite ?_ ?_)
   | (with_reducible refine LeO.bind ?_ (fun _ => ?_))
   | exact serial_Far.mono _ _ _
   | exact LeO.none _
   | refine LeO.ite ?_ ?_
   | refine LeO.bind ?_ (fun _ => ?_)
theorem ack_Has.calls (k : Nat) (a0_0 : Int) (a0_1 : Int) (a0_2 : Int) (a0_3 : Int) (a1 : Int) (r : Bool) (w : World) (h : ack_Has.f k a0_0 a0_1 a0_2 a0_3 a1 = some r) :
  Calls Try.prog 38 #[.agg #[.int .i64 a0_0, .int .i64 a0_1, .int .i64 a0_2, .int .i64 a0_3], .int .i64 a1] w fun e w' => e = .returned (.bool r) ∧ Below w.heap.size w w' := by
 have hu36 := Try.underlying36
 have hmf : ∀ (fn : Fn) (first cap : Array Value) (w : World), (Instr.makeFunc fn first cap).run Try.prog w = .ok (.func fn first cap) w := fun _ _ _ _ => rfl
 have HB := YL (Below.refl w.heap.size w)
 have H : ((ack_right.f a0_0 a0_1 a0_2 a0_3).bind fun t266 => (if t266 = true then ((serial_Far.f k a0_2 a1).bind fun t267 => (if t267 ≥ 32768 then (some true) else (if t267 ≥ 1 then (if t267 ≤ 16 then ((ack_mask_has.f a0_3 t267).bind fun t268 => (some t268)) else (some false)) else (some false)))) else (some false))) = some r := h
 clear h; replace H := Option.bind_eq_some_iff.mp H; obtain ⟨t266, A30, H⟩ := H
 replace H : (if t266 = true then ((serial_Far.f k a0_2 a1).bind fun t267 => (if t267 ≥ 32768 then (some true) else (if t267 ≥ 1 then (if t267 ≤ 16 then ((ack_mask_has.f a0_3 t267).bind fun t268 => (some t268)) else (some false)) else (some false)))) else (some false)) = some r := H
 have A3 := YL A30; clear A30
 by_cases c4 : t266 = true
 ·subst c4
  have H1 : ((serial_Far.f k a0_2 a1).bind fun t267 => (if t267 ≥ 32768 then (some true) else (if t267 ≥ 1 then (if t267 ≤ 16 then ((ack_mask_has.f a0_3 t267).bind fun t268 => (some t268)) else (some false)) else (some false)))) = some r := by rw [if_pos rfl] at H; exact H
  clear H
  have H := H1
  clear H1; replace H := Option.bind_eq_some_iff.mp H; obtain ⟨t267, A50, H⟩ := H
  replace H : (if t267 ≥ 32768 then (some true) else (if t267 ≥ 1 then (if t267 ≤ 16 then ((ack_mask_has.f a0_3 t267).bind fun t268 => (some t268)) else (some false)) else (some false))) = some r := H
  have A5 := YL A50; clear A50
  by_cases c6 : t267 ≥ 32768
  ·rw [if_pos c6] at H
   have c6b0 : decide (32768 ≤ t267) = true := decide_eq_true c6; clear c6
   obtain rfl := Option.some.inj H
   go_enter Try.func38, Try.ntmps38
   go_wp2_with (first | ((with_reducible refine gate_dst (N := 2) rfl ?_); refine box_event ?hg (N := 2) ?hd (cs := #[.int .i64 a0_0, .int .i64 a0_1, .int .i64 a0_2, .int .i64 a0_3]) (t := 36) ?hr ?_; (case hd => rfl); (case hg => rfl); (case hr => first | (go_simp; done) | (go_simp; rfl)); intro gb265 hg w7 hbox hb; have n0_ := YL (YD (by repeat (first | (with_reducible first | exact HB.out | apply YA | apply YB | apply YC) | exact HB.out)) hb); have n1_ := YL (hbox); have n2_ := YL ((by rw [hg]; exact (YE (by repeat (first | (with_reducible first | exact HB.out | apply YA | apply YB | apply YC) | exact HB.out))) : w.heap.size ≤ gb265)); have n3_ := YL ((by rw [hg]; exact (YE (by repeat (first | (with_reducible first | exact HB.out | apply YA | apply YB | apply YC) | exact HB.out))) : w.heap.size ≤ gb265)); clear HB; have HB := n0_; have BK265 := n1_; have GW265 := n2_; have GE265 := n3_; clear n0_ n1_ n2_ n3_; clear hb hbox hg; have q8_0 : w7.cell? ⟨gb265, 0, none⟩ = some (.int .i64 a0_0) := (YI BK265.out 0).trans rfl; have q8_1 : w7.cell? ⟨gb265, 1, none⟩ = some (.int .i64 a0_1) := (YI BK265.out 1).trans rfl; have q8_2 : w7.cell? ⟨gb265, 2, none⟩ = some (.int .i64 a0_2) := (YI BK265.out 2).trans rfl; have q8_3 : w7.cell? ⟨gb265, 3, none⟩ = some (.int .i64 a0_3) := (YI BK265.out 3).trans rfl; have f8_0 := YJ BK265.out 0; have f8_1 := YJ BK265.out 1; have f8_2 := YJ BK265.out 2; have f8_3 := YJ BK265.out 3) | ((with_reducible refine gate_callee (f := 57) rfl ?_); refine goesL_ (some 8) rfl rfl Try.func57 (by kernel_rfl) rfl #[.agg #[.int .i64 a0_0, .int .i64 a0_1, .int .i64 a0_2, .int .i64 a0_3]] rfl (by (try simp only [YM, List.map_cons, List.map_nil]); first | done | rfl | (simp only [YO, YN]; rfl)) ?_; (with_reducible refine (ack_right.calls a0_0 a0_1 a0_2 a0_3 true _ A3.out).mono ?_); rintro e w9 ⟨rfl, hb⟩; refine ⟨_, rfl, ?_⟩; have n0_ := YL (YK (g := gb265) (o := .cells #[.int .i64 a0_0, .int .i64 a0_1, .int .i64 a0_2, .int .i64 a0_3] 36 (0, 0)) (by (with_reducible repeat (first | refine YF ?_ _ | refine YG ?_ | refine YH ?_ _)); exact BK265.out) hb); have n1_ := YL (YD (by repeat (first | (with_reducible first | exact HB.out | apply YA | apply YB | apply YC | refine below_set ?_ GE265.out) | exact HB.out)) hb); clear BK265; clear HB; have BK265 := n0_; have HB := n1_; clear n0_ n1_; (try clear hb); (try clear hb2); (try clear hk); (try clear hi); have q10_0 : w9.cell? ⟨gb265, 0, none⟩ = some (.int .i64 a0_0) := (YI BK265.out 0).trans rfl; have q10_1 : w9.cell? ⟨gb265, 1, none⟩ = some (.int .i64 a0_1) := (YI BK265.out 1).trans rfl; have q10_2 : w9.cell? ⟨gb265, 2, none⟩ = some (.int .i64 a0_2) := (YI BK265.out 2).trans rfl; have q10_3 : w9.cell? ⟨gb265, 3, none⟩ = some (.int .i64 a0_3) := (YI BK265.out 3).trans rfl; have f10_0 := YJ BK265.out 0; have f10_1 := YJ BK265.out 1; have f10_2 := YJ BK265.out 2; have f10_3 := YJ BK265.out 3) | ((with_reducible refine gate_callee (f := 24) rfl ?_); refine goesL_ (some 16) rfl rfl Try.func24 (by kernel_rfl) rfl #[.int .i64 a0_2, .int .i64 a1] rfl (by (try simp only [YM, List.map_cons, List.map_nil]); first | done | rfl | (simp only [YO, YN]; rfl)) ?_; (with_reducible refine (serial_Far.calls k a0_2 a1 t267 _ A5.out).mono ?_); rintro e w11 ⟨rfl, hb⟩; refine ⟨_, rfl, ?_⟩; have n0_ := YL (YK (g := gb265) (o := .cells #[.int .i64 a0_0, .int .i64 a0_1, .int .i64 a0_2, .int .i64 a0_3] 36 (0, 0)) (by (with_reducible repeat (first | refine YF ?_ _ | refine YG ?_ | refine YH ?_ _)); exact BK265.out) hb); have n1_ := YL (YD (by repeat (first | (with_reducible first | exact HB.out | apply YA | apply YB | apply YC | refine below_set ?_ GE265.out) | exact HB.out)) hb); clear BK265; clear HB; have BK265 := n0_; have HB := n1_; clear n0_ n1_; (try clear hb); (try clear hb2); (try clear hk); (try clear hi)))
   go_ret
   exact ⟨by first | rfl | (simp [errW_none, errW_some] <;> rfl) | (simp [*, errW_none, errW_some] <;> rfl), by repeat (first | (with_reducible first | exact HB.out | apply YA | apply YB | apply YC | refine below_set ?_ GE265.out) | exact HB.out)⟩
  rw [if_neg c6] at H; have c6b0 : decide (32768 ≤ t267) = false := decide_eq_false c6; clear c6
  by_cases c12 : t267 ≥ 1
  ·rw [if_pos c12] at H
   have c12b0 : decide (1 ≤ t267) = true := decide_eq_true c12; clear c12
   by_cases c13 : t267 ≤ 16
   ·rw [if_pos c13] at H
    have c13b0 : decide (t267 ≤ 16) = true := decide_eq_true c13; clear c13; replace H := Option.bind_eq_some_iff.mp H; obtain ⟨t268, A140, H⟩ := H
    replace H : (some t268) = some r := H
    have A14 := YL A140; clear A140
    obtain rfl := Option.some.inj H
    go_enter Try.func38, Try.ntmps38
    go_wp2_with (first | ((with_reducible refine gate_dst (N := 2) rfl ?_); refine box_event ?hg (N := 2) ?hd (cs := #[.int .i64 a0_0, .int .i64 a0_1, .int .i64 a0_2, .int .i64 a0_3]) (t := 36) ?hr ?_; (case hd => rfl); (case hg => rfl); (case hr => first | (go_simp; done) | (go_simp; rfl)); intro gb265 hg w15 hbox hb; have n0_ := YL (YD (by repeat (first | (with_reducible first | exact HB.out | apply YA | apply YB | apply YC) | exact HB.out)) hb); have n1_ := YL (hbox); have n2_ := YL ((by rw [hg]; exact (YE (by repeat (first | (with_reducible first | exact HB.out | apply YA | apply YB | apply YC) | exact HB.out))) : w.heap.size ≤ gb265)); have n3_ := YL ((by rw [hg]; exact (YE (by repeat (first | (with_reducible first | exact HB.out | apply YA | apply YB | apply YC) | exact HB.out))) : w.heap.size ≤ gb265)); clear HB; have HB := n0_; have BK265 := n1_; have GW265 := n2_; have GE265 := n3_; clear n0_ n1_ n2_ n3_; clear hb hbox hg; have q16_0 : w15.cell? ⟨gb265, 0, none⟩ = some (.int .i64 a0_0) := (YI BK265.out 0).trans rfl; have q16_1 : w15.cell? ⟨gb265, 1, none⟩ = some (.int .i64 a0_1) := (YI BK265.out 1).trans rfl; have q16_2 : w15.cell? ⟨gb265, 2, none⟩ = some (.int .i64 a0_2) := (YI BK265.out 2).trans rfl; have q16_3 : w15.cell? ⟨gb265, 3, none⟩ = some (.int .i64 a0_3) := (YI BK265.out 3).trans rfl; have f16_0 := YJ BK265.out 0; have f16_1 := YJ BK265.out 1; have f16_2 := YJ BK265.out 2; have f16_3 := YJ BK265.out 3) | ((with_reducible refine gate_callee (f := 57) rfl ?_); refine goesL_ (some 8) rfl rfl Try.func57 (by kernel_rfl) rfl #[.agg #[.int .i64 a0_0, .int .i64 a0_1, .int .i64 a0_2, .int .i64 a0_3]] rfl (by (try simp only [YM, List.map_cons, List.map_nil]); first | done | rfl | (simp only [YO, YN]; rfl)) ?_; (with_reducible refine (ack_right.calls a0_0 a0_1 a0_2 a0_3 true _ A3.out).mono ?_); rintro e w17 ⟨rfl, hb⟩; refine ⟨_, rfl, ?_⟩; have n0_ := YL (YK (g := gb265) (o := .cells #[.int .i64 a0_0, .int .i64 a0_1, .int .i64 a0_2, .int .i64 a0_3] 36 (0, 0)) (by (with_reducible repeat (first | refine YF ?_ _ | refine YG ?_ | refine YH ?_ _)); exact BK265.out) hb); have n1_ := YL (YD (by repeat (first | (with_reducible first | exact HB.out | apply YA | apply YB | apply YC | refine below_set ?_ GE265.out) | exact HB.out)) hb); clear BK265; clear HB; have BK265 := n0_; have HB := n1_; clear n0_ n1_; (try clear hb); (try clear hb2); (try clear hk); (try clear hi); have q18_0 : w17.cell? ⟨gb265, 0, none⟩ = some (.int .i64 a0_0) := (YI BK265.out 0).trans rfl; have q18_1 : w17.cell? ⟨gb265, 1, none⟩ = some (.int .i64 a0_1) := (YI BK265.out 1).trans rfl; have q18_2 : w17.cell? ⟨gb265, 2, none⟩ = some (.int .i64 a0_2) := (YI BK265.out 2).trans rfl; have q18_3 : w17.cell? ⟨gb265, 3, none⟩ = some (.int .i64 a0_3) := (YI BK265.out 3).trans rfl; have f18_0 := YJ BK265.out 0; have f18_1 := YJ BK265.out 1; have f18_2 := YJ BK265.out 2; have f18_3 := YJ BK265.out 3) | ((with_reducible refine gate_callee (f := 24) rfl ?_); refine goesL_ (some 16) rfl rfl Try.func24 (by kernel_rfl) rfl #[.int .i64 a0_2, .int .i64 a1] rfl (by (try simp only [YM, List.map_cons, List.map_nil]); first | done | rfl | (simp only [YO, YN]; rfl)) ?_; (with_reducible refine (serial_Far.calls k a0_2 a1 t267 _ A5.out).mono ?_); rintro e w19 ⟨rfl, hb⟩; refine ⟨_, rfl, ?_⟩; have n0_ := YL (YK (g := gb265) (o := .cells #[.int .i64 a0_0, .int .i64 a0_1, .int .i64 a0_2, .int .i64 a0_3] 36 (0, 0)) (by (with_reducible repeat (first | refine YF ?_ _ | refine YG ?_ | refine YH ?_ _)); exact BK265.out) hb); have n1_ := YL (YD (by repeat (first | (with_reducible first | exact HB.out | apply YA | apply YB | apply YC | refine below_set ?_ GE265.out) | exact HB.out)) hb); clear BK265; clear HB; have BK265 := n0_; have HB := n1_; clear n0_ n1_; (try clear hb); (try clear hb2); (try clear hk); (try clear hi)) | (go_at_call 58; (with_reducible refine (ack_mask_has.calls a0_3 t267 t268 _ A14.out).mono ?_); rintro e w' ⟨rfl, ⟨nd, rfl⟩⟩))
    go_ret
    exact ⟨by first | rfl | (simp [errW_none, errW_some] <;> rfl) | (simp [*, errW_none, errW_some] <;> rfl), by repeat (first | (with_reducible first | exact HB.out | apply YA | apply YB | apply YC | refine below_set ?_ GE265.out) | exact HB.out)⟩
   rw [if_neg c13] at H; have c13b0 : decide (t267 ≤ 16) = false := decide_eq_false c13; clear c13
   obtain rfl := Option.some.inj H
   go_enter Try.func38, Try.ntmps38
   go_wp2_with (first | ((with_reducible refine gate_dst (N := 2) rfl ?_); refine box_event ?hg (N := 2) ?hd (cs := #[.int .i64 a0_0, .int .i64 a0_1, .int .i64 a0_2, .int .i64 a0_3]) (t := 36) ?hr ?_; (case hd => rfl); (case hg => rfl); (case hr => first | (go_simp; done) | (go_simp; rfl)); intro gb265 hg w20 hbox hb; have n0_ := YL (YD (by repeat (first | (with_reducible first | exact HB.out | apply YA | apply YB | apply YC) | exact HB.out)) hb); have n1_ := YL (hbox); have n2_ := YL ((by rw [hg]; exact (YE (by repeat (first | (with_reducible first | exact HB.out | apply YA | apply YB | apply YC) | exact HB.out))) : w.heap.size ≤ gb265)); have n3_ := YL ((by rw [hg]; exact (YE (by repeat (first | (with_reducible first | exact HB.out | apply YA | apply YB | apply YC) | exact HB.out))) : w.heap.size ≤ gb265)); clear HB; have HB := n0_; have BK265 := n1_; have GW265 := n2_; have GE265 := n3_; clear n0_ n1_ n2_ n3_; clear hb hbox hg; have q21_0 : w20.cell? ⟨gb265, 0, none⟩ = some (.int .i64 a0_0) := (YI BK265.out 0).trans rfl; have q21_1 : w20.cell? ⟨gb265, 1, none⟩ = some (.int .i64 a0_1) := (YI BK265.out 1).trans rfl; have q21_2 : w20.cell? ⟨gb265, 2, none⟩ = some (.int .i64 a0_2) := (YI BK265.out 2).trans rfl; have q21_3 : w20.cell? ⟨gb265, 3, none⟩ = some (.int .i64 a0_3) := (YI BK265.out 3).trans rfl; have f21_0 := YJ BK265.out 0; have f21_1 := YJ BK265.out 1; have f21_2 := YJ BK265.out 2; have f21_3 := YJ BK265.out 3) | ((with_reducible refine gate_callee (f := 57) rfl ?_); refine goesL_ (some 8) rfl rfl Try.func57 (by kernel_rfl) rfl #[.agg #[.int .i64 a0_0, .int .i64 a0_1, .int .i64 a0_2, .int .i64 a0_3]] rfl (by (try simp only [YM, List.map_cons, List.map_nil]); first | done | rfl | (simp only [YO, YN]; rfl)) ?_; (with_reducible refine (ack_right.calls a0_0 a0_1 a0_2 a0_3 true _ A3.out).mono ?_); rintro e w22 ⟨rfl, hb⟩; refine ⟨_, rfl, ?_⟩; have n0_ := YL (YK (g := gb265) (o := .cells #[.int .i64 a0_0, .int .i64 a0_1, .int .i64 a0_2, .int .i64 a0_3] 36 (0, 0)) (by (with_reducible repeat (first | refine YF ?_ _ | refine YG ?_ | refine YH ?_ _)); exact BK265.out) hb); have n1_ := YL (YD (by repeat (first | (with_reducible first | exact HB.out | apply YA | apply YB | apply YC | refine below_set ?_ GE265.out) | exact HB.out)) hb); clear BK265; clear HB; have BK265 := n0_; have HB := n1_; clear n0_ n1_; (try clear hb); (try clear hb2); (try clear hk); (try clear hi); have q23_0 : w22.cell? ⟨gb265, 0, none⟩ = some (.int .i64 a0_0) := (YI BK265.out 0).trans rfl; have q23_1 : w22.cell? ⟨gb265, 1, none⟩ = some (.int .i64 a0_1) := (YI BK265.out 1).trans rfl; have q23_2 : w22.cell? ⟨gb265, 2, none⟩ = some (.int .i64 a0_2) := (YI BK265.out 2).trans rfl; have q23_3 : w22.cell? ⟨gb265, 3, none⟩ = some (.int .i64 a0_3) := (YI BK265.out 3).trans rfl; have f23_0 := YJ BK265.out 0; have f23_1 := YJ BK265.out 1; have f23_2 := YJ BK265.out 2; have f23_3 := YJ BK265.out 3) | ((with_reducible refine gate_callee (f := 24) rfl ?_); refine goesL_ (some 16) rfl rfl Try.func24 (by kernel_rfl) rfl #[.int .i64 a0_2, .int .i64 a1] rfl (by (try simp only [YM, List.map_cons, List.map_nil]); first | done | rfl | (simp only [YO, YN]; rfl)) ?_; (with_reducible refine (serial_Far.calls k a0_2 a1 t267 _ A5.out).mono ?_); rintro e w24 ⟨rfl, hb⟩; refine ⟨_, rfl, ?_⟩; have n0_ := YL (YK (g := gb265) (o := .cells #[.int .i64 a0_0, .int .i64 a0_1, .int .i64 a0_2, .int .i64 a0_3] 36 (0, 0)) (by (with_reducible repeat (first | refine YF ?_ _ | refine YG ?_ | refine YH ?_ _)); exact BK265.out) hb); have n1_ := YL (YD (by repeat (first | (with_reducible first | exact HB.out | apply YA | apply YB | apply YC | refine below_set ?_ GE265.out) | exact HB.out)) hb); clear BK265; clear HB; have BK265 := n0_; have HB := n1_; clear n0_ n1_; (try clear hb); (try clear hb2); (try clear hk); (try clear hi)))
   go_ret
   exact ⟨by first | rfl | (simp [errW_none, errW_some] <;> rfl) | (simp [*, errW_none, errW_some] <;> rfl), by repeat (first | (with_reducible first | exact HB.out | apply YA | apply YB | apply YC | refine below_set ?_ GE265.out) | exact HB.out)⟩
  rw [if_neg c12] at H; have c12b0 : decide (1 ≤ t267) = false := decide_eq_false c12; clear c12
  obtain rfl := Option.some.inj H
  go_enter Try.func38, Try.ntmps38
  go_wp2_with (first | ((with_reducible refine gate_dst (N := 2) rfl ?_); refine box_event ?hg (N := 2) ?hd (cs := #[.int .i64 a0_0, .int .i64 a0_1, .int .i64 a0_2, .int .i64 a0_3]) (t := 36) ?hr ?_; (case hd => rfl); (case hg => rfl); (case hr => first | (go_simp; done) | (go_simp; rfl)); intro gb265 hg w25 hbox hb; have n0_ := YL (YD (by repeat (first | (with_reducible first | exact HB.out | apply YA | apply YB | apply YC) | exact HB.out)) hb); have n1_ := YL (hbox); have n2_ := YL ((by rw [hg]; exact (YE (by repeat (first | (with_reducible first | exact HB.out | apply YA | apply YB | apply YC) | exact HB.out))) : w.heap.size ≤ gb265)); have n3_ := YL ((by rw [hg]; exact (YE (by repeat (first | (with_reducible first | exact HB.out | apply YA | apply YB | apply YC) | exact HB.out))) : w.heap.size ≤ gb265)); clear HB; have HB := n0_; have BK265 := n1_; have GW265 := n2_; have GE265 := n3_; clear n0_ n1_ n2_ n3_; clear hb hbox hg; have q26_0 : w25.cell? ⟨gb265, 0, none⟩ = some (.int .i64 a0_0) := (YI BK265.out 0).trans rfl; have q26_1 : w25.cell? ⟨gb265, 1, none⟩ = some (.int .i64 a0_1) := (YI BK265.out 1).trans rfl; have q26_2 : w25.cell? ⟨gb265, 2, none⟩ = some (.int .i64 a0_2) := (YI BK265.out 2).trans rfl; have q26_3 : w25.cell? ⟨gb265, 3, none⟩ = some (.int .i64 a0_3) := (YI BK265.out 3).trans rfl; have f26_0 := YJ BK265.out 0; have f26_1 := YJ BK265.out 1; have f26_2 := YJ BK265.out 2; have f26_3 := YJ BK265.out 3) | ((with_reducible refine gate_callee (f := 57) rfl ?_); refine goesL_ (some 8) rfl rfl Try.func57 (by kernel_rfl) rfl #[.agg #[.int .i64 a0_0, .int .i64 a0_1, .int .i64 a0_2, .int .i64 a0_3]] rfl (by (try simp only [YM, List.map_cons, List.map_nil]); first | done | rfl | (simp only [YO, YN]; rfl)) ?_; (with_reducible refine (ack_right.calls a0_0 a0_1 a0_2 a0_3 true _ A3.out).mono ?_); rintro e w27 ⟨rfl, hb⟩; refine ⟨_, rfl, ?_⟩; have n0_ := YL (YK (g := gb265) (o := .cells #[.int .i64 a0_0, .int .i64 a0_1, .int .i64 a0_2, .int .i64 a0_3] 36 (0, 0)) (by (with_reducible repeat (first | refine YF ?_ _ | refine YG ?_ | refine YH ?_ _)); exact BK265.out) hb); have n1_ := YL (YD (by repeat (first | (with_reducible first | exact HB.out | apply YA | apply YB | apply YC | refine below_set ?_ GE265.out) | exact HB.out)) hb); clear BK265; clear HB; have BK265 := n0_; have HB := n1_; clear n0_ n1_; (try clear hb); (try clear hb2); (try clear hk); (try clear hi); have q28_0 : w27.cell? ⟨gb265, 0, none⟩ = some (.int .i64 a0_0) := (YI BK265.out 0).trans rfl; have q28_1 : w27.cell? ⟨gb265, 1, none⟩ = some (.int .i64 a0_1) := (YI BK265.out 1).trans rfl; have q28_2 : w27.cell? ⟨gb265, 2, none⟩ = some (.int .i64 a0_2) := (YI BK265.out 2).trans rfl; have q28_3 : w27.cell? ⟨gb265, 3, none⟩ = some (.int .i64 a0_3) := (YI BK265.out 3).trans rfl; have f28_0 := YJ BK265.out 0; have f28_1 := YJ BK265.out 1; have f28_2 := YJ BK265.out 2; have f28_3 := YJ BK265.out 3) | ((with_reducible refine gate_callee (f := 24) rfl ?_); refine goesL_ (some 16) rfl rfl Try.func24 (by kernel_rfl) rfl #[.int .i64 a0_2, .int .i64 a1] rfl (by (try simp only [YM, List.map_cons, List.map_nil]); first | done | rfl | (simp only [YO, YN]; rfl)) ?_; (with_reducible refine (serial_Far.calls k a0_2 a1 t267 _ A5.out).mono ?_); rintro e w29 ⟨rfl, hb⟩; refine ⟨_, rfl, ?_⟩; have n0_ := YL (YK (g := gb265) (o := .cells #[.int .i64 a0_0, .int .i64 a0_1, .int .i64 a0_2, .int .i64 a0_3] 36 (0, 0)) (by (with_reducible repeat (first | refine YF ?_ _ | refine YG ?_ | refine YH ?_ _)); exact BK265.out) hb); have n1_ := YL (YD (by repeat (first | (with_reducible first | exact HB.out | apply YA | apply YB | apply YC | refine below_set ?_ GE265.out) | exact HB.out)) hb); clear BK265; clear HB; have BK265 := n0_; have HB := n1_; clear n0_ n1_; (try clear hb); (try clear hb2); (try clear hk); (try clear hi)))
  go_ret
  exact ⟨by first | rfl | (simp [errW_none, errW_some] <;> rfl) | (simp [*, errW_none, errW_some] <;> rfl), by repeat (first | (with_reducible first | exact HB.out | apply YA | apply YB | apply YC | refine below_set ?_ GE265.out) | exact HB.out)⟩
 replace c4 := Bool.eq_false_iff.mpr c4
 subst c4
 have H1 : (some false) = some r := by rw [if_neg (show ¬ (false = true) by decide)] at H; exact H
 clear H
 have H := H1
 clear H1
 obtain rfl := Option.some.inj H
 go_enter Try.func38, Try.ntmps38
 go_wp2_with (first | ((with_reducible refine gate_dst (N := 2) rfl ?_); refine box_event ?hg (N := 2) ?hd (cs := #[.int .i64 a0_0, .int .i64 a0_1, .int .i64 a0_2, .int .i64 a0_3]) (t := 36) ?hr ?_; (case hd => rfl); (case hg => rfl); (case hr => first | (go_simp; done) | (go_simp; rfl)); intro gb265 hg w30 hbox hb; have n0_ := YL (YD (by repeat (first | (with_reducible first | exact HB.out | apply YA | apply YB | apply YC) | exact HB.out)) hb); have n1_ := YL (hbox); have n2_ := YL ((by rw [hg]; exact (YE (by repeat (first | (with_reducible first | exact HB.out | apply YA | apply YB | apply YC) | exact HB.out))) : w.heap.size ≤ gb265)); have n3_ := YL ((by rw [hg]; exact (YE (by repeat (first | (with_reducible first | exact HB.out | apply YA | apply YB | apply YC) | exact HB.out))) : w.heap.size ≤ gb265)); clear HB; have HB := n0_; have BK265 := n1_; have GW265 := n2_; have GE265 := n3_; clear n0_ n1_ n2_ n3_; clear hb hbox hg; have q31_0 : w30.cell? ⟨gb265, 0, none⟩ = some (.int .i64 a0_0) := (YI BK265.out 0).trans rfl; have q31_1 : w30.cell? ⟨gb265, 1, none⟩ = some (.int .i64 a0_1) := (YI BK265.out 1).trans rfl; have q31_2 : w30.cell? ⟨gb265, 2, none⟩ = some (.int .i64 a0_2) := (YI BK265.out 2).trans rfl; have q31_3 : w30.cell? ⟨gb265, 3, none⟩ = some (.int .i64 a0_3) := (YI BK265.out 3).trans rfl; have f31_0 := YJ BK265.out 0; have f31_1 := YJ BK265.out 1; have f31_2 := YJ BK265.out 2; have f31_3 := YJ BK265.out 3) | ((with_reducible refine gate_callee (f := 57) rfl ?_); refine goesL_ (some 8) rfl rfl Try.func57 (by kernel_rfl) rfl #[.agg #[.int .i64 a0_0, .int .i64 a0_1, .int .i64 a0_2, .int .i64 a0_3]] rfl (by (try simp only [YM, List.map_cons, List.map_nil]); first | done | rfl | (simp only [YO, YN]; rfl)) ?_; (with_reducible refine (ack_right.calls a0_0 a0_1 a0_2 a0_3 false _ A3.out).mono ?_); rintro e w32 ⟨rfl, hb⟩; refine ⟨_, rfl, ?_⟩; have n0_ := YL (YK (g := gb265) (o := .cells #[.int .i64 a0_0, .int .i64 a0_1, .int .i64 a0_2, .int .i64 a0_3] 36 (0, 0)) (by (with_reducible repeat (first | refine YF ?_ _ | refine YG ?_ | refine YH ?_ _)); exact BK265.out) hb); have n1_ := YL (YD (by repeat (first | (with_reducible first | exact HB.out | apply YA | apply YB | apply YC | refine below_set ?_ GE265.out) | exact HB.out)) hb); clear BK265; clear HB; have BK265 := n0_; have HB := n1_; clear n0_ n1_; (try clear hb); (try clear hb2); (try clear hk); (try clear hi)))
 go_ret
 exact ⟨by first | rfl | (simp [errW_none, errW_some] <;> rfl) | (simp [*, errW_none, errW_some] <;> rfl), by repeat (first | (with_reducible first | exact HB.out | apply YA | apply YB | apply YC | refine below_set ?_ GE265.out) | exact HB.out)⟩
end Go.Proofs.Ytclbempnhelmoaa.P
namespace Go.Proofs.Ytclbempnhelmoaa.P
open Go.RowKit YtclbempnhelmoaaW.PrintWords YtclbempnhelmoaaW.PrintLast YtclbempnhelmoaaW.PrintMore
abbrev goQ (hs : Int → Bool) (o : It × Int) : Bool := hs o.1.b.f0
theorem got_pred (B p : Nat) (bn : Int) (A1 : Option Addr) (m1 c1 : Nat) (KK : Nat) (a0 a1 a2 a3 : Int) (w : World) (r : Bool) (hr : ack_Has.f KK a0 a1 a2 a3 bn = some r) (hA : w.heap[B]? = some (.cells #[.int .i64 a0, .int .i64 a1, .int .i64 a2, .int .i64 a3] 36 (0, 0))) :
  Calls Try.prog 37 #[.agg #[.int .i64 bn, .slice A1 m1 c1, .pointer (some ⟨p, 0, none⟩)], .pointer (some ⟨B, 0, none⟩)] w fun e w' => e = .returned (.bool r) ∧ Below w.heap.size w w' := by
 have HR := Aside0.mk hr
 have HA := Aside0.mk hA
 clear hr hA
 go_enter Try.func37, Try.ntmps37
 go_wp2_with (first
  | ((with_reducible refine gate_dst (N := 2) rfl ?_); refine box_event ?hg (N := 2) ?hd (cs := #[.int .i64 bn, .slice A1 m1 c1, .pointer (some ⟨p, 0, none⟩)]) (t := 73) ?hr ?_; (case hd => rfl); (case hg => rfl); (case hr => first | (go_simp; done) | (go_simp; rfl) | rfl | kernel_rfl); intro gb hg w2 hbox hb; have BB2 := Aside0.mk hb; have x0 : w2.cell? ⟨gb, 0, none⟩ = some (.int .i64 bn) := (blk_cell hbox 0).trans rfl; have HA2 := Aside0.mk (blk_below HA.out hb); have y0 : w2.cell? ⟨B, 0, none⟩ = some (.int .i64 a0) := (blk_cell HA2.out 0).trans rfl; have y1 : w2.cell? ⟨B, 1, none⟩ = some (.int .i64 a1) := (blk_cell HA2.out 1).trans rfl; have y2 : w2.cell? ⟨B, 2, none⟩ = some (.int .i64 a2) := (blk_cell HA2.out 2).trans rfl; have y3 : w2.cell? ⟨B, 3, none⟩ = some (.int .i64 a3) := (blk_cell HA2.out 3).trans rfl; clear hbox hb hg)
  | (go_at_call 38; (with_reducible refine (ack_Has.calls KK a0 a1 a2 a3 bn r _ HR.out).mono ?_); rintro e w4 ⟨rfl, hb4⟩; have BB4 := Aside0.mk (below_step BB2.out hb4); clear hb4))
 go_ret
 exact ⟨rfl, BB4.out⟩
theorem got_index (A : Option Addr) (c n B : Nat) (O : List (It × Int)) (w : World) (hn : n = O.length) (hr : Kd.C kIt w A (O.map Prod.fst).length (O.map Prod.fst)) (hl : O.length ≤ 1000000) (KK : Nat) (a0 a1 a2 a3 : Int) (hs : Int → Bool) (hA : w.heap[B]? = some (.cells #[.int .i64 a0, .int .i64 a1, .int .i64 a2, .int .i64 a3] 36 (0, 0))) (hh : ∀ o ∈ O, ack_Has.f KK a0 a1 a2 a3 o.1.b.f0 = some (hs o.1.b.f0)) :
  Calls Try.prog 54 #[.slice A n c, .func (.func 37) #[] #[.pointer (some ⟨B, 0, none⟩)]] w fun e w' => e = .returned (.int .i64 (ixB (goQ hs) O 0)) ∧ Below w.heap.size w w' := by
 have HR := Aside0.mk hr
 have HL := Aside0.mk hl
 have HN := Aside0.mk hn
 have HA := Aside0.mk hA
 have HH := Aside0.mk hh
 clear hA hh
 obtain ⟨R, hR⟩ : ∃ R, R = ixB (goQ hs) O 0 := ⟨_, rfl⟩
 rw [← hR]
 have HX := Aside0.mk hR.symm
 rw [List.length_map, ← hn] at HR
 clear hr hl hn hR
 go_enter Try.func54, Try.ntmps54
 go_wp2
 go_loopg [5, 8] n (fun kq v5 v8 wr => ∃ x : Int, v8 = .int .i64 x ∧ Aside0 (0 ≤ x) ∧ Aside0 (x + kq = n) ∧ Aside0 (ixB (goQ hs) (O.drop x.toNat) x = R) ∧ Aside0 (Below w.heap.size w wr))
 case atStart => exact ⟨0, rfl, ⟨by omega⟩, ⟨by omega⟩, HX, ⟨Below.refl _ _⟩⟩
 case round =>
  clear HX
  obtain ⟨x, rfl, H0, HI, HX, BL⟩ := hrel
  cases gk with
  | zero =>
   have hnl : decide (x < (n : Int)) = false := decide_eq_false (by have := HI.out; omega)
   have hx := HX.out
   rw [List.drop_eq_nil_of_le (by have := HI.out; have := HN.out; omega)] at hx
   simp only [ixB] at hx
   subst hx
   go_wp2
   go_ret
   exact ⟨rfl, BL.out⟩
  | succ k1 =>
   have hlt := (show x < (n : Int) by have := HI.out; omega)
   have h0 := H0.out
   have HXL := Aside0.mk (show x.toNat < O.length by have := HN.out; omega)
   obtain ⟨ad, A1, c1, e_, hx0, hx1, hx2, _, _⟩ := at_It HR.out x h0 hlt
   cases e_
   obtain ⟨o, ho⟩ : ∃ o, o = O[x.toNat]'(HXL.out) := ⟨_, rfl⟩
   have HO := Aside0.mk ho
   have hy : rd_It (O.map Prod.fst) x = o.1 := by rw [ho, ← List.getElem_map Prod.fst (h := by rw [List.length_map]; exact HXL.out), ← it_rd]; congr 1; omega
   rw [hy] at hx0 hx1 hx2
   replace hx0 := cell_below' BL.out hx0
   replace hx1 := cell_below' BL.out hx1
   replace hx2 := cell_below' BL.out hx2
   obtain ⟨m1, hm1⟩ : ∃ m1, m1 = o.1.b.f1.length := ⟨_, rfl⟩
   rw [← hm1] at hx1
   have HM := Aside0.mk (show o ∈ O by rw [ho]; exact List.getElem_mem _)
   have hd : decide (x < (n : Int)) = true := decide_eq_true hlt
   have hb0 : x < 9223372036854775807 := by have := HL.out; have := HN.out; omega
   have hw : wrap64 (x + 1) = x + 1 := w64 (by omega) (by omega)
   have hx := HX.out
   have hg : O.drop x.toNat = o :: O.drop (x + 1).toNat := by
    rw [List.drop_eq_getElem_cons HXL.out, show (x + 1).toNat = x.toNat + 1 by omega, ho]
   rw [hg] at hx
   simp only [ixB] at hx
   clear hg HX ho hy hm1
   have h0t := eq_true h0
   have hltt := eq_true hlt
   cases hq : (goQ hs) o with
   | true =>
    rw [if_pos hq] at hx
    subst hx
    have HQ := Aside0.mk hq
    clear hq
    go_wp2_with (go_at_call 37; (with_reducible refine (got_pred B o.1.p o.1.b.f0 A1 m1 c1 KK a0 a1 a2 a3 _ _ ((HH.out o HM.out).trans (congrArg some HQ.out)) (blk_below HA.out BL.out)).mono ?_); rintro e2 w2 ⟨rfl, hb⟩; have BL2 := Aside0.mk (below_step BL.out hb); clear hb)
    go_ret
    exact ⟨rfl, BL2.out⟩
   | false =>
    rw [if_neg (by rw [hq]; decide)] at hx
    have HX := Aside0.mk hx
    have HQ := Aside0.mk hq
    clear hx hq
    go_wp2_with (go_at_call 37; (with_reducible refine (got_pred B o.1.p o.1.b.f0 A1 m1 c1 KK a0 a1 a2 a3 _ _ ((HH.out o HM.out).trans (congrArg some HQ.out)) (blk_below HA.out BL.out)).mono ?_); rintro e2 w2 ⟨rfl, hb⟩; have BL2 := Aside0.mk (below_step BL.out hb); clear hb)
    go_roundg k1
    case measure => have := HI.out; omega
    case rel => exact ⟨x + 1, by first | rfl | simp [hw], ⟨by omega⟩, ⟨by have := HI.out; omega⟩, HX, BL2⟩
section
variable {q : It × Int → Bool}
def keepL (q : It × Int → Bool) (O : List (It × Int)) (j : Nat) : List (It × Int) := (O.take j).filter (fun o => !q o)
def curL (q : It × Int → Bool) (O : List (It × Int)) (j : Nat) : List (It × Int) := keepL q O j ++ O.drop (keepL q O j).length
theorem keepL_le (O : List (It × Int)) (j : Nat) : (keepL q O j).length ≤ j := by
 unfold keepL
 refine Nat.le_trans (List.length_filter_le _ _) ?_
 rw [List.length_take]
 omega
theorem curL_get (O : List (It × Int)) (j : Nat) (hj : j < O.length) : (curL q O j)[j]? = some O[j] := by
 have := keepL_le (q := q) O j
 unfold curL
 rw [List.getElem?_append_right this, List.getElem?_drop, show (keepL q O j).length + (j - (keepL q O j).length) = j by omega]
 exact List.getElem?_eq_getElem hj
theorem keepL_skip (O : List (It × Int)) (j : Nat) (hj : j < O.length) (hq : q O[j] = true) : keepL q O (j + 1) = keepL q O j := by
 unfold keepL
 rw [List.take_succ_eq_append_getElem hj, List.filter_append, List.filter_cons_of_neg (by rw [hq]; decide)]
 simp
theorem keepL_put (O : List (It × Int)) (j : Nat) (hj : j < O.length) (hq : q O[j] = false) : keepL q O (j + 1) = keepL q O j ++ [O[j]] := by
 unfold keepL
 rw [List.take_succ_eq_append_getElem hj, List.filter_append, List.filter_cons_of_pos (by rw [hq]; decide)]
 simp
theorem curL_put (O : List (It × Int)) (j : Nat) (hj : j < O.length) (hq : q O[j] = false) : (curL q O j).set (keepL q O j).length O[j] = curL q O (j + 1) := by
 have h1 := keepL_le (q := q) O j
 unfold curL
 rw [keepL_put O j hj hq, List.set_append_right _ _ (Nat.le_refl _), Nat.sub_self, List.drop_eq_getElem_cons (by omega), List.set_cons_zero, List.length_append, List.append_assoc]
 rfl
theorem ixB_at : ∀ (O : List (It × Int)) (i0 : Int), (ixB q O i0 = -1 ∧ ∀ o ∈ O, q o = false) ∨ ∃ i : Nat, ∃ h : i < O.length, ixB q O i0 = i0 + i ∧ q (O[i]) = true ∧ ∀ o ∈ O.take i, q o = false := by
 intro O
 induction O with
 | nil => intro i0; exact .inl ⟨rfl, fun o ho => by cases ho⟩
 | cons o r ih =>
  intro i0
  unfold ixB
  by_cases hq : q o = true
  ·rw [if_pos hq]
   exact .inr ⟨0, by simp, by simp, hq, fun p hp => by cases hp⟩
  ·rw [if_neg hq]
   have hq2 : q o = false := by simpa using hq
   rcases ih (i0 + 1) with ⟨h1, h2⟩ | ⟨i, h1, h2, h3, h4⟩
   ·refine .inl ⟨h1, fun p hp => ?_⟩
    rcases List.mem_cons.1 hp with rfl | hp
    ·exact hq2
    ·exact h2 p hp
   ·refine .inr ⟨i + 1, by simpa using h1, by rw [h2]; push_cast; omega, by simpa using h3, fun p hp => ?_⟩
    rw [List.take_succ_cons] at hp
    rcases List.mem_cons.1 hp with rfl | hp
    ·exact hq2
    ·exact h4 p hp
theorem keepL_start (O : List (It × Int)) (i : Nat) (h : i < O.length) (hq : q O[i] = true) (h4 : ∀ o ∈ O.take i, q o = false) : keepL q O (i + 1) = O.take i := by
 rw [keepL_skip O i h hq]
 unfold keepL
 rw [List.filter_eq_self.2 (fun o ho => by rw [h4 o ho]; rfl)]
theorem curL_start (O : List (It × Int)) (i : Nat) (h : i < O.length) (hq : q O[i] = true) (h4 : ∀ o ∈ O.take i, q o = false) : curL q O (i + 1) = O ∧ (keepL q O (i + 1)).length = i := by
 have hk := keepL_start O i h hq h4
 have hl : (O.take i).length = i := by rw [List.length_take]; omega
 unfold curL
 rw [hk, hl]
 exact ⟨List.take_append_drop i O, rfl⟩
theorem curL_end (O : List (It × Int)) : (curL q O O.length).take (keepL q O O.length).length = O.filter (fun o => !q o) := by
 unfold curL
 rw [List.take_append_of_le_length (Nat.le_refl _), List.take_length]
 unfold keepL
 rw [List.take_length]
end
theorem sz_It : (Try.prog.info? 73).map (·.size) = some 3 := by kernel_rfl
theorem one3 (a : Int) (A : Option Addr) (m c : Nat) {p : Option Addr} : ∀ u ∈ [Value.int .i64 a, .slice A m c, .pointer p], u.oneCell' = true := by
 intro u hu
 simp only [List.mem_cons, List.not_mem_nil, or_false] at hu
 rcases hu with rfl | rfl | rfl <;> rfl
theorem seg3 (c : List Value) (h : c.length = kIt.sz) {a b d : Value} : c.take 0 ++ [a, b, d] ++ c.drop (0 + [a, b, d].length) = [a, b, d] := by
 have h3 : c.length = 3 := h
 rw [List.take_zero, List.nil_append, List.drop_eq_nil_of_le (by simp; omega), List.append_nil]
theorem Kd.R_beyond {α : Type} {d : Kd α} {e base g n cap : Nat} {ok : Nat → Prop} {W : World} {xs : List α} (h : d.R e W base ok (.slice (some ⟨g, 0, none⟩) n cap) xs) (o : Nat) (seg : List Value) (ho : n * d.sz ≤ o) (hf : o + seg.length ≤ cap * d.sz) :
  d.R e (W.setCells g o seg) base ok (.slice (some ⟨g, 0, none⟩) n cap) xs ∧ W.grownBy (W.setCells g o seg) (some g) := by
 obtain ⟨hok, inner, ho1, hr⟩ := h
 obtain ⟨hl, hc⟩ := ho1
 obtain ⟨s1, s2, s3, s4⟩ := setCells_same g seg o W
 have hfar : ∀ k, k ≠ g → (W.setCells g o seg).heap[k]? = W.heap[k]? := fun k hk => setCells_far seg _ k hk
 refine ⟨⟨hok, inner, ⟨hl, ?_⟩, hr.imp_ (fun p c hp => d.M_move (fun k hk => hfar k (fun e => hk.2 (by rw [e]; rfl))) hp)⟩, ⟨s1, s2, s3, by rw [s4]; exact Nat.le_refl _, fun k _ hk => hfar k (fun he => hk (by rw [he]))⟩⟩
 rcases hc with ⟨hv, _⟩ | ⟨g', cap', cur, hv, hb, hh, hnc, hcm, hcs, ht⟩
 ·cases hv
 injection hv with ha hn hc
 injection ha with ha
 injection ha with hg
 subst hg; subst hc
 obtain ⟨cur', h3, h4, h5⟩ := setCells_row seg o W cur hh (by rw [hcs]; exact hf)
 refine .inr ⟨g, cap, cur', by rw [hn], hb, h3, hnc, hcm, by rw [h4, hcs], ?_⟩
 rw [h5, ← ht]
 rw [List.append_assoc, List.take_append_of_le_length (by
  have e1 : cur.toList.length = cap * d.sz := by rw [Array.length_toList]; exact hcs
  have e2 : n * d.sz ≤ cap * d.sz := by omega
  rw [List.length_take, e1, ← hn]
  omega), List.take_take, Nat.min_eq_left (by rw [← hn]; exact ho)]
theorem zeroCells_len (z : Array Value) (m : Nat) : (Builtin.zeroCells z m).toList.length = m * z.size := by
 simp [Builtin.zeroCells]
theorem zeroCells_one (z : Array Value) (m : Nat) (hz : ∀ u ∈ z.toList, u.oneCell' = true) : ∀ u ∈ (Builtin.zeroCells z m).toList, u.oneCell' = true := by
 intro u hu
 simp only [Builtin.zeroCells, Array.toList_map, Array.toList_range, List.mem_map, List.mem_range] at hu
 obtain ⟨i, hi, rfl⟩ := hu
 have hp : 0 < z.size := by
  rcases Nat.eq_zero_or_pos z.size with e | e
  ·rw [e] at hi; simp at hi
  ·exact e
 have hlt := Nat.mod_lt i hp
 rw [getElem!_pos z _ hlt]
 exact hz _ (by simp)
theorem one_zIt : ∀ u ∈ (Value.agg #[(.int .i64 0), (.slice none 0 0), (.pointer none)]).cells.toList, u.oneCell' = true := one3 0 none 0 0
theorem Kd.R_clear {P : Program} {ops : Array Oper} {rest : List Oper} {o : Oper} {a : Act} {Q : Exit → Act → World → Prop} {α : Type} (d : Kd α) {W : World} (base : Nat) (hgd : o.guard = none) (s : Operand) (t e : TypeId) (z : Value) (bytes : Nat)
  (ho : o.op = .call { callee := .builtin .clear, args := #[s], argTypes := #[t] }) (ht : P.underlying t = some (.slice e)) (hinfo : (P.info? e).map (fun i => (i.zero, i.size, i.bytes)) = some (some z, d.sz, bytes)) (hz : z.cells.size = d.sz) (hz1 : ∀ u ∈ z.cells.toList, u.oneCell' = true)
  {g n m i cap c' off : Nat} {ok : Nat → Prop} {xs : List α} (hs : a.eval s = .slice (some ⟨g, off, none⟩) m c') (hoff : off = i * d.sz) (hm : i + m = n) (hmp : 0 < m) (HO : d.R e W base ok (.slice (some ⟨g, 0, none⟩) n cap) xs)
  (h : ∀ w1, d.R e w1 base ok (.slice (some ⟨g, 0, none⟩) i cap) (xs.take i) → W.grownBy w1 (some g) → wpList P ops Q rest (a.put o.dst (.tuple #[])) w1) : wpList P ops Q (o :: rest) a W := by
 subst hoff
 obtain ⟨hn, hnc, _⟩ := Kd.R_reads' HO
 have hzl := zeroCells_len z.cells m
 have hzo := zeroCells_one z.cells m hz1
 have hfit : i * d.sz + (Builtin.zeroCells z.cells m).toList.length ≤ cap * d.sz := by
  rw [hzl, hz, ← Nat.add_mul]
  exact Nat.mul_le_mul_right _ (by omega)
 obtain ⟨h1, h2⟩ := Kd.R_beyond (Kd.R_take HO (m := i) (by omega)) (i * d.sz) (Builtin.zeroCells z.cells m).toList (Nat.le_refl _) hfit
 obtain ⟨i0, hi0, hzz⟩ := Option.map_eq_some_iff.1 hinfo
 simp only [Prod.mk.injEq] at hzz
 refine wpList_plain hgd fun K hK => ?_
 have hrun : (Builtin.clear_ #[t] o.type #[.slice (some ⟨g, i * d.sz, none⟩) m c']).run P W = .ok (.tuple #[]) (W.setCells g (i * d.sz) (Builtin.zeroCells z.cells m).toList) := by
  obtain ⟨_, inner, hown, _⟩ := HO
  rcases hown.2 with ⟨hv, _⟩ | ⟨g', cap', cur, hv, hb, hh, hnc', hcm, hcs, _⟩
  ·cases hv
  injection hv with ha _ hc
  injection ha with ha
  injection ha with hg'
  subst hg'; subst hc
  have hst := run_storeCells_cells (P := P) g (i * d.sz) (Builtin.zeroCells z.cells m).toList 0 W (fun j hj => by rw [cell_of_row W g _ cur e (0, 0) hh]; simp; omega) (fun j _ => blk_frozen hh _) hzo
  simp only [Nat.add_zero] at hst
  obtain ⟨m', rfl⟩ : ∃ m', m = m' + 1 := ⟨m - 1, by omega⟩
  have hv : (zeroValue e).run P W = .ok z W := by simp [zeroValue, typeInfo, hi0, hzz.1]
  simp [Builtin.clear_, run_underlying ht, hv, hst]
 unfold Oper.wp
 simp [execOp, ho, resolve, invoke, builtin, hs, hrun, Result.andThen]
 exact hK _ _ (h _ h1 h2)
theorem got_del_none (A : Option Addr) (c n B : Nat) (O : List (It × Int)) (w : World) (hn : n = O.length) (hr : Kd.C kIt w A (O.map Prod.fst).length (O.map Prod.fst)) (hl : O.length ≤ 1000000) (KK : Nat) (a0 a1 a2 a3 : Int) (hs : Int → Bool) (hA : w.heap[B]? = some (.cells #[.int .i64 a0, .int .i64 a1, .int .i64 a2, .int .i64 a3] 36 (0, 0))) (hh : ∀ o ∈ O, ack_Has.f KK a0 a1 a2 a3 o.1.b.f0 = some (hs o.1.b.f0)) (hq : ∀ o ∈ O, goQ hs o = false) :
  Calls Try.prog 36 #[.slice A n c, .func (.func 37) #[] #[.pointer (some ⟨B, 0, none⟩)]] w fun e w' => e = .returned (.slice A n c) ∧ Below w.heap.size w w' := by
 have hix := got_index A c n B O w hn hr hl KK a0 a1 a2 a3 hs hA hh
 rw [ixB_none O 0 hq] at hix
 have HIX := Aside0.mk hix
 clear hix hn hr hl hA hh hq
 go_enter Try.func36, Try.ntmps36
 go_wp2_with (go_at_call 54; (with_reducible refine HIX.out.mono ?_); rintro e w2 ⟨rfl, hb⟩; have B2 := Aside0.mk hb; clear hb)
 go_ret
 exact ⟨rfl, B2.out⟩
theorem le3 {a b d : Value} : 0 + [a, b, d].length ≤ kIt.sz := Nat.le_refl 3
theorem cut_itF (g' n c : Nat) (x : Int) (h0 : 0 ≤ x) (hm : x ≤ n) (hc : x.toNat < c) : ∀ W : World, (Instr.slice 61 (.slice (some ⟨g', 0, none⟩) n c) (some (.int .i64 x)) none none).run Try.prog W = .ok (.slice (some ⟨g', x.toNat * 3, none⟩) (n - x.toNat) (c - x.toNat)) W := by
 obtain ⟨i0, hi0, _, hsz, _⟩ := info_parts info73
 have h := cut_from (P := Try.prog) 61 73 .i64 Try.underlying61 hi0 3 hsz (some ⟨g', 0, none⟩) n c x h0 hm
 rw [if_neg (by omega)] at h
 simp only [Option.map_some, add_plain] at h
 exact h
theorem cut_itT (A : Option Addr) (n c : Nat) (x : Int) (h0 : 0 ≤ x) (hm : x ≤ n) (hc : n ≤ c) : ∀ W : World, (Instr.slice 61 (.slice A n c) none (some (.int .i64 x)) none).run Try.prog W = .ok (.slice A x.toNat c) W := by
 obtain ⟨i0, hi0, _, hsz, _⟩ := info_parts info73
 exact cut_to (P := Try.prog) 61 73 .i64 Try.underlying61 hi0 A n c x h0 hm hc
theorem got_del_some (g' c n B : Nat) (O : List (It × Int)) (w : World) (base : Nat) (ok : Nat → Prop) (hR : kIt.R 73 w base ok (.slice (some ⟨g', 0, none⟩) n c) (O.map Prod.fst)) (hbs : base ≤ w.heap.size) (hn : n = O.length) (hl : O.length ≤ 1000000) (KK : Nat) (a0 a1 a2 a3 : Int) (hs : Int → Bool) (hA : w.heap[B]? = some (.cells #[.int .i64 a0, .int .i64 a1, .int .i64 a2, .int .i64 a3] 36 (0, 0))) (hh : ∀ o ∈ O, ack_Has.f KK a0 a1 a2 a3 o.1.b.f0 = some (hs o.1.b.f0)) (hBg : B ≠ g') (i0 : Nat) (hi : i0 < O.length) (hx0 : ixB (goQ hs) O 0 = (i0 : Int)) (hq : goQ hs O[i0] = true) (h4 : ∀ o ∈ O.take i0, goQ hs o = false) :
  Calls Try.prog 36 #[.slice (some ⟨g', 0, none⟩) n c, .func (.func 37) #[] #[.pointer (some ⟨B, 0, none⟩)]] w fun e w' => ∃ m, e = .returned (.slice (some ⟨g', 0, none⟩) m c) ∧ kIt.R 73 w' base ok (.slice (some ⟨g', 0, none⟩) m c) ((O.filter (fun o => !goQ hs o)).map Prod.fst) ∧ w.grownBy w' (some g') := by
 have hix := got_index (some ⟨g', 0, none⟩) c n B O w hn (Kd.R_reads' hR).2.2 hl KK a0 a1 a2 a3 hs hA hh
 rw [hx0] at hix
 have HIX := Aside0.mk hix
 obtain ⟨e1, e2⟩ := curL_start O i0 hi hq h4
 have SR0 := Aside0.mk hR
 have HN := Aside0.mk hn
 have HL := Aside0.mk hl
 have HA := Aside0.mk hA
 have HH := Aside0.mk hh
 have HBG := Aside0.mk (show some B ≠ some g' from fun e => hBg (Option.some.inj e))
 have HI0 := Aside0.mk hi
 have HBS := Aside0.mk hbs
 have HNC := Aside0.mk (Kd.R_reads' hR).2.1
 have HE := Aside0.mk (And.intro e1 e2)
 have bq : ((i0 : Int) == -1) = false := beq_eq_false_iff_ne.mpr (by omega)
 have HW0 := Aside0.mk (show wrap64 ((i0 : Int) + 1) = (i0 : Int) + 1 from w64 (by omega) (by omega))
 clear hix hR hbs hn hl hA hh hBg hi hx0 hq h4 e1 e2
 go_enter Try.func36, Try.ntmps36
 go_wp2_with (go_at_call 54; (with_reducible refine HIX.out.mono ?_); rintro e w2 ⟨rfl, hb⟩; have B2 := Aside0.mk hb; clear hb)
 go_loopg [5, 6] (n - (i0 + 1)) (fun kq v5 v6 wr => ∃ (x y : Int), v5 = .int .i64 x ∧ v6 = .int .i64 y ∧ Aside0 (0 ≤ x) ∧ Aside0 (x < y) ∧ Aside0 (y + kq = n) ∧ Aside0 (x.toNat = (keepL (goQ hs) O y.toNat).length) ∧ Aside0 (kIt.R 73 wr base ok (.slice (some ⟨g', 0, none⟩) n c) ((curL (goQ hs) O y.toNat).map Prod.fst)) ∧ Aside0 (w.grownBy wr (some g')))
 case atStart =>
  have ey : ((i0 : Int) + 1).toNat = i0 + 1 := by omega
  exact ⟨i0, i0 + 1, rfl, by first | rfl | rw [HW0.out], ⟨by omega⟩, ⟨by omega⟩, ⟨by have := HI0.out; have := HN.out; omega⟩, ⟨by rw [ey, HE.out.2]; omega⟩, ⟨by rw [ey, HE.out.1]; exact Kd.R_below SR0.out B2.out⟩, ⟨grown_of_below B2.out _⟩⟩
 case round =>
  clear SR0 HE
  obtain ⟨x, y, rfl, rfl, H0, HXY, HI, HKX, SR, SG⟩ := hrel
  cases gk with
  | zero =>
   have hnl : decide (y < (n : Int)) = false := decide_eq_false (by have := HI.out; omega)
   have hyn : y.toNat = O.length := by have := HI.out; have := HN.out; omega
   have HXN := Aside0.mk (show x < n by have := HXY.out; have := HI.out; omega)
   have hc1 := cut_itF g' n c x H0.out (by have := HXN.out; omega) (by have := HXN.out; have := HNC.out; have := H0.out; omega)
   have hc2 := cut_itT (some ⟨g', 0, none⟩) n c x H0.out (by have := HXN.out; omega) HNC.out
   obtain ⟨m2, hm2⟩ : ∃ m2, m2 = n - x.toNat := ⟨_, rfl⟩
   obtain ⟨c2, hc2'⟩ : ∃ c2, c2 = c - x.toNat := ⟨_, rfl⟩
   rw [← hm2, ← hc2'] at hc1
   have HM2 := Aside0.mk (show x.toNat + m2 = n ∧ 0 < m2 by rw [hm2]; have := HXN.out; have := H0.out; omega)
   have HEN := Aside0.mk (show (curL (goQ hs) O y.toNat).take x.toNat = O.filter (fun o => !goQ hs o) by rw [HKX.out, hyn]; exact curL_end O)
   clear hm2 hc2' hyn
   go_wp2_with ((with_reducible refine gate_builtin (b := .clear) (xs := #[.tmp 38]) rfl ?_); refine Kd.R_clear kIt base rfl (.tmp 38) 61 73 _ 40 rfl Try.underlying61 info73 rfl one_zIt (g := g') (n := n) (m := m2) (i := x.toNat) (cap := c) (c' := c2) (off := x.toNat * 3) rfl rfl HM2.out.1 HM2.out.2 SR.out ?_; intro w12 hr12 hg12; have SR12 := Aside0.mk hr12; have SG12 := Aside0.mk (World.grownBy.trans SG.out hg12); clear hr12 hg12)
   go_ret
   have hr := SR12.out
   rw [← List.map_take, HEN.out] at hr
   exact ⟨_, rfl, hr, SG12.out⟩
  | succ k1 =>
   have hlt := (show y < (n : Int) by have := HI.out; omega)
   have h0 := (show (0 : Int) ≤ y by have := H0.out; have := HXY.out; omega)
   have HYL := Aside0.mk (show y.toNat < O.length by have := HN.out; omega)
   have HIN := Aside0.mk (show x < (n : Int) by have := HXY.out; omega)
   obtain ⟨ad, A1, c1, e_, x0, x1, x2, hi1⟩ := at_ItM SR.out y h0 hlt
   cases e_
   obtain ⟨o, ho⟩ : ∃ o, o = O[y.toNat]'(HYL.out) := ⟨_, rfl⟩
   have HOY := Aside0.mk ho
   have hy : rd_It ((curL (goQ hs) O y.toNat).map Prod.fst) y = o.1 := by
    unfold rd_It
    rw [List.getD_eq_getElem?_getD, List.getElem?_map, curL_get O y.toNat HYL.out, ho]
    rfl
   rw [hy] at x0 x1 x2 hi1
   obtain ⟨m1, hm1⟩ : ∃ m1, m1 = o.1.b.f1.length := ⟨_, rfl⟩
   rw [← hm1] at x1 hi1
   rw [add_plain] at x0 x1 x2
   replace x1 : wr.cell? ⟨g', y.toNat * 3 + 1, none⟩ = some (.slice A1 m1 c1) := x1
   replace x2 : wr.cell? ⟨g', y.toNat * 3 + 2, none⟩ = some (.pointer (some ⟨o.1.p, 0, none⟩)) := x2
   have HMM := Aside0.mk (kIt_mkM wr base (fun k => ok k ∧ k ≠ g') o.1 (Kd.R_mono hi1 (fun k hk => ⟨hk.1, fun e => hk.2 (by rw [e]; rfl)⟩)))
   have HM := Aside0.mk (show o ∈ O by rw [ho]; exact List.getElem_mem _)
   obtain ⟨cold, hcl, _, hcc, _⟩ := Kd.R_elem SR.out zIt x H0.out HIN.out
   have HCL := Aside0.mk hcl
   have HCC := Aside0.mk hcc
   have hd : decide (y < (n : Int)) = true := decide_eq_true hlt
   have hb0 : y < 9223372036854775807 := by have := HL.out; have := HN.out; omega
   have hw : wrap64 (y + 1) = y + 1 := w64 (by omega) (by omega)
   have hwx : wrap64 (x + 1) = x + 1 := w64 (by have := H0.out; omega) (by have := HIN.out; have := HL.out; have := HN.out; omega)
   have h0t := eq_true h0
   have hltt := eq_true hlt
   have h0x := H0.out
   have h0xt := eq_true h0x
   have hltx := HIN.out
   have hltxt := eq_true hltx
   clear hy hm1 hi1 ho hcl hcc
   cases hq : goQ hs o with
   | true =>
    have HQ := Aside0.mk hq
    clear hq
    go_wp2_with (first
     | ((with_reducible refine gate_dst (N := 7) rfl ?_); refine box_event ?hg (N := 7) ?hd (cs := #[.int .i64 0, .slice none 0 0, .pointer none]) (t := 73) ?hr ?_; (case hd => rfl); (case hg => rfl); (case hr => first | (go_simp; done) | (go_simp; rfl) | rfl | kernel_rfl); intro gi hg w8 hbox hb; have HB9 := Aside0.mk (show Below wr.heap.size wr (((w8.setCell ⟨gi, 0, none⟩ (.int .i64 o.1.b.f0)).setCell ⟨gi, 1, none⟩ (.slice A1 m1 c1)).setCell ⟨gi, 2, none⟩ (.pointer (some ⟨o.1.p, 0, none⟩))) from below_set (below_set (below_set hb (Nat.le_of_eq hg.symm)) (Nat.le_of_eq hg.symm)) (Nat.le_of_eq hg.symm)); have BI9 := Aside0.mk (blk_put (blk_put (blk_put hbox 0 (.int .i64 o.1.b.f0) (cs' := #[.int .i64 o.1.b.f0, .slice none 0 0, .pointer none]) rfl) 1 (.slice A1 m1 c1) (cs' := #[.int .i64 o.1.b.f0, .slice A1 m1 c1, .pointer none]) rfl) 2 (.pointer (some ⟨o.1.p, 0, none⟩)) (cs' := #[.int .i64 o.1.b.f0, .slice A1 m1 c1, .pointer (some ⟨o.1.p, 0, none⟩)]) rfl); have q0 := (blk_cell hbox 0).trans rfl; have q1 := (blk_cell hbox 1).trans rfl; have q2 := (blk_cell hbox 2).trans rfl; have af0 := blk_frozen hbox 0; have af1 := blk_frozen hbox 1; have af2 := blk_frozen hbox 2; have i0 : (((w8.setCell ⟨gi, 0, none⟩ (.int .i64 o.1.b.f0)).setCell ⟨gi, 1, none⟩ (.slice A1 m1 c1)).setCell ⟨gi, 2, none⟩ (.pointer (some ⟨o.1.p, 0, none⟩))).cell? ⟨gi, 0, none⟩ = some (.int .i64 o.1.b.f0) := (blk_cell BI9.out 0).trans rfl; have i1 : (((w8.setCell ⟨gi, 0, none⟩ (.int .i64 o.1.b.f0)).setCell ⟨gi, 1, none⟩ (.slice A1 m1 c1)).setCell ⟨gi, 2, none⟩ (.pointer (some ⟨o.1.p, 0, none⟩))).cell? ⟨gi, 1, none⟩ = some (.slice A1 m1 c1) := (blk_cell BI9.out 1).trans rfl; have i2 : (((w8.setCell ⟨gi, 0, none⟩ (.int .i64 o.1.b.f0)).setCell ⟨gi, 1, none⟩ (.slice A1 m1 c1)).setCell ⟨gi, 2, none⟩ (.pointer (some ⟨o.1.p, 0, none⟩))).cell? ⟨gi, 2, none⟩ = some (.pointer (some ⟨o.1.p, 0, none⟩)) := (blk_cell BI9.out 2).trans rfl; clear hb hbox hg)
     | (go_at_call 37; (with_reducible refine (got_pred B o.1.p o.1.b.f0 A1 m1 c1 KK a0 a1 a2 a3 _ _ ((HH.out o HM.out).trans (congrArg some HQ.out)) (blk_below (blk_grown HA.out SG.out HBG.out) HB9.out)).mono ?_); rintro e2 w10 ⟨rfl, hb⟩; have HB10 := Aside0.mk (below_step HB9.out hb); have BI10 := Aside0.mk (blk_below BI9.out hb); have j0 : w10.cell? ⟨gi, 0, none⟩ = some (.int .i64 o.1.b.f0) := (blk_cell BI10.out 0).trans rfl; have j1 : w10.cell? ⟨gi, 1, none⟩ = some (.slice A1 m1 c1) := (blk_cell BI10.out 1).trans rfl; have j2 : w10.cell? ⟨gi, 2, none⟩ = some (.pointer (some ⟨o.1.p, 0, none⟩)) := (blk_cell BI10.out 2).trans rfl; clear hb))
    go_roundg k1
    case measure => have := HI.out; omega
    case rel =>
     have ey : (y + 1).toNat = y.toNat + 1 := by omega
     have hk := keepL_skip (q := goQ hs) O y.toNat HYL.out (by rw [← HOY.out]; exact HQ.out)
     have hcu : curL (goQ hs) O (y.toNat + 1) = curL (goQ hs) O y.toNat := by unfold curL; rw [hk]
     exact ⟨x, y + 1, rfl, by first | rfl | simp [hw], H0, ⟨by have := HXY.out; omega⟩, ⟨by have := HI.out; omega⟩, ⟨by rw [ey, hk]; exact HKX.out⟩, ⟨by rw [ey, hcu]; exact Kd.R_below SR.out HB10.out⟩, ⟨World.grownBy.trans SG.out (grown_of_below HB10.out _)⟩⟩
   | false =>
    have HQ := Aside0.mk hq
    clear hq
    go_wp2_with (first
     | ((with_reducible refine gate_dst (N := 7) rfl ?_); refine box_event ?hg (N := 7) ?hd (cs := #[.int .i64 0, .slice none 0 0, .pointer none]) (t := 73) ?hr ?_; (case hd => rfl); (case hg => rfl); (case hr => first | (go_simp; done) | (go_simp; rfl) | rfl | kernel_rfl); intro gi hg w8 hbox hb; have HB9 := Aside0.mk (show Below wr.heap.size wr (((w8.setCell ⟨gi, 0, none⟩ (.int .i64 o.1.b.f0)).setCell ⟨gi, 1, none⟩ (.slice A1 m1 c1)).setCell ⟨gi, 2, none⟩ (.pointer (some ⟨o.1.p, 0, none⟩))) from below_set (below_set (below_set hb (Nat.le_of_eq hg.symm)) (Nat.le_of_eq hg.symm)) (Nat.le_of_eq hg.symm)); have BI9 := Aside0.mk (blk_put (blk_put (blk_put hbox 0 (.int .i64 o.1.b.f0) (cs' := #[.int .i64 o.1.b.f0, .slice none 0 0, .pointer none]) rfl) 1 (.slice A1 m1 c1) (cs' := #[.int .i64 o.1.b.f0, .slice A1 m1 c1, .pointer none]) rfl) 2 (.pointer (some ⟨o.1.p, 0, none⟩)) (cs' := #[.int .i64 o.1.b.f0, .slice A1 m1 c1, .pointer (some ⟨o.1.p, 0, none⟩)]) rfl); have q0 := (blk_cell hbox 0).trans rfl; have q1 := (blk_cell hbox 1).trans rfl; have q2 := (blk_cell hbox 2).trans rfl; have af0 := blk_frozen hbox 0; have af1 := blk_frozen hbox 1; have af2 := blk_frozen hbox 2; have i0 : (((w8.setCell ⟨gi, 0, none⟩ (.int .i64 o.1.b.f0)).setCell ⟨gi, 1, none⟩ (.slice A1 m1 c1)).setCell ⟨gi, 2, none⟩ (.pointer (some ⟨o.1.p, 0, none⟩))).cell? ⟨gi, 0, none⟩ = some (.int .i64 o.1.b.f0) := (blk_cell BI9.out 0).trans rfl; have i1 : (((w8.setCell ⟨gi, 0, none⟩ (.int .i64 o.1.b.f0)).setCell ⟨gi, 1, none⟩ (.slice A1 m1 c1)).setCell ⟨gi, 2, none⟩ (.pointer (some ⟨o.1.p, 0, none⟩))).cell? ⟨gi, 1, none⟩ = some (.slice A1 m1 c1) := (blk_cell BI9.out 1).trans rfl; have i2 : (((w8.setCell ⟨gi, 0, none⟩ (.int .i64 o.1.b.f0)).setCell ⟨gi, 1, none⟩ (.slice A1 m1 c1)).setCell ⟨gi, 2, none⟩ (.pointer (some ⟨o.1.p, 0, none⟩))).cell? ⟨gi, 2, none⟩ = some (.pointer (some ⟨o.1.p, 0, none⟩)) := (blk_cell BI9.out 2).trans rfl; clear hb hbox hg)
     | (go_at_call 37; (with_reducible refine (got_pred B o.1.p o.1.b.f0 A1 m1 c1 KK a0 a1 a2 a3 _ _ ((HH.out o HM.out).trans (congrArg some HQ.out)) (blk_below (blk_grown HA.out SG.out HBG.out) HB9.out)).mono ?_); rintro e2 w10 ⟨rfl, hb⟩; have HB10 := Aside0.mk (below_step HB9.out hb); have BI10 := Aside0.mk (blk_below BI9.out hb); have j0 : w10.cell? ⟨gi, 0, none⟩ = some (.int .i64 o.1.b.f0) := (blk_cell BI10.out 0).trans rfl; have j1 : w10.cell? ⟨gi, 1, none⟩ = some (.slice A1 m1 c1) := (blk_cell BI10.out 1).trans rfl; have j2 : w10.cell? ⟨gi, 2, none⟩ = some (.pointer (some ⟨o.1.p, 0, none⟩)) := (blk_cell BI10.out 2).trans rfl; clear hb)
     | ((with_reducible refine gate_ (.store 73 (.tmp 33) (.tmp 32)) rfl ?_); refine Kd.R_store kIt (w0 := w10) base rfl rfl 73 (.tmp 33) (.tmp 32) rfl 73 (g := g') (n := n) (cap := c) (o' := x.toNat * 3 + 0) x 0 ((curL (goQ hs) O y.toNat).map Prod.fst) o.1 (.agg #[.int .i64 o.1.b.f0, .slice A1 m1 c1, .pointer (some ⟨o.1.p, 0, none⟩)]) [.int .i64 o.1.b.f0, .slice A1 m1 c1, .pointer (some ⟨o.1.p, 0, none⟩)] cold ok (fun k => ok k ∧ k ≠ g') ?aA rfl rfl rfl ?aT ?aN ?aO ?aI ?aJ HCL.out ?aC le3 ?aM (fun k h => h) ?aB ?_; (case aA => first | rfl | (simp [add_plain]; done)); (case aT => exact sz_It); (case aN => exact one3 _ _ _ _); (case aO => exact Kd.R_below SR.out HB10.out); (case aI => exact H0.out); (case aJ => exact HIN.out); (case aC => exact fun q u hu => cell_below' HB10.out (HCC.out q u hu)); (case aM => rw [seg3 cold HCL.out]; exact Kd.M_below HMM.out HB10.out); (case aB => exact Below.refl _ _); intro w12 hr hb12 hg12; have SR12 := Aside0.mk hr; have SG12 := Aside0.mk (World.grownBy.trans (World.grownBy.trans SG.out (grown_of_below HB10.out _)) hg12); clear hr hb12 hg12))
    go_roundg k1
    case measure => have := HI.out; omega
    case rel =>
     have ey : (y + 1).toNat = y.toNat + 1 := by omega
     have ex : (x + 1).toNat = x.toNat + 1 := by have := H0.out; omega
     have hqq : goQ hs (O[y.toNat]'(HYL.out)) = false := by rw [← HOY.out]; exact HQ.out
     have hk := keepL_put O y.toNat HYL.out hqq
     have hcu := curL_put O y.toNat HYL.out hqq
     have hr := SR12.out
     rw [HKX.out, HOY.out, ← List.map_set, hcu] at hr
     exact ⟨x + 1, y + 1, by first | rfl | simp [hwx], by first | rfl | simp [hw], ⟨by have := H0.out; omega⟩, ⟨by have := HXY.out; omega⟩, ⟨by have := HI.out; omega⟩, ⟨by rw [ey, hk, ex, List.length_append, HKX.out]; rfl⟩, ⟨by rw [ey]; exact hr⟩, SG12⟩
def far (a b : Int) : Int := (b - a) % 65536
theorem far_range (a b : Int) : 0 ≤ far a b ∧ far a b < 65536 := by unfold far; omega
theorem serial_Far_eq (k : Nat) (a b : Int) : serial_Far.f (k + 3) a b = some (far a b) := by
 unfold serial_Far.f serial_of.f
 simp only [serial_of.l0, List.length_cons, List.length_nil]
 simp [rd, wrap64, IntKind.wrap_u16, far]
 omega
theorem serial_Far_ev (a b : Int) : Ev (fun k => serial_Far.f k a b) (far a b) := Ev.from 3 (fun k => serial_Far_eq k a b)
def hasB (nx : Int) (m : Nat) (n : Int) : Bool := decide (32768 ≤ far nx n) || (decide (1 ≤ far nx n) && (decide (far nx n ≤ 16) && m.testBit (far nx n - 1).toNat))
theorem mask_has_eq (m : Nat) (t : Int) (hm : m < 65536) (h1 : 1 ≤ t) (h2 : t ≤ 16) : ack_mask_has.f (m : Int) t = some (m.testBit (t - 1).toNat) := by
 unfold ack_mask_has.f
 rw [w64 (by omega) (by omega), if_pos (by omega)]
 congr 1
 unfold shr
 rw [Nat.min_eq_left (by simp [IntKind.bits]; omega)]
 rw [show ((m : Int) / 2 ^ (t - 1).toNat) = ((m / 2 ^ (t - 1).toNat : Nat) : Int) by simp]
 have hq : m / 2 ^ (t - 1).toNat ≤ m := Nat.div_le_self _ _
 have hb := bits_and_i64 (m / 2 ^ (t - 1).toNat) 1 (by omega) (by decide)
 rw [show ((1 : Nat) : Int) = 1 from rfl] at hb
 rw [hb, Nat.and_one_is_mod, Nat.testBit_eq_decide_div_mod_eq]
 rw [Bool.eq_iff_iff]
 simp only [beq_iff_eq, decide_eq_true_eq]
 omega
theorem ack_Has_ev (nx : Int) (m : Nat) (n : Int) (h0 : 0 ≤ nx) (h1 : nx ≤ 65535) (hm : m < 65536) : Ev (fun k => ack_Has.f k 0 0 nx m n) (hasB nx m n) := by
 have hr : ack_right.f 0 0 nx m = some true := by
  unfold ack_right.f
  simp only [if_pos (show (0 : Int) ≥ 0 by decide), if_pos (show (0 : Int) < 64 by decide), if_pos (show (0 : Int) ≤ 4294967295 by decide), if_pos (show nx ≥ 0 by omega), if_pos h1, if_pos (show (m : Int) ≥ 0 by omega)]
  rw [decide_eq_true (show (m : Int) ≤ 65535 by omega)]
 unfold ack_Has.f
 simp only [hr, Option.bind_some, if_true]
 refine Ev.bind (serial_Far_ev _ _) ?_
 have hf := far_range nx n
 unfold hasB
 by_cases c0 : far nx n ≥ 32768
 ·simp only [if_pos c0]
  rw [decide_eq_true (show 32768 ≤ far nx n from c0)]
  exact Ev.now _
 ·simp only [if_neg c0]
  rw [decide_eq_false (show ¬ 32768 ≤ far nx n from c0), Bool.false_or]
  by_cases c1 : far nx n ≥ 1
  ·simp only [if_pos c1]
   rw [decide_eq_true (show 1 ≤ far nx n from c1), Bool.true_and]
   by_cases c2 : far nx n ≤ 16
   ·simp only [if_pos c2, mask_has_eq m _ hm c1 c2, Option.bind_some]
    rw [decide_eq_true c2, Bool.true_and]
    exact Ev.now _
   ·simp only [if_neg c2]
    rw [decide_eq_false c2, Bool.false_and]
    exact Ev.now _
  ·simp only [if_neg c1]
   rw [decide_eq_false (show ¬ 1 ≤ far nx n from c1), Bool.false_and]
   exact Ev.now _
def SA (a : S36) : Prop := (0 ≤ a.f0 ∧ a.f0 < 64) ∧ (0 ≤ a.f1 ∧ a.f1 ≤ 4294967295) ∧ (0 ≤ a.f2 ∧ a.f2 ≤ 65535) ∧ (0 ≤ a.f3 ∧ a.f3 ≤ 65535)
instance (a : S36) : Decidable (SA a) := by unfold SA; infer_instance
theorem right_eq (a : S36) : ack_right.f a.f0 a.f1 a.f2 a.f3 = some (decide (SA a)) := by
 unfold ack_right.f
 by_cases h1 : a.f0 ≥ 0
 ·rw [if_pos h1]
  by_cases h2 : a.f0 < 64
  ·rw [if_pos h2]
   by_cases h3 : a.f1 ≥ 0
   ·rw [if_pos h3]
    by_cases h4 : a.f1 ≤ 4294967295
    ·rw [if_pos h4]
     by_cases h5 : a.f2 ≥ 0
     ·rw [if_pos h5]
      by_cases h6 : a.f2 ≤ 65535
      ·rw [if_pos h6]
       by_cases h7 : a.f3 ≥ 0
       ·rw [if_pos h7]
        congr 1
        by_cases h8 : a.f3 ≤ 65535
        ·rw [decide_eq_true h8, decide_eq_true (show SA a from ⟨⟨h1, h2⟩, ⟨h3, h4⟩, ⟨h5, h6⟩, h7, h8⟩)]
        ·rw [decide_eq_false h8, decide_eq_false fun x : SA a => h8 x.2.2.2.2]
       ·rw [if_neg h7, decide_eq_false fun x : SA a => h7 x.2.2.2.1]
      ·rw [if_neg h6, decide_eq_false fun x : SA a => h6 x.2.2.1.2]
     ·rw [if_neg h5, decide_eq_false fun x : SA a => h5 x.2.2.1.1]
    ·rw [if_neg h4, decide_eq_false fun x : SA a => h4 x.2.1.2]
   ·rw [if_neg h3, decide_eq_false fun x : SA a => h3 x.2.1.1]
  ·rw [if_neg h2, decide_eq_false fun x : SA a => h2 x.1.2]
 ·rw [if_neg h1, decide_eq_false fun x : SA a => h1 x.1.1]
def hasA (a : S36) (n : Int) : Bool := decide (SA a) && hasB a.f2 a.f3.toNat n
theorem has_ev (a : S36) (n : Int) : Ev (fun k => ack_Has.f k a.f0 a.f1 a.f2 a.f3 n) (hasA a n) := by
 unfold ack_Has.f hasA
 simp only [right_eq, Option.bind_some]
 by_cases c : SA a
 ·obtain ⟨m, hm⟩ := Int.eq_ofNat_of_zero_le c.2.2.2.1
  have hlt : m < 65536 := by have := c.2.2.2.2; omega
  simp only [decide_eq_true c, if_true, Bool.true_and, hm, Int.toNat_natCast]
  have hr := ack_Has_ev a.f2 m n c.2.2.1.1 c.2.2.1.2 hlt
  unfold ack_Has.f at hr
  have hr2 : ack_right.f 0 0 a.f2 m = some true := by
   rw [right_eq ⟨0, 0, a.f2, m⟩]
   congr 1
   exact decide_eq_true (show SA ⟨0, 0, a.f2, m⟩ from ⟨⟨Int.le_refl 0, by show (0 : Int) < 64; omega⟩, ⟨Int.le_refl 0, by show (0 : Int) ≤ 4294967295; omega⟩, c.2.2.1, by show (0 : Int) ≤ m; omega, by show (m : Int) ≤ 65535; omega⟩)
  simp only [hr2, Option.bind_some, if_true] at hr
  exact hr
 ·simp only [decide_eq_false c, Bool.false_eq_true, if_false, Bool.false_and]
  exact Ev.now _
def sck.T5 : Bool × List (List Nat × List Nat) := (true, [([], []), ([0], [0]), ([1], [1]), ([2, 1, 1], [1, 2]), ([1, 3], [1, 3]), ([4, 3], [4]), ([5], [5]), ([6, 5], [5, 6]), ([7, 5, 5], [5, 7]), ([8], [8]), ([8], [8]), ([10, 8], [8, 10]), ([9, 11, 8], [8, 9, 11]), ([12, 8], [8, 12]), ([13, 8], [8, 13]), ([8], [8]), ([15, 8], [8, 15]), ([14, 16, 8], [8, 14, 16]), ([8, 17, 5], [5, 8, 17]), ([5, 18], [5, 18]), ([19, 8, 0, 1, 2, 3, 4, 5, 6, 7, 8, 9, 10, 11, 12, 13, 14, 15, 16, 17, 18, 19], [0, 19])])
def sck.B5 : List Nat := [0, 1, 3, 7, 15, 31, 63, 127, 255, 511, 511, 1535, 4095, 8191, 16383, 511, 33279, 131071, 262143, 524287, 1048575]
theorem sck.tab5 : rtab .any (opsOf Try.f35 5) = sck.T5 := by kernel_rfl
theorem sck.bits5 : waitsOk sck.T5.2 sck.B5 = true := by kernel_rfl
theorem ack_oneY {a0 a1 a2 a3 : Int} {w : World} {gl : Nat} (hs : SA ⟨a0, a1, a2, a3⟩) (hv : w.heap[gl]? = some (.cells #[.int .i64 a0, .int .i64 a1, .int .i64 a2, .int .i64 a3] 36 (0, 0))) :
  Calls Try.prog 35 #[.slice (some ⟨gl, 0, none⟩) 1 1] w fun e w' => e = .returned (.int .i64 0) ∧ Below w.heap.size w w' := by
 obtain ⟨b, hb⟩ : ∃ b, b = true := ⟨_, rfl⟩
 have HB := Aside0.mk (show ack_right.f a0 a1 a2 a3 = some b from (right_eq ⟨a0, a1, a2, a3⟩).trans (congrArg some ((decide_eq_true hs).trans hb.symm)))
 subst hb
 have HC := Aside0.mk hv
 clear hs hv
 go_enter Try.func35, Try.ntmps35
 go_wp2
 go_loopg [3, 16] 1 (fun kq v3 v16 wr => ∃ x : Int, v16 = .int .i64 x ∧ v3 = .bool (if x = 0 then true else true) ∧ Aside0 (0 ≤ x) ∧ Aside0 (x + kq = 1) ∧ Aside0 (Below w.heap.size w wr))
 case atStart => exact ⟨0, rfl, rfl, ⟨by omega⟩, ⟨by omega⟩, ⟨Below.refl _ _⟩⟩
 case round =>
  obtain ⟨x, rfl, rfl, H0, HI, BL⟩ := hrel
  cases gk with
  | zero =>
   have hx : x = 1 := by have := HI.out; omega
   subst hx
   rw [if_neg (by decide)]
   go_wp2
   go_ret
   exact ⟨rfl, BL.out⟩
  | succ k1 =>
   have hx : x = 0 := by have := HI.out; have := H0.out; omega
   subst hx
   rw [if_pos rfl]
   have HC2 := blk_below HC.out BL.out
   have e0 : wr.cell? ⟨gl, 0, none⟩ = some (.int .i64 a0) := (blk_cell HC2 0).trans rfl
   have e1 : wr.cell? ⟨gl, 1, none⟩ = some (.int .i64 a1) := (blk_cell HC2 1).trans rfl
   have e2 : wr.cell? ⟨gl, 2, none⟩ = some (.int .i64 a2) := (blk_cell HC2 2).trans rfl
   have e3 : wr.cell? ⟨gl, 3, none⟩ = some (.int .i64 a3) := (blk_cell HC2 3).trans rfl
   clear HC2
   go_upto_region 5 with ((with_reducible refine gate_dst (N := 5) rfl ?_); refine box_event ?hg (N := 5) ?hd (cs := #[.int .i64 0, .int .i64 0, .int .i64 0, .int .i64 0]) (t := 36) ?hr ?_; (case hd => rfl); (case hg => rfl); (case hr => first | (go_simp; done) | (go_simp; rfl) | rfl | kernel_rfl); intro gb hg w3 hbox hb; have BL3 := Aside0.mk (below_step BL.out (show Below wr.heap.size wr ((((w3.setCell ⟨gb, 0, none⟩ (.int .i64 a0)).setCell ⟨gb, 1, none⟩ (.int .i64 a1)).setCell ⟨gb, 2, none⟩ (.int .i64 a2)).setCell ⟨gb, 3, none⟩ (.int .i64 a3)) from below_set (below_set (below_set (below_set (hb) (Nat.le_of_eq hg.symm)) (Nat.le_of_eq hg.symm)) (Nat.le_of_eq hg.symm)) (Nat.le_of_eq hg.symm))); have BB3 := Aside0.mk (blk_put (blk_put (blk_put (blk_put (hbox) 0 (.int .i64 a0) (cs' := #[.int .i64 a0, .int .i64 0, .int .i64 0, .int .i64 0]) rfl) 1 (.int .i64 a1) (cs' := #[.int .i64 a0, .int .i64 a1, .int .i64 0, .int .i64 0]) rfl) 2 (.int .i64 a2) (cs' := #[.int .i64 a0, .int .i64 a1, .int .i64 a2, .int .i64 0]) rfl) 3 (.int .i64 a3) (cs' := #[.int .i64 a0, .int .i64 a1, .int .i64 a2, .int .i64 a3]) rfl); have c0 := (blk_cell hbox 0).trans rfl; have f0 := blk_frozen hbox 0; have c1 := (blk_cell hbox 1).trans rfl; have f1 := blk_frozen hbox 1; have c2 := (blk_cell hbox 2).trans rfl; have f2 := blk_frozen hbox 2; have c3 := (blk_cell hbox 3).trans rfl; have f3 := blk_frozen hbox 3; have d0 : ((((w3.setCell ⟨gb, 0, none⟩ (.int .i64 a0)).setCell ⟨gb, 1, none⟩ (.int .i64 a1)).setCell ⟨gb, 2, none⟩ (.int .i64 a2)).setCell ⟨gb, 3, none⟩ (.int .i64 a3)).cell? ⟨gb, 0, none⟩ = some (.int .i64 a0) := (blk_cell BB3.out 0).trans rfl; have d1 : ((((w3.setCell ⟨gb, 0, none⟩ (.int .i64 a0)).setCell ⟨gb, 1, none⟩ (.int .i64 a1)).setCell ⟨gb, 2, none⟩ (.int .i64 a2)).setCell ⟨gb, 3, none⟩ (.int .i64 a3)).cell? ⟨gb, 1, none⟩ = some (.int .i64 a1) := (blk_cell BB3.out 1).trans rfl; have d2 : ((((w3.setCell ⟨gb, 0, none⟩ (.int .i64 a0)).setCell ⟨gb, 1, none⟩ (.int .i64 a1)).setCell ⟨gb, 2, none⟩ (.int .i64 a2)).setCell ⟨gb, 3, none⟩ (.int .i64 a3)).cell? ⟨gb, 2, none⟩ = some (.int .i64 a2) := (blk_cell BB3.out 2).trans rfl; have d3 : ((((w3.setCell ⟨gb, 0, none⟩ (.int .i64 a0)).setCell ⟨gb, 1, none⟩ (.int .i64 a1)).setCell ⟨gb, 2, none⟩ (.int .i64 a2)).setCell ⟨gb, 3, none⟩ (.int .i64 a3)).cell? ⟨gb, 3, none⟩ = some (.int .i64 a3) := (blk_cell BB3.out 3).trans rfl; clear hb hbox hg)
   refine start_ (n := 21) (S := fun w' => w'.cell? ⟨gb, 0, none⟩ = some (.int .i64 a0) ∧ w'.cell? ⟨gb, 1, none⟩ = some (.int .i64 a1) ∧ w'.cell? ⟨gb, 2, none⟩ = some (.int .i64 a2) ∧ w'.cell? ⟨gb, 3, none⟩ = some (.int .i64 a3)) (ds := [3]) #[false, false, false, false, false, false, false, false, false, false, false, false, false, false, false, false, false, false, false, false, false] (by kernel_rfl) rfl rfl ⟨d0, d1, d2, d3⟩ (fun hHeld => ?_); refine with_tabW sck.tab5 sck.bits5 (fun HT_ HW_ => ?_)
   refine pure_ (i := 0) (N := some 21) (v := ?_) (a' := ?_) #[true, false, false, false, false, false, false, false, false, false, false, false, false, false, false, false, false, false, false, false, false] rfl rfl (any_of HT_.out (by kernel_rfl)) (fun _ _ _ h => h) (Or.inl ⟨by rfl, ?_⟩) ?_ ?_
   rotate_left
   ·intro w'
    go_simp
    with_reducible rfl
   rotate_left
   ·simp only [Act.put, List.setIfInBounds_toArray, List.set_cons_zero, List.set_cons_succ, i64_w, i32_w]
    rfl
   refine pure_ (i := 1) (N := some 22) (v := ?_) (a' := ?_) #[true, true, false, false, false, false, false, false, false, false, false, false, false, false, false, false, false, false, false, false, false] rfl rfl (any_of HT_.out (by kernel_rfl)) (fun _ _ _ h => h) (Or.inl ⟨by rfl, ?_⟩) ?_ ?_
   rotate_left
   ·intro w'
    go_simp
    with_reducible rfl
   rotate_left
   ·simp only [Act.put, List.setIfInBounds_toArray, List.set_cons_zero, List.set_cons_succ, i64_w, i32_w]
    rfl
   refine take_ (i := 2) (N := some 23) (v := ?_) (a' := ?_) #[true, true, true, false, false, false, false, false, false, false, false, false, false, false, false, false, false, false, false, false, false] rfl rfl (take_ofW HT_.out HW_.out (by kernel_rfl)) (fun _ _ _ h => h) (Or.inl ⟨by rfl, ?_⟩) hHeld ?_ ?_
   rotate_left
   ·rintro w' ⟨s0, s1, s2, s3⟩
    go_simp
    with_reducible rfl
   rotate_left
   ·simp only [Act.put, List.setIfInBounds_toArray, List.set_cons_zero, List.set_cons_succ, i64_w, i32_w]
    rfl
   refine last_ (i := 3) (N := some 24) #[true, true, true, true, false, false, false, false, false, false, false, false, false, false, false, false, false, false, false, false, false] rfl rfl (one_of HT_.out (by kernel_rfl)) (by decide) (fun K hK => ?_)
   refine goes_ Try.func57 (by kernel_rfl) rfl #[.agg #[.int .i64 a0, .int .i64 a1, .int .i64 a2, .int .i64 a3]] (by rfl) rfl rfl (by simp only [List.map_toArray, List.map_cons, List.map_nil]; rfl) ?_
   with_reducible refine (ack_right.calls a0 a1 a2 a3 _ _ HB.out).mono ?_
   rintro e w4 ⟨rfl, hw4⟩
   refine ⟨_, rfl, ?_⟩
   have BL4 := Aside0.mk (below_step (below_step BL3.out (below_drew (Below.refl _ _))) hw4)
   clear hw4
   refine hK.out _ _ ?_
   clear hK K
   refine norm_ (a' := ?_) ?_ ?_
   rotate_left
   ·show Act.put _ (some 24) _ = _
    simp only [Act.put, List.setIfInBounds_toArray, List.set_cons_zero, List.set_cons_succ, i64_w, i32_w]
    rfl
   refine pure_ (i := 4) (N := some 25) (v := ?_) (a' := ?_) #[true, true, true, true, true, false, false, false, false, false, false, false, false, false, false, false, false, false, false, false, false] rfl rfl (any_of HT_.out (by kernel_rfl)) (fun _ _ _ h => h) (Or.inl ⟨by rfl, ?_⟩) ?_ ?_
   rotate_left
   ·intro w'
    go_simp
    with_reducible rfl
   rotate_left
   ·simp only [Act.put, List.setIfInBounds_toArray, List.set_cons_zero, List.set_cons_succ, i64_w, i32_w]
    rfl
   refine pure_ (i := 5) (N := some 26) (v := ?_) (a' := ?_) #[true, true, true, true, true, true, false, false, false, false, false, false, false, false, false, false, false, false, false, false, false] rfl rfl (any_of HT_.out (by kernel_rfl)) (fun _ _ _ h => h) (Or.inl ⟨by rfl, ?_⟩) ?_ ?_
   rotate_left
   ·intro w'
    go_simp
    with_reducible rfl
   rotate_left
   ·simp only [Act.put, List.setIfInBounds_toArray, List.set_cons_zero, List.set_cons_succ, i64_w, i32_w]
    rfl
   refine pure_ (i := 6) (N := some 27) (v := ?_) (a' := ?_) #[true, true, true, true, true, true, true, false, false, false, false, false, false, false, false, false, false, false, false, false, false] rfl rfl (any_of HT_.out (by kernel_rfl)) (fun _ _ _ h => h) (Or.inl ⟨by rfl, ?_⟩) ?_ ?_
   rotate_left
   ·intro w'
    go_simp
    with_reducible rfl
   rotate_left
   ·simp only [Act.put, List.setIfInBounds_toArray, List.set_cons_zero, List.set_cons_succ, i64_w, i32_w]
    rfl
   refine pure_ (i := 7) (N := some 28) (v := ?_) (a' := ?_) #[true, true, true, true, true, true, true, true, false, false, false, false, false, false, false, false, false, false, false, false, false] rfl rfl (any_of HT_.out (by kernel_rfl)) (fun _ _ _ h => h) (Or.inl ⟨by rfl, ?_⟩) ?_ ?_
   rotate_left
   ·intro w'
    go_simp
    with_reducible rfl
   rotate_left
   ·simp only [Act.put, List.setIfInBounds_toArray, List.set_cons_zero, List.set_cons_succ, i64_w, i32_w]
    rfl
   refine pure_ (i := 8) (N := some 29) (v := ?_) (a' := ?_) #[true, true, true, true, true, true, true, true, true, false, false, false, false, false, false, false, false, false, false, false, false] rfl rfl (any_of HT_.out (by kernel_rfl)) (fun _ _ _ h => h) (Or.inl ⟨by rfl, ?_⟩) ?_ ?_
   rotate_left
   ·intro w'
    go_simp
    with_reducible rfl
   rotate_left
   ·simp only [Act.put, List.setIfInBounds_toArray, List.set_cons_zero, List.set_cons_succ, i64_w, i32_w]
    rfl
   refine pure_ (i := 9) (N := some 30) (v := undef) (a' := ?_) #[true, true, true, true, true, true, true, true, true, true, false, false, false, false, false, false, false, false, false, false, false] rfl rfl (any_of HT_.out (by kernel_rfl)) (fun _ _ _ h => h) (Or.inr ⟨by rfl, rfl⟩) ?_ ?_
   rotate_left
   ·simp only [Act.put, List.setIfInBounds_toArray, List.set_cons_zero, List.set_cons_succ, i64_w, i32_w]
    rfl
   refine pure_ (i := 10) (N := some 31) (v := undef) (a' := ?_) #[true, true, true, true, true, true, true, true, true, true, true, false, false, false, false, false, false, false, false, false, false] rfl rfl (any_of HT_.out (by kernel_rfl)) (fun _ _ _ h => h) (Or.inr ⟨by rfl, rfl⟩) ?_ ?_
   rotate_left
   ·simp only [Act.put, List.setIfInBounds_toArray, List.set_cons_zero, List.set_cons_succ, i64_w, i32_w]
    rfl
   refine pure_ (i := 11) (N := some 32) (v := undef) (a' := ?_) #[true, true, true, true, true, true, true, true, true, true, true, true, false, false, false, false, false, false, false, false, false] rfl rfl (any_of HT_.out (by kernel_rfl)) (fun _ _ _ h => h) (Or.inr ⟨by rfl, rfl⟩) ?_ ?_
   rotate_left
   ·simp only [Act.put, List.setIfInBounds_toArray, List.set_cons_zero, List.set_cons_succ, i64_w, i32_w]
    rfl
   refine pure_ (i := 12) (N := some 33) (v := undef) (a' := ?_) #[true, true, true, true, true, true, true, true, true, true, true, true, true, false, false, false, false, false, false, false, false] rfl rfl (any_of HT_.out (by kernel_rfl)) (fun _ _ _ h => h) (Or.inr ⟨by rfl, rfl⟩) ?_ ?_
   rotate_left
   ·simp only [Act.put, List.setIfInBounds_toArray, List.set_cons_zero, List.set_cons_succ, i64_w, i32_w]
    rfl
   refine pure_ (i := 13) (N := some 34) (v := undef) (a' := ?_) #[true, true, true, true, true, true, true, true, true, true, true, true, true, true, false, false, false, false, false, false, false] rfl rfl (any_of HT_.out (by kernel_rfl)) (fun _ _ _ h => h) (Or.inr ⟨by rfl, rfl⟩) ?_ ?_
   rotate_left
   ·simp only [Act.put, List.setIfInBounds_toArray, List.set_cons_zero, List.set_cons_succ, i64_w, i32_w]
    rfl
   refine pure_ (i := 14) (N := some 35) (v := undef) (a' := ?_) #[true, true, true, true, true, true, true, true, true, true, true, true, true, true, true, false, false, false, false, false, false] rfl rfl (any_of HT_.out (by kernel_rfl)) (fun _ _ _ h => h) (Or.inr ⟨by rfl, rfl⟩) ?_ ?_
   rotate_left
   ·simp only [Act.put, List.setIfInBounds_toArray, List.set_cons_zero, List.set_cons_succ, i64_w, i32_w]
    rfl
   refine pure_ (i := 15) (N := some 36) (v := undef) (a' := ?_) #[true, true, true, true, true, true, true, true, true, true, true, true, true, true, true, true, false, false, false, false, false] rfl rfl (any_of HT_.out (by kernel_rfl)) (fun _ _ _ h => h) (Or.inr ⟨by rfl, rfl⟩) ?_ ?_
   rotate_left
   ·simp only [Act.put, List.setIfInBounds_toArray, List.set_cons_zero, List.set_cons_succ, i64_w, i32_w]
    rfl
   refine pure_ (i := 16) (N := some 37) (v := undef) (a' := ?_) #[true, true, true, true, true, true, true, true, true, true, true, true, true, true, true, true, true, false, false, false, false] rfl rfl (any_of HT_.out (by kernel_rfl)) (fun _ _ _ h => h) (Or.inr ⟨by rfl, rfl⟩) ?_ ?_
   rotate_left
   ·simp only [Act.put, List.setIfInBounds_toArray, List.set_cons_zero, List.set_cons_succ, i64_w, i32_w]
    rfl
   refine pure_ (i := 17) (N := some 38) (v := undef) (a' := ?_) #[true, true, true, true, true, true, true, true, true, true, true, true, true, true, true, true, true, true, false, false, false] rfl rfl (any_of HT_.out (by kernel_rfl)) (fun _ _ _ h => h) (Or.inr ⟨by rfl, rfl⟩) ?_ ?_
   rotate_left
   ·simp only [Act.put, List.setIfInBounds_toArray, List.set_cons_zero, List.set_cons_succ, i64_w, i32_w]
    rfl
   refine pure_ (i := 18) (N := some 39) (v := ?_) (a' := ?_) #[true, true, true, true, true, true, true, true, true, true, true, true, true, true, true, true, true, true, true, false, false] rfl rfl (any_of HT_.out (by kernel_rfl)) (fun _ _ _ h => h) (Or.inl ⟨by rfl, ?_⟩) ?_ ?_
   rotate_left
   ·intro w'
    go_simp
    with_reducible rfl
   rotate_left
   ·simp only [Act.put, List.setIfInBounds_toArray, List.set_cons_zero, List.set_cons_succ, i64_w, i32_w]
    rfl
   refine pure_ (i := 19) (N := some 40) (v := ?_) (a' := ?_) #[true, true, true, true, true, true, true, true, true, true, true, true, true, true, true, true, true, true, true, true, false] rfl rfl (any_of HT_.out (by kernel_rfl)) (fun _ _ _ h => h) (Or.inl ⟨by rfl, ?_⟩) ?_ ?_
   rotate_left
   ·intro w'
    go_simp
    with_reducible rfl
   rotate_left
   ·simp only [Act.put, List.setIfInBounds_toArray, List.set_cons_zero, List.set_cons_succ, i64_w, i32_w]
    rfl
   refine pure_ (i := 20) (N := some 3) (v := ?_) (a' := ?_) #[true, true, true, true, true, true, true, true, true, true, true, true, true, true, true, true, true, true, true, true, true] rfl rfl (any_of HT_.out (by kernel_rfl)) (fun _ _ _ h => h) (Or.inl ⟨by rfl, ?_⟩) ?_ ?_
   rotate_left
   ·intro w'
    go_simp
    with_reducible rfl
   rotate_left
   ·simp only [Act.put, List.setIfInBounds_toArray, List.set_cons_zero, List.set_cons_succ, i64_w, i32_w]
    rfl
   refine done_ (done_of HT_.out (by kernel_rfl)) ?_
   go_wp2
   go_roundg k1
   case measure => have := HI.out; omega
   case rel => exact ⟨1, by first | rfl | simp [wrap64], by first | rfl | simp, ⟨by decide⟩, ⟨by have := HI.out; omega⟩, BL4⟩
theorem ack_oneN {a0 a1 a2 a3 : Int} {w : World} {gl : Nat} (hs : ¬ SA ⟨a0, a1, a2, a3⟩) (hv : w.heap[gl]? = some (.cells #[.int .i64 a0, .int .i64 a1, .int .i64 a2, .int .i64 a3] 36 (0, 0))) :
  Calls Try.prog 35 #[.slice (some ⟨gl, 0, none⟩) 1 1] w fun e w' => e = .returned (.int .i64 1) ∧ Below w.heap.size w w' := by
 obtain ⟨b, hb⟩ : ∃ b, b = false := ⟨_, rfl⟩
 have HB := Aside0.mk (show ack_right.f a0 a1 a2 a3 = some b from (right_eq ⟨a0, a1, a2, a3⟩).trans (congrArg some ((decide_eq_false hs).trans hb.symm)))
 subst hb
 have HC := Aside0.mk hv
 clear hs hv
 go_enter Try.func35, Try.ntmps35
 go_wp2
 go_loopg [3, 16] 1 (fun kq v3 v16 wr => ∃ x : Int, v16 = .int .i64 x ∧ v3 = .bool (if x = 0 then true else false) ∧ Aside0 (0 ≤ x) ∧ Aside0 (x + kq = 1) ∧ Aside0 (Below w.heap.size w wr))
 case atStart => exact ⟨0, rfl, rfl, ⟨by omega⟩, ⟨by omega⟩, ⟨Below.refl _ _⟩⟩
 case round =>
  obtain ⟨x, rfl, rfl, H0, HI, BL⟩ := hrel
  cases gk with
  | zero =>
   have hx : x = 1 := by have := HI.out; omega
   subst hx
   rw [if_neg (by decide)]
   go_wp2
   go_ret
   exact ⟨rfl, BL.out⟩
  | succ k1 =>
   have hx : x = 0 := by have := HI.out; have := H0.out; omega
   subst hx
   rw [if_pos rfl]
   have HC2 := blk_below HC.out BL.out
   have e0 : wr.cell? ⟨gl, 0, none⟩ = some (.int .i64 a0) := (blk_cell HC2 0).trans rfl
   have e1 : wr.cell? ⟨gl, 1, none⟩ = some (.int .i64 a1) := (blk_cell HC2 1).trans rfl
   have e2 : wr.cell? ⟨gl, 2, none⟩ = some (.int .i64 a2) := (blk_cell HC2 2).trans rfl
   have e3 : wr.cell? ⟨gl, 3, none⟩ = some (.int .i64 a3) := (blk_cell HC2 3).trans rfl
   clear HC2
   go_upto_region 5 with ((with_reducible refine gate_dst (N := 5) rfl ?_); refine box_event ?hg (N := 5) ?hd (cs := #[.int .i64 0, .int .i64 0, .int .i64 0, .int .i64 0]) (t := 36) ?hr ?_; (case hd => rfl); (case hg => rfl); (case hr => first | (go_simp; done) | (go_simp; rfl) | rfl | kernel_rfl); intro gb hg w3 hbox hb; have BL3 := Aside0.mk (below_step BL.out (show Below wr.heap.size wr ((((w3.setCell ⟨gb, 0, none⟩ (.int .i64 a0)).setCell ⟨gb, 1, none⟩ (.int .i64 a1)).setCell ⟨gb, 2, none⟩ (.int .i64 a2)).setCell ⟨gb, 3, none⟩ (.int .i64 a3)) from below_set (below_set (below_set (below_set (hb) (Nat.le_of_eq hg.symm)) (Nat.le_of_eq hg.symm)) (Nat.le_of_eq hg.symm)) (Nat.le_of_eq hg.symm))); have BB3 := Aside0.mk (blk_put (blk_put (blk_put (blk_put (hbox) 0 (.int .i64 a0) (cs' := #[.int .i64 a0, .int .i64 0, .int .i64 0, .int .i64 0]) rfl) 1 (.int .i64 a1) (cs' := #[.int .i64 a0, .int .i64 a1, .int .i64 0, .int .i64 0]) rfl) 2 (.int .i64 a2) (cs' := #[.int .i64 a0, .int .i64 a1, .int .i64 a2, .int .i64 0]) rfl) 3 (.int .i64 a3) (cs' := #[.int .i64 a0, .int .i64 a1, .int .i64 a2, .int .i64 a3]) rfl); have c0 := (blk_cell hbox 0).trans rfl; have f0 := blk_frozen hbox 0; have c1 := (blk_cell hbox 1).trans rfl; have f1 := blk_frozen hbox 1; have c2 := (blk_cell hbox 2).trans rfl; have f2 := blk_frozen hbox 2; have c3 := (blk_cell hbox 3).trans rfl; have f3 := blk_frozen hbox 3; have d0 : ((((w3.setCell ⟨gb, 0, none⟩ (.int .i64 a0)).setCell ⟨gb, 1, none⟩ (.int .i64 a1)).setCell ⟨gb, 2, none⟩ (.int .i64 a2)).setCell ⟨gb, 3, none⟩ (.int .i64 a3)).cell? ⟨gb, 0, none⟩ = some (.int .i64 a0) := (blk_cell BB3.out 0).trans rfl; have d1 : ((((w3.setCell ⟨gb, 0, none⟩ (.int .i64 a0)).setCell ⟨gb, 1, none⟩ (.int .i64 a1)).setCell ⟨gb, 2, none⟩ (.int .i64 a2)).setCell ⟨gb, 3, none⟩ (.int .i64 a3)).cell? ⟨gb, 1, none⟩ = some (.int .i64 a1) := (blk_cell BB3.out 1).trans rfl; have d2 : ((((w3.setCell ⟨gb, 0, none⟩ (.int .i64 a0)).setCell ⟨gb, 1, none⟩ (.int .i64 a1)).setCell ⟨gb, 2, none⟩ (.int .i64 a2)).setCell ⟨gb, 3, none⟩ (.int .i64 a3)).cell? ⟨gb, 2, none⟩ = some (.int .i64 a2) := (blk_cell BB3.out 2).trans rfl; have d3 : ((((w3.setCell ⟨gb, 0, none⟩ (.int .i64 a0)).setCell ⟨gb, 1, none⟩ (.int .i64 a1)).setCell ⟨gb, 2, none⟩ (.int .i64 a2)).setCell ⟨gb, 3, none⟩ (.int .i64 a3)).cell? ⟨gb, 3, none⟩ = some (.int .i64 a3) := (blk_cell BB3.out 3).trans rfl; clear hb hbox hg)
   refine start_ (n := 21) (S := fun w' => w'.cell? ⟨gb, 0, none⟩ = some (.int .i64 a0) ∧ w'.cell? ⟨gb, 1, none⟩ = some (.int .i64 a1) ∧ w'.cell? ⟨gb, 2, none⟩ = some (.int .i64 a2) ∧ w'.cell? ⟨gb, 3, none⟩ = some (.int .i64 a3)) (ds := [3]) #[false, false, false, false, false, false, false, false, false, false, false, false, false, false, false, false, false, false, false, false, false] (by kernel_rfl) rfl rfl ⟨d0, d1, d2, d3⟩ (fun hHeld => ?_); refine with_tabW sck.tab5 sck.bits5 (fun HT_ HW_ => ?_)
   refine pure_ (i := 0) (N := some 21) (v := ?_) (a' := ?_) #[true, false, false, false, false, false, false, false, false, false, false, false, false, false, false, false, false, false, false, false, false] rfl rfl (any_of HT_.out (by kernel_rfl)) (fun _ _ _ h => h) (Or.inl ⟨by rfl, ?_⟩) ?_ ?_
   rotate_left
   ·intro w'
    go_simp
    with_reducible rfl
   rotate_left
   ·simp only [Act.put, List.setIfInBounds_toArray, List.set_cons_zero, List.set_cons_succ, i64_w, i32_w]
    rfl
   refine pure_ (i := 1) (N := some 22) (v := ?_) (a' := ?_) #[true, true, false, false, false, false, false, false, false, false, false, false, false, false, false, false, false, false, false, false, false] rfl rfl (any_of HT_.out (by kernel_rfl)) (fun _ _ _ h => h) (Or.inl ⟨by rfl, ?_⟩) ?_ ?_
   rotate_left
   ·intro w'
    go_simp
    with_reducible rfl
   rotate_left
   ·simp only [Act.put, List.setIfInBounds_toArray, List.set_cons_zero, List.set_cons_succ, i64_w, i32_w]
    rfl
   refine take_ (i := 2) (N := some 23) (v := ?_) (a' := ?_) #[true, true, true, false, false, false, false, false, false, false, false, false, false, false, false, false, false, false, false, false, false] rfl rfl (take_ofW HT_.out HW_.out (by kernel_rfl)) (fun _ _ _ h => h) (Or.inl ⟨by rfl, ?_⟩) hHeld ?_ ?_
   rotate_left
   ·rintro w' ⟨s0, s1, s2, s3⟩
    go_simp
    with_reducible rfl
   rotate_left
   ·simp only [Act.put, List.setIfInBounds_toArray, List.set_cons_zero, List.set_cons_succ, i64_w, i32_w]
    rfl
   refine last_ (i := 3) (N := some 24) #[true, true, true, true, false, false, false, false, false, false, false, false, false, false, false, false, false, false, false, false, false] rfl rfl (one_of HT_.out (by kernel_rfl)) (by decide) (fun K hK => ?_)
   refine goes_ Try.func57 (by kernel_rfl) rfl #[.agg #[.int .i64 a0, .int .i64 a1, .int .i64 a2, .int .i64 a3]] (by rfl) rfl rfl (by simp only [List.map_toArray, List.map_cons, List.map_nil]; rfl) ?_
   with_reducible refine (ack_right.calls a0 a1 a2 a3 _ _ HB.out).mono ?_
   rintro e w4 ⟨rfl, hw4⟩
   refine ⟨_, rfl, ?_⟩
   have BL4 := Aside0.mk (below_step (below_step BL3.out (below_drew (Below.refl _ _))) hw4)
   clear hw4
   refine hK.out _ _ ?_
   clear hK K
   refine norm_ (a' := ?_) ?_ ?_
   rotate_left
   ·show Act.put _ (some 24) _ = _
    simp only [Act.put, List.setIfInBounds_toArray, List.set_cons_zero, List.set_cons_succ, i64_w, i32_w]
    rfl
   refine pure_ (i := 4) (N := some 25) (v := ?_) (a' := ?_) #[true, true, true, true, true, false, false, false, false, false, false, false, false, false, false, false, false, false, false, false, false] rfl rfl (any_of HT_.out (by kernel_rfl)) (fun _ _ _ h => h) (Or.inl ⟨by rfl, ?_⟩) ?_ ?_
   rotate_left
   ·intro w'
    go_simp
    with_reducible rfl
   rotate_left
   ·simp only [Act.put, List.setIfInBounds_toArray, List.set_cons_zero, List.set_cons_succ, i64_w, i32_w]
    rfl
   refine pure_ (i := 5) (N := some 26) (v := ?_) (a' := ?_) #[true, true, true, true, true, true, false, false, false, false, false, false, false, false, false, false, false, false, false, false, false] rfl rfl (any_of HT_.out (by kernel_rfl)) (fun _ _ _ h => h) (Or.inl ⟨by rfl, ?_⟩) ?_ ?_
   rotate_left
   ·intro w'
    go_simp
    with_reducible rfl
   rotate_left
   ·simp only [Act.put, List.setIfInBounds_toArray, List.set_cons_zero, List.set_cons_succ, i64_w, i32_w]
    rfl
   refine pure_ (i := 6) (N := some 27) (v := undef) (a' := ?_) #[true, true, true, true, true, true, true, false, false, false, false, false, false, false, false, false, false, false, false, false, false] rfl rfl (any_of HT_.out (by kernel_rfl)) (fun _ _ _ h => h) (Or.inr ⟨by rfl, rfl⟩) ?_ ?_
   rotate_left
   ·simp only [Act.put, List.setIfInBounds_toArray, List.set_cons_zero, List.set_cons_succ, i64_w, i32_w]
    rfl
   refine pure_ (i := 7) (N := some 28) (v := undef) (a' := ?_) #[true, true, true, true, true, true, true, true, false, false, false, false, false, false, false, false, false, false, false, false, false] rfl rfl (any_of HT_.out (by kernel_rfl)) (fun _ _ _ h => h) (Or.inr ⟨by rfl, rfl⟩) ?_ ?_
   rotate_left
   ·simp only [Act.put, List.setIfInBounds_toArray, List.set_cons_zero, List.set_cons_succ, i64_w, i32_w]
    rfl
   refine pure_ (i := 8) (N := some 29) (v := undef) (a' := ?_) #[true, true, true, true, true, true, true, true, true, false, false, false, false, false, false, false, false, false, false, false, false] rfl rfl (any_of HT_.out (by kernel_rfl)) (fun _ _ _ h => h) (Or.inr ⟨by rfl, rfl⟩) ?_ ?_
   rotate_left
   ·simp only [Act.put, List.setIfInBounds_toArray, List.set_cons_zero, List.set_cons_succ, i64_w, i32_w]
    rfl
   refine pure_ (i := 9) (N := some 30) (v := undef) (a' := ?_) #[true, true, true, true, true, true, true, true, true, true, false, false, false, false, false, false, false, false, false, false, false] rfl rfl (any_of HT_.out (by kernel_rfl)) (fun _ _ _ h => h) (Or.inr ⟨by rfl, rfl⟩) ?_ ?_
   rotate_left
   ·simp only [Act.put, List.setIfInBounds_toArray, List.set_cons_zero, List.set_cons_succ, i64_w, i32_w]
    rfl
   refine pure_ (i := 10) (N := some 31) (v := undef) (a' := ?_) #[true, true, true, true, true, true, true, true, true, true, true, false, false, false, false, false, false, false, false, false, false] rfl rfl (any_of HT_.out (by kernel_rfl)) (fun _ _ _ h => h) (Or.inr ⟨by rfl, rfl⟩) ?_ ?_
   rotate_left
   ·simp only [Act.put, List.setIfInBounds_toArray, List.set_cons_zero, List.set_cons_succ, i64_w, i32_w]
    rfl
   refine pure_ (i := 11) (N := some 32) (v := undef) (a' := ?_) #[true, true, true, true, true, true, true, true, true, true, true, true, false, false, false, false, false, false, false, false, false] rfl rfl (any_of HT_.out (by kernel_rfl)) (fun _ _ _ h => h) (Or.inr ⟨by rfl, rfl⟩) ?_ ?_
   rotate_left
   ·simp only [Act.put, List.setIfInBounds_toArray, List.set_cons_zero, List.set_cons_succ, i64_w, i32_w]
    rfl
   refine pure_ (i := 12) (N := some 33) (v := undef) (a' := ?_) #[true, true, true, true, true, true, true, true, true, true, true, true, true, false, false, false, false, false, false, false, false] rfl rfl (any_of HT_.out (by kernel_rfl)) (fun _ _ _ h => h) (Or.inr ⟨by rfl, rfl⟩) ?_ ?_
   rotate_left
   ·simp only [Act.put, List.setIfInBounds_toArray, List.set_cons_zero, List.set_cons_succ, i64_w, i32_w]
    rfl
   refine pure_ (i := 13) (N := some 34) (v := undef) (a' := ?_) #[true, true, true, true, true, true, true, true, true, true, true, true, true, true, false, false, false, false, false, false, false] rfl rfl (any_of HT_.out (by kernel_rfl)) (fun _ _ _ h => h) (Or.inr ⟨by rfl, rfl⟩) ?_ ?_
   rotate_left
   ·simp only [Act.put, List.setIfInBounds_toArray, List.set_cons_zero, List.set_cons_succ, i64_w, i32_w]
    rfl
   refine pure_ (i := 14) (N := some 35) (v := undef) (a' := ?_) #[true, true, true, true, true, true, true, true, true, true, true, true, true, true, true, false, false, false, false, false, false] rfl rfl (any_of HT_.out (by kernel_rfl)) (fun _ _ _ h => h) (Or.inr ⟨by rfl, rfl⟩) ?_ ?_
   rotate_left
   ·simp only [Act.put, List.setIfInBounds_toArray, List.set_cons_zero, List.set_cons_succ, i64_w, i32_w]
    rfl
   refine pure_ (i := 15) (N := some 36) (v := undef) (a' := ?_) #[true, true, true, true, true, true, true, true, true, true, true, true, true, true, true, true, false, false, false, false, false] rfl rfl (any_of HT_.out (by kernel_rfl)) (fun _ _ _ h => h) (Or.inr ⟨by rfl, rfl⟩) ?_ ?_
   rotate_left
   ·simp only [Act.put, List.setIfInBounds_toArray, List.set_cons_zero, List.set_cons_succ, i64_w, i32_w]
    rfl
   refine pure_ (i := 16) (N := some 37) (v := undef) (a' := ?_) #[true, true, true, true, true, true, true, true, true, true, true, true, true, true, true, true, true, false, false, false, false] rfl rfl (any_of HT_.out (by kernel_rfl)) (fun _ _ _ h => h) (Or.inr ⟨by rfl, rfl⟩) ?_ ?_
   rotate_left
   ·simp only [Act.put, List.setIfInBounds_toArray, List.set_cons_zero, List.set_cons_succ, i64_w, i32_w]
    rfl
   refine pure_ (i := 17) (N := some 38) (v := undef) (a' := ?_) #[true, true, true, true, true, true, true, true, true, true, true, true, true, true, true, true, true, true, false, false, false] rfl rfl (any_of HT_.out (by kernel_rfl)) (fun _ _ _ h => h) (Or.inr ⟨by rfl, rfl⟩) ?_ ?_
   rotate_left
   ·simp only [Act.put, List.setIfInBounds_toArray, List.set_cons_zero, List.set_cons_succ, i64_w, i32_w]
    rfl
   refine pure_ (i := 18) (N := some 39) (v := undef) (a' := ?_) #[true, true, true, true, true, true, true, true, true, true, true, true, true, true, true, true, true, true, true, false, false] rfl rfl (any_of HT_.out (by kernel_rfl)) (fun _ _ _ h => h) (Or.inr ⟨by rfl, rfl⟩) ?_ ?_
   rotate_left
   ·simp only [Act.put, List.setIfInBounds_toArray, List.set_cons_zero, List.set_cons_succ, i64_w, i32_w]
    rfl
   refine pure_ (i := 19) (N := some 40) (v := ?_) (a' := ?_) #[true, true, true, true, true, true, true, true, true, true, true, true, true, true, true, true, true, true, true, true, false] rfl rfl (any_of HT_.out (by kernel_rfl)) (fun _ _ _ h => h) (Or.inl ⟨by rfl, ?_⟩) ?_ ?_
   rotate_left
   ·intro w'
    go_simp
    with_reducible rfl
   rotate_left
   ·simp only [Act.put, List.setIfInBounds_toArray, List.set_cons_zero, List.set_cons_succ, i64_w, i32_w]
    rfl
   refine pure_ (i := 20) (N := some 3) (v := ?_) (a' := ?_) #[true, true, true, true, true, true, true, true, true, true, true, true, true, true, true, true, true, true, true, true, true] rfl rfl (any_of HT_.out (by kernel_rfl)) (fun _ _ _ h => h) (Or.inl ⟨by rfl, ?_⟩) ?_ ?_
   rotate_left
   ·intro w'
    go_simp
    with_reducible rfl
   rotate_left
   ·simp only [Act.put, List.setIfInBounds_toArray, List.set_cons_zero, List.set_cons_succ, i64_w, i32_w]
    rfl
   refine done_ (done_of HT_.out (by kernel_rfl)) ?_
   go_wp2
   go_roundg k1
   case measure => have := HI.out; omega
   case rel => exact ⟨1, by first | rfl | simp [wrap64], by first | rfl | simp, ⟨by decide⟩, ⟨by have := HI.out; omega⟩, BL4⟩
theorem got_del {w : World} {base n c B : Nat} {ok : Nat → Prop} {A : Option Addr} {O : List (It × Int)} (hR : kIt.R 73 w base ok (.slice A n c) (O.map Prod.fst)) (hbs : base ≤ w.heap.size) (hn : n = O.length) (hl : O.length ≤ 1000000) (KK : Nat) (a0 a1 a2 a3 : Int) (hs : Int → Bool) (hA : w.heap[B]? = some (.cells #[.int .i64 a0, .int .i64 a1, .int .i64 a2, .int .i64 a3] 36 (0, 0))) (hh : ∀ o ∈ O, ack_Has.f KK a0 a1 a2 a3 o.1.b.f0 = some (hs o.1.b.f0)) (hB : some B ≠ (Value.slice A n c).ownBlock) :
  Calls Try.prog 36 #[.slice A n c, .func (.func 37) #[] #[.pointer (some ⟨B, 0, none⟩)]] w fun e w' => ∃ m, e = .returned (.slice A m c) ∧ kIt.R 73 w' base ok (.slice A m c) ((O.filter (fun o => !goQ hs o)).map Prod.fst) ∧ w.grownBy w' (Value.slice A n c).ownBlock ∧ m = (O.filter (fun o => !goQ hs o)).length := by
 rcases ixB_at (q := goQ hs) O 0 with ⟨h1, h2⟩ | ⟨i, h1, h2, h3, h4⟩
 ·refine (got_del_none A c n B O w hn (Kd.R_reads' hR).2.2 hl KK a0 a1 a2 a3 hs hA hh h2).mono ?_
  rintro e w' ⟨rfl, hb⟩
  have hf : O.filter (fun o => !goQ hs o) = O := List.filter_eq_self.2 (fun o ho => by rw [h2 o ho]; rfl)
  rw [hf]
  exact ⟨n, rfl, Kd.R_below hR hb, grown_of_below hb _, hn⟩
 ·obtain ⟨gq, cap, ev, _, _⟩ := Kd.R_form hR (by rw [List.length_map]; omega)
  injection ev with ea en ec
  subst ea
  refine (got_del_some gq c n B O w base ok hR hbs hn hl KK a0 a1 a2 a3 hs hA hh (fun e => hB (by rw [e]; rfl)) i h1 (by rw [h2]; omega) h3 h4).mono ?_
  rintro e w' ⟨m, rfl, hr, hg⟩
  exact ⟨m, rfl, hr, hg, by have := (Kd.R_reads' hr).1; rw [List.length_map] at this; exact this⟩
section
variable {w0 w w' : World} {F : Nat → Prop} {g : Nat} {wn tr nx : Int} {W : List S34} {O O2 : List (It × Int)} {vw vo v2 : Value}
theorem Sd.del (h : Sd w0 w F g wn tr W O nx vw vo) (hs : O2.Sublist O) (hr : kIt.R 73 w' w0.heap.size (fun k => F k ∧ k ≠ g ∧ some k ≠ vw.ownBlock ∧ ∀ o ∈ O, k ≠ o.1.p) v2 (O2.map Prod.fst)) (hg : w.grownBy w' vo.ownBlock) (hv : v2.ownBlock = vo.ownBlock) :
  Sd w0 (w'.setCell ⟨g, 3, none⟩ v2) F g wn tr W O2 nx vw v2 := by
 have hw0 := below_size h.bl
 have hbase : ∀ k, vo.ownBlock = some k → w0.heap.size ≤ k := fun k hk => Kd.R_base h.rowo k hk
 have hgw : some g ≠ vo.ownBlock := fun e => (h.rowo.1 g e.symm).2.1 rfl
 have hx := (hg.block g (blk_lt h.blk) hgw).trans h.blk
 refine ⟨(pw_below_grown h.bl _ hw0 hg hbase).setCell h.new _, blk_put hx 3 v2 rfl, h.new, fun k hk => Nat.lt_of_lt_of_le (h.lt k hk) (Nat.le_trans hg.size (set_size _ _ _)), h.fg, ?_, ?_, fun o ho => ?_, h.apart.sublist hs⟩
 ·refine Kd.R_mono (Kd.R_far (p := ⟨g, 3, none⟩) (Kd.R_grown h.roww hg (fun k hk => hk.2.2.1)) (fun k hk e => hk.2.1 e) v2) (fun k hk => ⟨hk.1, hk.2.1, by rw [hv]; exact hk.2.2.1, fun o ho => hk.2.2.2 o (hs.subset ho)⟩)
 ·exact Kd.R_mono (Kd.R_far (p := ⟨g, 3, none⟩) hr (fun k hk e => hk.2.1 e) v2) (fun k hk => ⟨hk.1, hk.2.1, hk.2.2.1, fun o ho => hk.2.2.2 o (hs.subset ho)⟩)
 ·obtain ⟨a, b, c, d⟩ := h.cnt o (hs.subset ho)
  have hne : some o.1.p ≠ vo.ownBlock := fun e => (h.rowo.1 _ e.symm).2.2.2 o (hs.subset ho) rfl
  exact ⟨a, b, c, (Below.heap_setCell w' ⟨g, 3, none⟩ v2 o.1.p b).trans ((hg.block _ (blk_lt d) hne).trans d)⟩
theorem Sd.delX (h : Sd w0 w F g wn tr W O nx vw vo) (hs : O2.Sublist O) (hg : w.grownBy w' vo.ownBlock) (hv : v2.ownBlock = vo.ownBlock) :
  SX w F (Wr g vw vo O) (w'.setCell ⟨g, 3, none⟩ v2) F (Wr g vw v2 O2) := by
 refine ⟨Nat.le_trans hg.size (set_size _ _ _), fun k hk hr => (Below.heap_setCell w' ⟨g, 3, none⟩ v2 k (fun e => hr (.inl e))).trans (hg.block k hk (fun e => hr (.inr (.inr (.inl e))))), fun k hk => .inl hk, fun k hk => ?_⟩
 rcases hk with e | e | e | ⟨o, ho, e⟩
 ·exact .inl (.inl e)
 ·exact .inl (.inr (.inl e))
 ·exact .inl (.inr (.inr (.inl (by rw [← hv]; exact e))))
 ·exact .inl (.inr (.inr (.inr ⟨o, hs.subset ho, e⟩)))
end
def sgo.T1 : Bool × List (List Nat × List Nat) := (true, [([], []), ([0], [0]), ([1], [1]), ([2], [2]), ([3, 2], [2, 3]), ([4, 2, 2], [2, 4]), ([5, 2], [2, 5]), ([2, 6], [2, 6]), ([7, 5], [7]), ([8], [8]), ([9, 8, 8], [8, 9]), ([8], [8]), ([11, 8], [8, 11]), ([10, 12, 10, 8], [8, 10, 12]), ([8], [8]), ([14, 13, 8], [8, 14]), ([8], [8]), ([16, 8], [8, 16]), ([17, 8], [8, 17]), ([18, 8], [8, 18]), ([15, 19, 15, 8], [8, 15, 19]), ([13, 20, 8], [8, 13, 20]), ([8, 21], [8, 21])])
def sgo.B1 : List Nat := [0, 1, 3, 7, 15, 31, 63, 127, 255, 511, 1023, 511, 2559, 8191, 511, 32767, 511, 66047, 197119, 459263, 1048575, 2097151, 4194303]
theorem sgo.tab1 : rtab .any (opsOf Try.f14 1) = sgo.T1 := by kernel_rfl
theorem sgo.bits1 : waitsOk sgo.T1.2 sgo.B1 = true := by kernel_rfl
theorem sgot_bad {w0 w : World} {F : Nat → Prop} {g : Nat} {wn tr nx : Int} {W : List S34} {O : List (It × Int)} {vw vo : Value} (h : Sd w0 w F g wn tr W O nx vw vo) (a0 a1 a2 a3 : Int) (hk : ¬ SA ⟨a0, a1, a2, a3⟩) :
  Calls Try.prog 14 #[.pointer (some ⟨g, 0, none⟩), .agg #[.int .i64 a0, .int .i64 a1, .int .i64 a2, .int .i64 a3]] w fun e w' => e = .returned (.int .i64 0) ∧ Below w.heap.size w w' := by
 have HS := Aside0.mk h
 have HK := Aside0.mk hk
 clear h hk
 go_enter Try.func14, Try.ntmps14
 go_upto_region 1 with ((with_reducible refine gate_dst (N := 3) rfl ?_); refine box_event ?hg (N := 3) ?hd (cs := #[.int .i64 a0, .int .i64 a1, .int .i64 a2, .int .i64 a3]) (t := 36) ?hr ?_; (case hd => rfl); (case hg => rfl); (case hr => first | (go_simp; done) | (go_simp; rfl) | rfl | kernel_rfl); intro gA hgA w2 hbox hb; have BA2 := Aside0.mk hbox; have BB2 := Aside0.mk hb; have S2 := Aside0.mk (HS.out.below hb); have x0 : w2.cell? ⟨gA, 0, none⟩ = some (.int .i64 a0) := (blk_cell BA2.out 0).trans rfl; have x1 : w2.cell? ⟨gA, 1, none⟩ = some (.int .i64 a1) := (blk_cell BA2.out 1).trans rfl; have x2 : w2.cell? ⟨gA, 2, none⟩ = some (.int .i64 a2) := (blk_cell BA2.out 2).trans rfl; have x3 : w2.cell? ⟨gA, 3, none⟩ = some (.int .i64 a3) := (blk_cell BA2.out 3).trans rfl; have x4 : w2.cell? ⟨g, 4, none⟩ = some (.int .i64 nx) := (blk_cell S2.out.blk 4).trans rfl; clear hb hbox hgA)
 refine start_ (n := 23) (S := fun w' => w'.cell? ⟨gA, 0, none⟩ = some (.int .i64 a0) ∧ w'.cell? ⟨gA, 1, none⟩ = some (.int .i64 a1) ∧ w'.cell? ⟨gA, 2, none⟩ = some (.int .i64 a2) ∧ w'.cell? ⟨gA, 3, none⟩ = some (.int .i64 a3) ∧ w'.cell? ⟨g, 4, none⟩ = some (.int .i64 nx)) (ds := [5]) #[false, false, false, false, false, false, false, false, false, false, false, false, false, false, false, false, false, false, false, false, false, false, false] (by kernel_rfl) rfl rfl ⟨x0, x1, x2, x3, x4⟩ (fun hHeld => ?_); refine with_tabW sgo.tab1 sgo.bits1 (fun HT_ HW_ => ?_)
 refine pure_ (i := 0) (N := some 6) (v := ?_) (a' := ?_) #[true, false, false, false, false, false, false, false, false, false, false, false, false, false, false, false, false, false, false, false, false, false, false] rfl rfl (any_of HT_.out (by kernel_rfl)) (fun _ _ _ h => h) (Or.inl ⟨by rfl, ?_⟩) ?_ ?_
 rotate_left
 ·intro w'
  go_simp
  with_reducible rfl
 rotate_left
 ·simp only [Act.put, List.setIfInBounds_toArray, List.set_cons_zero, List.set_cons_succ, i64_w, i32_w]
  rfl
 refine pure_ (i := 1) (N := some 7) (v := ?_) (a' := ?_) #[true, true, false, false, false, false, false, false, false, false, false, false, false, false, false, false, false, false, false, false, false, false, false] rfl rfl (any_of HT_.out (by kernel_rfl)) (fun _ _ _ h => h) (Or.inl ⟨by rfl, ?_⟩) ?_ ?_
 rotate_left
 ·intro w'
  go_simp
  with_reducible rfl
 rotate_left
 ·simp only [Act.put, List.setIfInBounds_toArray, List.set_cons_zero, List.set_cons_succ, i64_w, i32_w]
  rfl
 refine pure_ (i := 2) (N := some 8) (v := ?_) (a' := ?_) #[true, true, true, false, false, false, false, false, false, false, false, false, false, false, false, false, false, false, false, false, false, false, false] rfl rfl (any_of HT_.out (by kernel_rfl)) (fun _ _ _ h => h) (Or.inl ⟨by rfl, ?_⟩) ?_ ?_
 rotate_left
 ·intro w'
  go_simp
  with_reducible rfl
 rotate_left
 ·simp only [Act.put, List.setIfInBounds_toArray, List.set_cons_zero, List.set_cons_succ, i64_w, i32_w]
  rfl
 refine take_ (i := 3) (N := some 9) (v := ?_) (a' := ?_) #[true, true, true, true, false, false, false, false, false, false, false, false, false, false, false, false, false, false, false, false, false, false, false] rfl rfl (take_ofW HT_.out HW_.out (by kernel_rfl)) (fun _ _ _ h => h) (Or.inl ⟨by rfl, ?_⟩) hHeld ?_ ?_
 rotate_left
 ·rintro w' ⟨s0, s1, s2, s3, s4⟩
  go_simp
  with_reducible rfl
 rotate_left
 ·simp only [Act.put, List.setIfInBounds_toArray, List.set_cons_zero, List.set_cons_succ, i64_w, i32_w]
  rfl
 refine one_ (i := 4) (N := some 10) #[true, true, true, true, true, false, false, false, false, false, false, false, false, false, false, false, false, false, false, false, false, false, false] rfl rfl (one_of HT_.out (by kernel_rfl)) (by decide) (fun K hK => ?_)
 refine lit1_step ?hg (N := 10) ?hd (cs := #[.int .i64 a0, .int .i64 a1, .int .i64 a2, .int .i64 a3]) (t := 36) (n := 1) ?hr ?_
 (case hd => rfl)
 (case hg => rfl)
 (case hr => first | (go_simp; done) | (go_simp; rfl))
 intro gl hgl w3 hbox hb3
 have S3 := Aside0.mk (S2.out.below (below_step (below_drew (Below.refl _ _)) hb3))
 have BB3 := Aside0.mk (below_step BB2.out (below_step (below_drew (Below.refl _ _)) hb3))
 have BL := Aside0.mk hbox
 have BA3 := Aside0.mk (blk_below (blk_below BA2.out (below_drew (Below.refl _ _))) hb3)
 refine hK.out _ _ ⟨(hb3.cell (World.block_lt_of_cell? _ _ hHeld.1)).trans hHeld.1, (hb3.cell (World.block_lt_of_cell? _ _ hHeld.2.1)).trans hHeld.2.1, (hb3.cell (World.block_lt_of_cell? _ _ hHeld.2.2.1)).trans hHeld.2.2.1, (hb3.cell (World.block_lt_of_cell? _ _ hHeld.2.2.2.1)).trans hHeld.2.2.2.1, (hb3.cell (World.block_lt_of_cell? _ _ hHeld.2.2.2.2)).trans hHeld.2.2.2.2⟩ (fun hHeld => ?_)
 clear hK K
 refine norm_ (a' := ?_) ?_ ?_
 rotate_left
 ·show Act.put _ (some 10) _ = _
  simp only [Act.put, List.setIfInBounds_toArray, List.set_cons_zero, List.set_cons_succ, i64_w, i32_w]
  rfl
 refine last_ (i := 5) (N := some 11) #[true, true, true, true, true, true, false, false, false, false, false, false, false, false, false, false, false, false, false, false, false, false, false] rfl rfl (one_of HT_.out (by kernel_rfl)) (by decide) (fun K hK => ?_)
 refine goes_ Try.func35 (by kernel_rfl) rfl #[.slice (some ⟨gl, 0, none⟩) 1 1] (by rfl) rfl rfl (by simp only [List.map_toArray, List.map_cons, List.map_nil]; rfl) ?_
 with_reducible refine (ack_oneN HK.out BL.out).mono ?_
 rintro e w4 ⟨rfl, hb4⟩
 refine ⟨_, rfl, ?_⟩
 have S4 := Aside0.mk (S3.out.below hb4)
 have BB4 := Aside0.mk (below_step BB3.out hb4)
 have BA4 := Aside0.mk (blk_below BA3.out hb4)
 refine hK.out _ _ ?_
 clear hK K
 refine norm_ (a' := ?_) ?_ ?_
 rotate_left
 ·show Act.put _ (some 11) _ = _
  simp only [Act.put, List.setIfInBounds_toArray, List.set_cons_zero, List.set_cons_succ, i64_w, i32_w]
  rfl
 refine pure_ (i := 6) (N := some 12) (v := ?_) (a' := ?_) #[true, true, true, true, true, true, true, false, false, false, false, false, false, false, false, false, false, false, false, false, false, false, false] rfl rfl (any_of HT_.out (by kernel_rfl)) (fun _ _ _ h => h) (Or.inl ⟨by rfl, ?_⟩) ?_ ?_
 rotate_left
 ·intro w'
  go_simp
  with_reducible rfl
 rotate_left
 ·simp only [Act.put, List.setIfInBounds_toArray, List.set_cons_zero, List.set_cons_succ, i64_w, i32_w]
  rfl
 refine pure_ (i := 7) (N := some 13) (v := ?_) (a' := ?_) #[true, true, true, true, true, true, true, true, false, false, false, false, false, false, false, false, false, false, false, false, false, false, false] rfl rfl (any_of HT_.out (by kernel_rfl)) (fun _ _ _ h => h) (Or.inl ⟨by rfl, ?_⟩) ?_ ?_
 rotate_left
 ·intro w'
  go_simp
  with_reducible rfl
 rotate_left
 ·simp only [Act.put, List.setIfInBounds_toArray, List.set_cons_zero, List.set_cons_succ, i64_w, i32_w]
  rfl
 refine pure_ (i := 8) (N := some 14) (v := ?_) (a' := ?_) #[true, true, true, true, true, true, true, true, true, false, false, false, false, false, false, false, false, false, false, false, false, false, false] rfl rfl (any_of HT_.out (by kernel_rfl)) (fun _ _ _ h => h) (Or.inl ⟨by rfl, ?_⟩) ?_ ?_
 rotate_left
 ·intro w'
  go_simp
  with_reducible rfl
 rotate_left
 ·simp only [Act.put, List.setIfInBounds_toArray, List.set_cons_zero, List.set_cons_succ, i64_w, i32_w]
  rfl
 refine pure_ (i := 9) (N := some 15) (v := undef) (a' := ?_) #[true, true, true, true, true, true, true, true, true, true, false, false, false, false, false, false, false, false, false, false, false, false, false] rfl rfl (any_of HT_.out (by kernel_rfl)) (fun _ _ _ h => h) (Or.inr ⟨by rfl, rfl⟩) ?_ ?_
 rotate_left
 ·simp only [Act.put, List.setIfInBounds_toArray, List.set_cons_zero, List.set_cons_succ, i64_w, i32_w]
  rfl
 refine pure_ (i := 10) (N := some 16) (v := undef) (a' := ?_) #[true, true, true, true, true, true, true, true, true, true, true, false, false, false, false, false, false, false, false, false, false, false, false] rfl rfl (any_of HT_.out (by kernel_rfl)) (fun _ _ _ h => h) (Or.inr ⟨by rfl, rfl⟩) ?_ ?_
 rotate_left
 ·simp only [Act.put, List.setIfInBounds_toArray, List.set_cons_zero, List.set_cons_succ, i64_w, i32_w]
  rfl
 refine pure_ (i := 11) (N := some 17) (v := undef) (a' := ?_) #[true, true, true, true, true, true, true, true, true, true, true, true, false, false, false, false, false, false, false, false, false, false, false] rfl rfl (any_of HT_.out (by kernel_rfl)) (fun _ _ _ h => h) (Or.inr ⟨by rfl, rfl⟩) ?_ ?_
 rotate_left
 ·simp only [Act.put, List.setIfInBounds_toArray, List.set_cons_zero, List.set_cons_succ, i64_w, i32_w]
  rfl
 refine pure_ (i := 12) (N := some 18) (v := undef) (a' := ?_) #[true, true, true, true, true, true, true, true, true, true, true, true, true, false, false, false, false, false, false, false, false, false, false] rfl rfl (any_of HT_.out (by kernel_rfl)) (fun _ _ _ h => h) (Or.inr ⟨by rfl, rfl⟩) ?_ ?_
 rotate_left
 ·simp only [Act.put, List.setIfInBounds_toArray, List.set_cons_zero, List.set_cons_succ, i64_w, i32_w]
  rfl
 refine pure_ (i := 13) (N := some 19) (v := undef) (a' := ?_) #[true, true, true, true, true, true, true, true, true, true, true, true, true, true, false, false, false, false, false, false, false, false, false] rfl rfl (any_of HT_.out (by kernel_rfl)) (fun _ _ _ h => h) (Or.inr ⟨by rfl, rfl⟩) ?_ ?_
 rotate_left
 ·simp only [Act.put, List.setIfInBounds_toArray, List.set_cons_zero, List.set_cons_succ, i64_w, i32_w]
  rfl
 refine pure_ (i := 14) (N := some 20) (v := undef) (a' := ?_) #[true, true, true, true, true, true, true, true, true, true, true, true, true, true, true, false, false, false, false, false, false, false, false] rfl rfl (any_of HT_.out (by kernel_rfl)) (fun _ _ _ h => h) (Or.inr ⟨by rfl, rfl⟩) ?_ ?_
 rotate_left
 ·simp only [Act.put, List.setIfInBounds_toArray, List.set_cons_zero, List.set_cons_succ, i64_w, i32_w]
  rfl
 refine pure_ (i := 15) (N := some 21) (v := undef) (a' := ?_) #[true, true, true, true, true, true, true, true, true, true, true, true, true, true, true, true, false, false, false, false, false, false, false] rfl rfl (any_of HT_.out (by kernel_rfl)) (fun _ _ _ h => h) (Or.inr ⟨by rfl, rfl⟩) ?_ ?_
 rotate_left
 ·simp only [Act.put, List.setIfInBounds_toArray, List.set_cons_zero, List.set_cons_succ, i64_w, i32_w]
  rfl
 refine pure_ (i := 16) (N := some 22) (v := undef) (a' := ?_) #[true, true, true, true, true, true, true, true, true, true, true, true, true, true, true, true, true, false, false, false, false, false, false] rfl rfl (any_of HT_.out (by kernel_rfl)) (fun _ _ _ h => h) (Or.inr ⟨by rfl, rfl⟩) ?_ ?_
 rotate_left
 ·simp only [Act.put, List.setIfInBounds_toArray, List.set_cons_zero, List.set_cons_succ, i64_w, i32_w]
  rfl
 refine pure_ (i := 17) (N := some 23) (v := undef) (a' := ?_) #[true, true, true, true, true, true, true, true, true, true, true, true, true, true, true, true, true, true, false, false, false, false, false] rfl rfl (any_of HT_.out (by kernel_rfl)) (fun _ _ _ h => h) (Or.inr ⟨by rfl, rfl⟩) ?_ ?_
 rotate_left
 ·simp only [Act.put, List.setIfInBounds_toArray, List.set_cons_zero, List.set_cons_succ, i64_w, i32_w]
  rfl
 refine pure_ (i := 18) (N := some 24) (v := undef) (a' := ?_) #[true, true, true, true, true, true, true, true, true, true, true, true, true, true, true, true, true, true, true, false, false, false, false] rfl rfl (any_of HT_.out (by kernel_rfl)) (fun _ _ _ h => h) (Or.inr ⟨by rfl, rfl⟩) ?_ ?_
 rotate_left
 ·simp only [Act.put, List.setIfInBounds_toArray, List.set_cons_zero, List.set_cons_succ, i64_w, i32_w]
  rfl
 refine pure_ (i := 19) (N := some 25) (v := undef) (a' := ?_) #[true, true, true, true, true, true, true, true, true, true, true, true, true, true, true, true, true, true, true, true, false, false, false] rfl rfl (any_of HT_.out (by kernel_rfl)) (fun _ _ _ h => h) (Or.inr ⟨by rfl, rfl⟩) ?_ ?_
 rotate_left
 ·simp only [Act.put, List.setIfInBounds_toArray, List.set_cons_zero, List.set_cons_succ, i64_w, i32_w]
  rfl
 refine pure_ (i := 20) (N := some 26) (v := undef) (a' := ?_) #[true, true, true, true, true, true, true, true, true, true, true, true, true, true, true, true, true, true, true, true, true, false, false] rfl rfl (any_of HT_.out (by kernel_rfl)) (fun _ _ _ h => h) (Or.inr ⟨by rfl, rfl⟩) ?_ ?_
 rotate_left
 ·simp only [Act.put, List.setIfInBounds_toArray, List.set_cons_zero, List.set_cons_succ, i64_w, i32_w]
  rfl
 refine pure_ (i := 21) (N := some 27) (v := undef) (a' := ?_) #[true, true, true, true, true, true, true, true, true, true, true, true, true, true, true, true, true, true, true, true, true, true, false] rfl rfl (any_of HT_.out (by kernel_rfl)) (fun _ _ _ h => h) (Or.inr ⟨by rfl, rfl⟩) ?_ ?_
 rotate_left
 ·simp only [Act.put, List.setIfInBounds_toArray, List.set_cons_zero, List.set_cons_succ, i64_w, i32_w]
  rfl
 refine pure_ (i := 22) (N := some 28) (v := ?_) (a' := ?_) #[true, true, true, true, true, true, true, true, true, true, true, true, true, true, true, true, true, true, true, true, true, true, true] rfl rfl (any_of HT_.out (by kernel_rfl)) (fun _ _ _ h => h) (Or.inl ⟨by rfl, ?_⟩) ?_ ?_
 rotate_left
 ·intro w'
  go_simp
  with_reducible rfl
 rotate_left
 ·simp only [Act.put, List.setIfInBounds_toArray, List.set_cons_zero, List.set_cons_succ, i64_w, i32_w]
  rfl
 refine done_ (done_of HT_.out (by kernel_rfl)) ?_
 go_wp2
 go_ret
 exact ⟨rfl, BB4.out⟩
theorem sgot_in {w0 w : World} {F : Nat → Prop} {g : Nat} {wn tr nx : Int} {W : List S34} {O : List (It × Int)} {vw vo : Value} (h : Sd w0 w F g wn tr W O nx vw vo) (hl : O.length ≤ 1000000) (KK : Nat) (a0 a1 a2 a3 : Int) (hk : SA ⟨a0, a1, a2, a3⟩) (f1 f2 : Int) (h1 : serial_Far.f KK (firstL O nx) a2 = some f1) (h2 : serial_Far.f KK (firstL O nx) nx = some f2) (hs : Int → Bool) (hh : ∀ o ∈ O, ack_Has.f KK a0 a1 a2 a3 o.1.b.f0 = some (hs o.1.b.f0)) :
  Calls Try.prog 14 #[.pointer (some ⟨g, 0, none⟩), .agg #[.int .i64 a0, .int .i64 a1, .int .i64 a2, .int .i64 a3]] w fun e w' => (f1 > f2 ∧ e = .returned (.int .i64 0) ∧ Below w.heap.size w w') ∨ (¬ f1 > f2 ∧ ∃ vo', e = .returned (.int .i64 ((O.length : Int) - ((O.filter (fun o => !goQ hs o)).length : Int))) ∧ Sd w0 w' F g wn tr W (O.filter (fun o => !goQ hs o)) nx vw vo' ∧ SX w F (Wr g vw vo O) w' F (Wr g vw vo' (O.filter (fun o => !goQ hs o)))) := by
 obtain ⟨fst, hfs⟩ : ∃ fst, fst = firstL O nx := ⟨_, rfl⟩
 rw [← hfs] at h1 h2
 obtain ⟨Ao, co, rfl⟩ := Kd.R_slice h.rowo
 obtain ⟨n, hn⟩ : ∃ n, n = (O.map Prod.fst).length := ⟨_, rfl⟩
 rw [← hn] at h ⊢
 have HS := Aside0.mk h
 have HN := Aside0.mk (show n = O.length by rw [hn, List.length_map])
 have HL := Aside0.mk hl
 have HH := Aside0.mk hh
 have HK := Aside0.mk hk
 have HFS := Aside0.mk hfs
 have HF1 := Aside0.mk h1
 have HF2 := Aside0.mk h2
 have HLF := Aside0.mk (show (O.filter (fun o => !goQ hs o)).length ≤ O.length from List.length_filter_le _ _)
 clear h hk hfs h1 h2 hn hl hh
 go_enter Try.func14, Try.ntmps14
 go_upto_region 1 with ((with_reducible refine gate_dst (N := 3) rfl ?_); refine box_event ?hg (N := 3) ?hd (cs := #[.int .i64 a0, .int .i64 a1, .int .i64 a2, .int .i64 a3]) (t := 36) ?hr ?_; (case hd => rfl); (case hg => rfl); (case hr => first | (go_simp; done) | (go_simp; rfl) | rfl | kernel_rfl); intro gA hgA w2 hbox hb; have BA2 := Aside0.mk hbox; have BB2 := Aside0.mk hb; have S2 := Aside0.mk (HS.out.below hb); have x0 : w2.cell? ⟨gA, 0, none⟩ = some (.int .i64 a0) := (blk_cell BA2.out 0).trans rfl; have x1 : w2.cell? ⟨gA, 1, none⟩ = some (.int .i64 a1) := (blk_cell BA2.out 1).trans rfl; have x2 : w2.cell? ⟨gA, 2, none⟩ = some (.int .i64 a2) := (blk_cell BA2.out 2).trans rfl; have x3 : w2.cell? ⟨gA, 3, none⟩ = some (.int .i64 a3) := (blk_cell BA2.out 3).trans rfl; have x4 : w2.cell? ⟨g, 4, none⟩ = some (.int .i64 nx) := (blk_cell S2.out.blk 4).trans rfl; clear hb hbox hgA)
 refine start_ (n := 23) (S := fun w' => w'.cell? ⟨gA, 0, none⟩ = some (.int .i64 a0) ∧ w'.cell? ⟨gA, 1, none⟩ = some (.int .i64 a1) ∧ w'.cell? ⟨gA, 2, none⟩ = some (.int .i64 a2) ∧ w'.cell? ⟨gA, 3, none⟩ = some (.int .i64 a3) ∧ w'.cell? ⟨g, 4, none⟩ = some (.int .i64 nx)) (ds := [20]) #[false, false, false, false, false, false, false, false, false, false, false, false, false, false, false, false, false, false, false, false, false, false, false] (by kernel_rfl) rfl rfl ⟨x0, x1, x2, x3, x4⟩ (fun hHeld => ?_); refine with_tabW sgo.tab1 sgo.bits1 (fun HT_ HW_ => ?_)
 refine pure_ (i := 0) (N := some 6) (v := ?_) (a' := ?_) #[true, false, false, false, false, false, false, false, false, false, false, false, false, false, false, false, false, false, false, false, false, false, false] rfl rfl (any_of HT_.out (by kernel_rfl)) (fun _ _ _ h => h) (Or.inl ⟨by rfl, ?_⟩) ?_ ?_
 rotate_left
 ·intro w'
  go_simp
  with_reducible rfl
 rotate_left
 ·simp only [Act.put, List.setIfInBounds_toArray, List.set_cons_zero, List.set_cons_succ, i64_w, i32_w]
  rfl
 refine pure_ (i := 1) (N := some 7) (v := ?_) (a' := ?_) #[true, true, false, false, false, false, false, false, false, false, false, false, false, false, false, false, false, false, false, false, false, false, false] rfl rfl (any_of HT_.out (by kernel_rfl)) (fun _ _ _ h => h) (Or.inl ⟨by rfl, ?_⟩) ?_ ?_
 rotate_left
 ·intro w'
  go_simp
  with_reducible rfl
 rotate_left
 ·simp only [Act.put, List.setIfInBounds_toArray, List.set_cons_zero, List.set_cons_succ, i64_w, i32_w]
  rfl
 refine pure_ (i := 2) (N := some 8) (v := ?_) (a' := ?_) #[true, true, true, false, false, false, false, false, false, false, false, false, false, false, false, false, false, false, false, false, false, false, false] rfl rfl (any_of HT_.out (by kernel_rfl)) (fun _ _ _ h => h) (Or.inl ⟨by rfl, ?_⟩) ?_ ?_
 rotate_left
 ·intro w'
  go_simp
  with_reducible rfl
 rotate_left
 ·simp only [Act.put, List.setIfInBounds_toArray, List.set_cons_zero, List.set_cons_succ, i64_w, i32_w]
  rfl
 refine take_ (i := 3) (N := some 9) (v := ?_) (a' := ?_) #[true, true, true, true, false, false, false, false, false, false, false, false, false, false, false, false, false, false, false, false, false, false, false] rfl rfl (take_ofW HT_.out HW_.out (by kernel_rfl)) (fun _ _ _ h => h) (Or.inl ⟨by rfl, ?_⟩) hHeld ?_ ?_
 rotate_left
 ·rintro w' ⟨s0, s1, s2, s3, s4⟩
  go_simp
  with_reducible rfl
 rotate_left
 ·simp only [Act.put, List.setIfInBounds_toArray, List.set_cons_zero, List.set_cons_succ, i64_w, i32_w]
  rfl
 refine one_ (i := 4) (N := some 10) #[true, true, true, true, true, false, false, false, false, false, false, false, false, false, false, false, false, false, false, false, false, false, false] rfl rfl (one_of HT_.out (by kernel_rfl)) (by decide) (fun K hK => ?_)
 refine lit1_step ?hg (N := 10) ?hd (cs := #[.int .i64 a0, .int .i64 a1, .int .i64 a2, .int .i64 a3]) (t := 36) (n := 1) ?hr ?_
 (case hd => rfl)
 (case hg => rfl)
 (case hr => first | (go_simp; done) | (go_simp; rfl))
 intro gl hgl w3 hbox hb3
 have S3 := Aside0.mk (S2.out.below (below_step (below_drew (Below.refl _ _)) hb3))
 have BB3 := Aside0.mk (below_step BB2.out (below_step (below_drew (Below.refl _ _)) hb3))
 have BL := Aside0.mk hbox
 have BA3 := Aside0.mk (blk_below (blk_below BA2.out (below_drew (Below.refl _ _))) hb3)
 refine hK.out _ _ ⟨(hb3.cell (World.block_lt_of_cell? _ _ hHeld.1)).trans hHeld.1, (hb3.cell (World.block_lt_of_cell? _ _ hHeld.2.1)).trans hHeld.2.1, (hb3.cell (World.block_lt_of_cell? _ _ hHeld.2.2.1)).trans hHeld.2.2.1, (hb3.cell (World.block_lt_of_cell? _ _ hHeld.2.2.2.1)).trans hHeld.2.2.2.1, (hb3.cell (World.block_lt_of_cell? _ _ hHeld.2.2.2.2)).trans hHeld.2.2.2.2⟩ (fun hHeld => ?_)
 clear hK K
 refine norm_ (a' := ?_) ?_ ?_
 rotate_left
 ·show Act.put _ (some 10) _ = _
  simp only [Act.put, List.setIfInBounds_toArray, List.set_cons_zero, List.set_cons_succ, i64_w, i32_w]
  rfl
 refine one_ (i := 5) (N := some 11) #[true, true, true, true, true, true, false, false, false, false, false, false, false, false, false, false, false, false, false, false, false, false, false] rfl rfl (one_of HT_.out (by kernel_rfl)) (by decide) (fun K hK => ?_)
 refine goes_ Try.func35 (by kernel_rfl) rfl #[.slice (some ⟨gl, 0, none⟩) 1 1] (by rfl) rfl rfl (by simp only [List.map_toArray, List.map_cons, List.map_nil]; rfl) ?_
 with_reducible refine (ack_oneY HK.out BL.out).mono ?_
 rintro e w4 ⟨rfl, hb4⟩
 refine ⟨_, rfl, ?_⟩
 have S4 := Aside0.mk (S3.out.below hb4)
 have BB4 := Aside0.mk (below_step BB3.out hb4)
 have BA4 := Aside0.mk (blk_below BA3.out hb4)
 refine hK.out _ _ ⟨(hb4.cell (World.block_lt_of_cell? _ _ hHeld.1)).trans hHeld.1, (hb4.cell (World.block_lt_of_cell? _ _ hHeld.2.1)).trans hHeld.2.1, (hb4.cell (World.block_lt_of_cell? _ _ hHeld.2.2.1)).trans hHeld.2.2.1, (hb4.cell (World.block_lt_of_cell? _ _ hHeld.2.2.2.1)).trans hHeld.2.2.2.1, (hb4.cell (World.block_lt_of_cell? _ _ hHeld.2.2.2.2)).trans hHeld.2.2.2.2⟩ (fun hHeld => ?_)
 clear hK K
 refine norm_ (a' := ?_) ?_ ?_
 rotate_left
 ·show Act.put _ (some 11) _ = _
  simp only [Act.put, List.setIfInBounds_toArray, List.set_cons_zero, List.set_cons_succ, i64_w, i32_w]
  rfl
 refine pure_ (i := 6) (N := some 12) (v := ?_) (a' := ?_) #[true, true, true, true, true, true, true, false, false, false, false, false, false, false, false, false, false, false, false, false, false, false, false] rfl rfl (any_of HT_.out (by kernel_rfl)) (fun _ _ _ h => h) (Or.inl ⟨by rfl, ?_⟩) ?_ ?_
 rotate_left
 ·intro w'
  go_simp
  with_reducible rfl
 rotate_left
 ·simp only [Act.put, List.setIfInBounds_toArray, List.set_cons_zero, List.set_cons_succ, i64_w, i32_w]
  rfl
 refine pure_ (i := 7) (N := some 13) (v := ?_) (a' := ?_) #[true, true, true, true, true, true, true, true, false, false, false, false, false, false, false, false, false, false, false, false, false, false, false] rfl rfl (any_of HT_.out (by kernel_rfl)) (fun _ _ _ h => h) (Or.inl ⟨by rfl, ?_⟩) ?_ ?_
 rotate_left
 ·intro w'
  go_simp
  with_reducible rfl
 rotate_left
 ·simp only [Act.put, List.setIfInBounds_toArray, List.set_cons_zero, List.set_cons_succ, i64_w, i32_w]
  rfl
 refine pure_ (i := 8) (N := some 14) (v := ?_) (a' := ?_) #[true, true, true, true, true, true, true, true, true, false, false, false, false, false, false, false, false, false, false, false, false, false, false] rfl rfl (any_of HT_.out (by kernel_rfl)) (fun _ _ _ h => h) (Or.inl ⟨by rfl, ?_⟩) ?_ ?_
 rotate_left
 ·intro w'
  go_simp
  with_reducible rfl
 rotate_left
 ·simp only [Act.put, List.setIfInBounds_toArray, List.set_cons_zero, List.set_cons_succ, i64_w, i32_w]
  rfl
 refine pure_ (i := 9) (N := some 15) (v := ?_) (a' := ?_) #[true, true, true, true, true, true, true, true, true, true, false, false, false, false, false, false, false, false, false, false, false, false, false] rfl rfl (any_of HT_.out (by kernel_rfl)) (fun _ _ _ h => h) (Or.inl ⟨by rfl, ?_⟩) ?_ ?_
 rotate_left
 ·intro w'
  go_simp
  with_reducible rfl
 rotate_left
 ·simp only [Act.put, List.setIfInBounds_toArray, List.set_cons_zero, List.set_cons_succ, i64_w, i32_w]
  rfl
 refine pure_ (i := 11) (N := some 17) (v := ?_) (a' := ?_) #[true, true, true, true, true, true, true, true, true, true, false, true, false, false, false, false, false, false, false, false, false, false, false] rfl rfl (any_of HT_.out (by kernel_rfl)) (fun _ _ _ h => h) (Or.inl ⟨by rfl, ?_⟩) ?_ ?_
 rotate_left
 ·intro w'
  go_simp
  with_reducible rfl
 rotate_left
 ·simp only [Act.put, List.setIfInBounds_toArray, List.set_cons_zero, List.set_cons_succ, i64_w, i32_w]
  rfl
 refine pure_ (i := 14) (N := some 20) (v := ?_) (a' := ?_) #[true, true, true, true, true, true, true, true, true, true, false, true, false, false, true, false, false, false, false, false, false, false, false] rfl rfl (any_of HT_.out (by kernel_rfl)) (fun _ _ _ h => h) (Or.inl ⟨by rfl, ?_⟩) ?_ ?_
 rotate_left
 ·intro w'
  go_simp
  with_reducible rfl
 rotate_left
 ·simp only [Act.put, List.setIfInBounds_toArray, List.set_cons_zero, List.set_cons_succ, i64_w, i32_w]
  rfl
 refine pure_ (i := 16) (N := some 22) (v := ?_) (a' := ?_) #[true, true, true, true, true, true, true, true, true, true, false, true, false, false, true, false, true, false, false, false, false, false, false] rfl rfl (any_of HT_.out (by kernel_rfl)) (fun _ _ _ h => h) (Or.inl ⟨by rfl, ?_⟩) ?_ ?_
 rotate_left
 ·intro w'
  go_simp
  with_reducible rfl
 rotate_left
 ·simp only [Act.put, List.setIfInBounds_toArray, List.set_cons_zero, List.set_cons_succ, i64_w, i32_w]
  rfl
 refine pure_ (i := 17) (N := some 23) (v := ?_) (a' := ?_) #[true, true, true, true, true, true, true, true, true, true, false, true, false, false, true, false, true, true, false, false, false, false, false] rfl rfl (any_of HT_.out (by kernel_rfl)) (fun _ _ _ h => h) (Or.inl ⟨by rfl, ?_⟩) ?_ ?_
 rotate_left
 ·intro w'
  go_simp
  with_reducible rfl
 rotate_left
 ·simp only [Act.put, List.setIfInBounds_toArray, List.set_cons_zero, List.set_cons_succ, i64_w, i32_w]
  rfl
 refine pure_ (i := 18) (N := some 24) (v := ?_) (a' := ?_) #[true, true, true, true, true, true, true, true, true, true, false, true, false, false, true, false, true, true, true, false, false, false, false] rfl rfl (any_of HT_.out (by kernel_rfl)) (fun _ _ _ h => h) (Or.inl ⟨by rfl, ?_⟩) ?_ ?_
 rotate_left
 ·intro w'
  go_simp
  with_reducible rfl
 rotate_left
 ·simp only [Act.put, List.setIfInBounds_toArray, List.set_cons_zero, List.set_cons_succ, i64_w, i32_w]
  rfl
 refine take_ (i := 12) (N := some 18) (v := ?_) (a' := ?_) #[true, true, true, true, true, true, true, true, true, true, false, true, true, false, true, false, true, true, true, false, false, false, false] rfl rfl (take_ofW HT_.out HW_.out (by kernel_rfl)) (fun _ _ _ h => h) (Or.inl ⟨by rfl, ?_⟩) hHeld ?_ ?_
 rotate_left
 ·rintro w' ⟨s0, s1, s2, s3, s4⟩
  go_simp
  with_reducible rfl
 rotate_left
 ·simp only [Act.put, List.setIfInBounds_toArray, List.set_cons_zero, List.set_cons_succ, i64_w, i32_w]
  rfl
 refine take_ (i := 19) (N := some 25) (v := ?_) (a' := ?_) #[true, true, true, true, true, true, true, true, true, true, false, true, true, false, true, false, true, true, true, true, false, false, false] rfl rfl (take_ofW HT_.out HW_.out (by kernel_rfl)) (fun _ _ _ h => h) (Or.inl ⟨by rfl, ?_⟩) hHeld ?_ ?_
 rotate_left
 ·rintro w' ⟨s0, s1, s2, s3, s4⟩
  go_simp
  with_reducible rfl
 rotate_left
 ·simp only [Act.put, List.setIfInBounds_toArray, List.set_cons_zero, List.set_cons_succ, i64_w, i32_w]
  rfl
 refine one_ (i := 10) (N := some 16) #[true, true, true, true, true, true, true, true, true, true, true, true, true, false, true, false, true, true, true, true, false, false, false] rfl rfl (one_of HT_.out (by kernel_rfl)) (by decide) (fun K hK => ?_)
 refine goes_ Try.func28 (by kernel_rfl) rfl #[.pointer (some ⟨g, 0, none⟩)] (by rfl) rfl rfl (by simp only [List.map_toArray, List.map_cons, List.map_nil]; rfl) ?_
 with_reducible refine (sfirst_s S4.out).mono ?_
 rintro e w5 ⟨rfl, hw5⟩
 refine ⟨_, rfl, ?_⟩
 subst hw5
 rw [← HFS.out]
 refine hK.out _ _ ⟨hHeld.1, hHeld.2.1, hHeld.2.2.1, hHeld.2.2.2.1, hHeld.2.2.2.2⟩ (fun hHeld => ?_)
 clear hK K
 refine norm_ (a' := ?_) ?_ ?_
 rotate_left
 ·show Act.put _ (some 16) _ = _
  simp only [Act.put, List.setIfInBounds_toArray, List.set_cons_zero, List.set_cons_succ, i64_w, i32_w]
  rfl
 refine one_ (i := 13) (N := some 19) #[true, true, true, true, true, true, true, true, true, true, true, true, true, true, true, false, true, true, true, true, false, false, false] rfl rfl (one_of HT_.out (by kernel_rfl)) (by decide) (fun K hK => ?_)
 refine goes_ Try.func24 (by kernel_rfl) rfl #[.int .i64 fst, .int .i64 a2] (by rfl) rfl rfl (by simp only [List.map_toArray, List.map_cons, List.map_nil]; rfl) ?_
 with_reducible refine (serial_Far.calls KK fst a2 f1 _ HF1.out).mono ?_
 rintro e w5 ⟨rfl, hb5⟩
 refine ⟨_, rfl, ?_⟩
 have S5 := Aside0.mk (S4.out.below hb5)
 have BB5 := Aside0.mk (below_step BB4.out hb5)
 have BA5 := Aside0.mk (blk_below BA4.out hb5)
 refine hK.out _ _ ⟨(hb5.cell (World.block_lt_of_cell? _ _ hHeld.1)).trans hHeld.1, (hb5.cell (World.block_lt_of_cell? _ _ hHeld.2.1)).trans hHeld.2.1, (hb5.cell (World.block_lt_of_cell? _ _ hHeld.2.2.1)).trans hHeld.2.2.1, (hb5.cell (World.block_lt_of_cell? _ _ hHeld.2.2.2.1)).trans hHeld.2.2.2.1, (hb5.cell (World.block_lt_of_cell? _ _ hHeld.2.2.2.2)).trans hHeld.2.2.2.2⟩ (fun hHeld => ?_)
 clear hK K
 refine norm_ (a' := ?_) ?_ ?_
 rotate_left
 ·show Act.put _ (some 19) _ = _
  simp only [Act.put, List.setIfInBounds_toArray, List.set_cons_zero, List.set_cons_succ, i64_w, i32_w]
  rfl
 refine one_ (i := 15) (N := some 21) #[true, true, true, true, true, true, true, true, true, true, true, true, true, true, true, true, true, true, true, true, false, false, false] rfl rfl (one_of HT_.out (by kernel_rfl)) (by decide) (fun K hK => ?_)
 refine goes_ Try.func28 (by kernel_rfl) rfl #[.pointer (some ⟨g, 0, none⟩)] (by rfl) rfl rfl (by simp only [List.map_toArray, List.map_cons, List.map_nil]; rfl) ?_
 with_reducible refine (sfirst_s S5.out).mono ?_
 rintro e w6 ⟨rfl, hw6⟩
 refine ⟨_, rfl, ?_⟩
 subst hw6
 rw [← HFS.out]
 refine hK.out _ _ ⟨hHeld.1, hHeld.2.1, hHeld.2.2.1, hHeld.2.2.2.1, hHeld.2.2.2.2⟩ (fun hHeld => ?_)
 clear hK K
 refine norm_ (a' := ?_) ?_ ?_
 rotate_left
 ·show Act.put _ (some 21) _ = _
  simp only [Act.put, List.setIfInBounds_toArray, List.set_cons_zero, List.set_cons_succ, i64_w, i32_w]
  rfl
 refine last_ (i := 20) (N := some 26) #[true, true, true, true, true, true, true, true, true, true, true, true, true, true, true, true, true, true, true, true, true, false, false] rfl rfl (one_of HT_.out (by kernel_rfl)) (by decide) (fun K hK => ?_)
 refine goes_ Try.func24 (by kernel_rfl) rfl #[.int .i64 fst, .int .i64 nx] (by rfl) rfl rfl (by simp only [List.map_toArray, List.map_cons, List.map_nil]; rfl) ?_
 with_reducible refine (serial_Far.calls KK fst nx f2 _ HF2.out).mono ?_
 rintro e w7 ⟨rfl, hb7⟩
 refine ⟨_, rfl, ?_⟩
 have S7 := Aside0.mk (S5.out.below hb7)
 have BB7 := Aside0.mk (below_step BB5.out hb7)
 have BA7 := Aside0.mk (blk_below BA5.out hb7)
 have z3 : w7.cell? ⟨g, 3, none⟩ = some (.slice Ao n co) := (blk_cell S7.out.blk 3).trans rfl
 clear hb7
 refine hK.out _ _ ?_
 clear hK K
 refine norm_ (a' := ?_) ?_ ?_
 rotate_left
 ·show Act.put _ (some 26) _ = _
  simp only [Act.put, List.setIfInBounds_toArray, List.set_cons_zero, List.set_cons_succ, i64_w, i32_w]
  rfl
 refine pure_ (i := 21) (N := some 27) (v := ?_) (a' := ?_) #[true, true, true, true, true, true, true, true, true, true, true, true, true, true, true, true, true, true, true, true, true, true, false] rfl rfl (any_of HT_.out (by kernel_rfl)) (fun _ _ _ h => h) (Or.inl ⟨by rfl, ?_⟩) ?_ ?_
 rotate_left
 ·intro w'
  go_simp
  with_reducible rfl
 rotate_left
 ·simp only [Act.put, List.setIfInBounds_toArray, List.set_cons_zero, List.set_cons_succ, i64_w, i32_w]
  rfl
 refine pure_ (i := 22) (N := some 28) (v := ?_) (a' := ?_) #[true, true, true, true, true, true, true, true, true, true, true, true, true, true, true, true, true, true, true, true, true, true, true] rfl rfl (any_of HT_.out (by kernel_rfl)) (fun _ _ _ h => h) (Or.inl ⟨by rfl, ?_⟩) ?_ ?_
 rotate_left
 ·intro w'
  go_simp
  with_reducible rfl
 rotate_left
 ·simp only [Act.put, List.setIfInBounds_toArray, List.set_cons_zero, List.set_cons_succ, i64_w, i32_w]
  rfl
 refine done_ (done_of HT_.out (by kernel_rfl)) ?_
 cases bq : decide (f1 > f2) with
 | true =>
  have HQ := Aside0.mk (of_decide_eq_true bq)
  go_wp2
  go_ret
  exact .inl ⟨HQ.out, rfl, BB7.out⟩
 | false =>
  have HQ := Aside0.mk (of_decide_eq_false bq)
  go_wp2_with (go_at_call 36; (with_reducible refine (got_del S7.out.rowo (below_size S7.out.bl) HN.out HL.out KK a0 a1 a2 a3 hs BA7.out HH.out (Kd.R_ne S7.out.rowo BA7.out (by decide))).mono ?_); rintro e w8 ⟨m, rfl, hr, hg, hm⟩; have HR8 := Aside0.mk hr; have HG8 := Aside0.mk hg; have HM8 := Aside0.mk hm; have BG8 := Aside0.mk (blk_grown S7.out.blk hg (Kd.R_ne S7.out.rowo S7.out.blk (by decide))); have z38 : w8.cell? ⟨g, 3, none⟩ = some (.slice Ao n co) := (blk_cell BG8.out 3).trans rfl; have zf8 := blk_frozen BG8.out 3; have BG9 := Aside0.mk (blk_put BG8.out 3 (.slice Ao m co) (cs' := SdC wn tr vw (.slice Ao m co) nx) rfl); have z39 : (w8.setCell ⟨g, 3, none⟩ (.slice Ao m co)).cell? ⟨g, 3, none⟩ = some (.slice Ao m co) := (blk_cell BG9.out 3).trans rfl; have hwm : wrap64 ((n : Int) - (m : Int)) = (n : Int) - (m : Int) := w64 (by have := HN.out; have := HL.out; have := HM8.out; have := HLF.out; omega) (by have := HN.out; have := HL.out; omega); clear hr hg hm)
  go_ret
  have hsub : (O.filter (fun o => !goQ hs o)).Sublist O := List.filter_sublist
  refine .inr ⟨HQ.out, by rw [← HN.out, ← HM8.out]; rfl, .slice Ao m co, S7.out.del hsub HR8.out HG8.out ?_, (SX.of_below F _ BB7.out).trans (S7.out.delX hsub HG8.out ?_)⟩
  ·cases Ao <;> rfl
  ·cases Ao <;> rfl
def sgn.T1 : Bool × List (List Nat × List Nat) := (true, [([], []), ([0], [0]), ([1], [1]), ([2], [2]), ([3, 2], [2, 3]), ([4, 2, 2], [2, 4]), ([5, 2], [2, 5]), ([2, 6], [2, 6]), ([7, 5], [7]), ([8], [8]), ([9, 8, 8], [8, 9]), ([8], [8]), ([11, 8], [8, 11]), ([10, 12, 10, 8], [8, 10, 12]), ([8], [8]), ([14, 13, 8], [8, 14]), ([8], [8]), ([16, 8], [8, 16]), ([17, 8], [8, 17]), ([18, 8], [8, 18]), ([15, 19, 15, 8], [8, 15, 19]), ([13, 20, 8], [8, 13, 20]), ([8, 21], [8, 21])])
def sgn.B1 : List Nat := [0, 1, 3, 7, 15, 31, 63, 127, 255, 511, 1023, 511, 2559, 8191, 511, 32767, 511, 66047, 197119, 459263, 1048575, 2097151, 4194303]
theorem sgn.tab1 : rtab .any (opsOf Try.f14 1) = sgn.T1 := by kernel_rfl
theorem sgn.bits1 : waitsOk sgn.T1.2 sgn.B1 = true := by kernel_rfl
theorem wire_Int_eq (v : Int) : wire_Int.f v = some (intSpec v) := by
 unfold wire_Int.f wire_bytes.f intSpec
 rw [wrap_u64, if_pos (by omega)]
 rfl
theorem intSpec_length (v : Int) : (intSpec v).length = 8 := be_length _ _
theorem ob_no (a0 a1 : Int) (a2 : Bool) (a3 a4 a5 a6 a7 a8 a9 a10 a11 c : Int) (h : Ev (fun k => object_Check.f k a0 a1 a2 a3 a4 a5 a6 a7 a8 a9 a10 a11) c) (hc : c ≠ 0) :
  Ev (fun k => object_Bytes.f k a0 a1 a2 a3 a4 a5 a6 a7 a8 a9 a10 a11) ([], c) := by
 unfold object_Bytes.f
 refine Ev.bind h ?_
 simp only [if_neg hc]
 exact Ev.now _
theorem os_ev (a0 a1 : Int) (a2 : Bool) (a3 a4 a5 a6 a7 a8 a9 a10 a11 : Int) (out : List Int × Int) (h : Ev (fun k => object_Bytes.f k a0 a1 a2 a3 a4 a5 a6 a7 a8 a9 a10 a11) out) :
  Ev (fun k => object_Size.f k a0 a1 a2 a3 a4 a5 a6 a7 a8 a9 a10 a11) (out.1.length : Int) := by
 unfold object_Size.f
 exact Ev.bind h (Ev.now _)
def RH (n : Bool) (a b c d e : Int) : Prop := (0 ≤ e ∧ e < 64) ∧ ((n = true ∧ a = 0 ∧ b = 0 ∧ c = 0 ∧ d = 0) ∨ (n = false ∧ 0 ≤ a ∧ a ≤ 4611686018427387903 ∧ 0 ≤ b ∧ b < 64 ∧ 0 ≤ c ∧ c ≤ 1 ∧ -1099511627776 ≤ d ∧ d ≤ 1099511627776))
instance (n : Bool) (a b c d e : Int) : Decidable (RH n a b c d e) := by unfold RH; infer_instance
theorem hj_eq (k : Nat) (n x : Bool) (a b c d e : Int) : height_Check.j0 (k + 1) x n a b c d e = some (if x = true ∧ ((n = true ∧ a = 0 ∧ b = 0 ∧ c = 0 ∧ d = 0) ∨ (n = false ∧ 0 ≤ a ∧ a ≤ 4611686018427387903 ∧ 0 ≤ b ∧ b < 64 ∧ 0 ≤ c ∧ c ≤ 1 ∧ -1099511627776 ≤ d ∧ d ≤ 1099511627776)) then 0 else 1) := by
 simp only [height_Check.j0, height_Null.f, Option.bind_some]
 cases n <;> cases x <;> simp only [Bool.true_and, beq_self_eq_true, Bool.and_true, Bool.and_eq_true, beq_iff_eq, if_true, Bool.false_eq_true, if_false, true_and, false_and, or_false, false_or, Bool.true_eq_false, reduceCtorEq]
 ·repeat' split
  all_goals first
   | rfl
   | (exfalso; omega)
 ·by_cases h : a = 0 ∧ b = 0 ∧ c = 0 ∧ d = 0
  ·rw [if_pos h, if_pos h]
  ·rw [if_neg h, if_neg h]
theorem hc_eq (n : Bool) (a b c d e : Int) : Ev (fun k => height_Check.f k n a b c d e) (if RH n a b c d e then 0 else 1) := by
 unfold height_Check.f
 refine Ev.from 1 fun k => ?_
 rw [hj_eq, hj_eq]
 unfold RH
 by_cases h : e ≥ 0
 ·rw [if_pos h]
  congr 1
  have h0 : 0 ≤ e := h
  simp only [decide_eq_true_eq, h0, true_and]
 ·rw [if_neg h]
  have : ¬ 0 ≤ e := h
  simp only [this, false_and, Bool.false_eq_true]
theorem ha_eq (a b c d e : Int) : ∃ t : Bool × Int × Int × Int × Int × Int × Int, Ev (fun k => height_At.f k a b c d e) t ∧ t.2.2.2.2.2.2 = (if RH false a b c d e then 0 else 1) := by
 unfold height_At.f
 by_cases h : RH false a b c d e
 ·have := hc_eq false a b c d e
  rw [if_pos h] at this
  rw [if_pos h]
  exact ⟨(false, a, b, c, d, e, 0), Ev.bind this (by simp only [if_true]; exact Ev.now _), rfl⟩
 ·have := hc_eq false a b c d e
  rw [if_neg h] at this
  rw [if_neg h]
  exact ⟨(false, 0, 0, 0, 0, 0, 1), Ev.bind this (by simp only [if_neg (show ¬ (1 : Int) = 0 by decide)]; exact Ev.now _), rfl⟩
theorem ev_eq {α : Type} {g : Nat → Option α} {a b : α} (h : Ev g a) (e : a = b) : Ev g b := e ▸ h
def RO (a0 a1 : Int) (a2 : Bool) (a3 a4 a5 a6 a7 a8 a9 a10 a11 : Int) : Prop := (0 ≤ a1 ∧ a1 < 64) ∧
  ((a0 = 1 ∧ (a8 = 0 ∧ a9 = 0 ∧ a10 = 0) ∧ (a2 = false ∧ a3 = 0 ∧ a4 = 0 ∧ a5 = 0 ∧ a6 = 0 ∧ a7 = 0) ∧ a11 = 0) ∨
   (a0 = 2 ∧ (a8 = 0 ∧ a9 = 0 ∧ a10 = 0) ∧ a11 = 0 ∧ RH a2 a3 a4 a5 a6 a7) ∨
   (a0 = 3 ∧ (a2 = false ∧ a3 = 0 ∧ a4 = 0 ∧ a5 = 0 ∧ a6 = 0 ∧ a7 = 0) ∧ a11 = 0 ∧ RH false a8 a9 a10 0 0) ∨
   (a0 = 4 ∧ (a8 = 0 ∧ a9 = 0 ∧ a10 = 0) ∧ 0 ≤ a11 ∧ a11 ≤ 65535 ∧ RH a2 a3 a4 a5 a6 a7 ∧ a2 = false))
instance (a0 a1 : Int) (a2 : Bool) (a3 a4 a5 a6 a7 a8 a9 a10 a11 : Int) : Decidable (RO a0 a1 a2 a3 a4 a5 a6 a7 a8 a9 a10 a11) := by unfold RO; infer_instance
theorem oj1_eq (x4 : Bool) (a0 a1 : Int) (a2 : Bool) (a3 a4 a5 a6 a7 a8 a9 a10 a11 : Int) (b2 : Bool) (b3 b4 b5 b6 b7 b8 b9 b10 b11 : Int) :
  Ev (fun k => object_Check.j1 k x4 a0 a1 a2 a3 a4 a5 a6 a7 a8 a9 a10 a11 0 0 b2 b3 b4 b5 b6 b7 b8 b9 b10 b11) (if x4 = true ∧ RH a2 a3 a4 a5 a6 a7 ∧ (b8 = 0 ∧ b9 = 0 ∧ b10 = 0) ∧ b11 = 0 then 0 else 1) := by
 refine Ev.step (f := fun k => _) (fun k => by simp only [object_Check.j1]; rfl) ?_
 cases x4 with
 | false => simp only [Bool.false_eq_true, if_false, false_and]; exact Ev.now _
 | true =>
  simp only [if_true, true_and]
  refine Ev.bind (hc_eq a2 a3 a4 a5 a6 a7) ?_
  by_cases h : RH a2 a3 a4 a5 a6 a7
  ·simp only [if_pos h, if_true, h, true_and]
   by_cases g : (b8 = 0 ∧ b9 = 0 ∧ b10 = 0) ∧ b11 = 0
   ·obtain ⟨⟨rfl, rfl, rfl⟩, rfl⟩ := g
    simp only [and_self, if_true]
    exact Ev.now _
   ·rw [if_neg g]
    have : (!((0 : Int) == 0) || (!((0 : Int) == 0) || ((!(b8 == 0) || (!(b9 == 0) || (!(b10 == 0)))) || (!(b11 == 0))))) = true := by
     rw [← Bool.not_eq_false]
     intro hf
     simp only [Bool.or_eq_false_iff, Bool.not_eq_false', beq_iff_eq] at hf
     exact g ⟨⟨hf.2.2.1.1, hf.2.2.1.2.1, hf.2.2.1.2.2⟩, hf.2.2.2⟩
    simp only [if_pos this]
    exact Ev.now _
  ·simp only [if_neg h, h, false_and, if_false, show ¬ (1 : Int) = 0 by decide]
   exact Ev.now _
theorem oc_eq (a0 a1 : Int) (a2 : Bool) (a3 a4 a5 a6 a7 a8 a9 a10 a11 : Int) : Ev (fun k => object_Check.f k a0 a1 a2 a3 a4 a5 a6 a7 a8 a9 a10 a11) (if RO a0 a1 a2 a3 a4 a5 a6 a7 a8 a9 a10 a11 then 0 else 1) := by
  have hj : ∀ x : Bool, Ev (fun k => object_Check.j0 k x a0 a1 a2 a3 a4 a5 a6 a7 a8 a9 a10 a11 0 0 a2 a3 a4 a5 a6 a7 a8 a9 a10 a11) (if x = true ∧
    ((a0 = 1 ∧ (a8 = 0 ∧ a9 = 0 ∧ a10 = 0) ∧ (a2 = false ∧ a3 = 0 ∧ a4 = 0 ∧ a5 = 0 ∧ a6 = 0 ∧ a7 = 0) ∧ a11 = 0) ∨
     (a0 = 2 ∧ (a8 = 0 ∧ a9 = 0 ∧ a10 = 0) ∧ a11 = 0 ∧ RH a2 a3 a4 a5 a6 a7) ∨
     (a0 = 3 ∧ (a2 = false ∧ a3 = 0 ∧ a4 = 0 ∧ a5 = 0 ∧ a6 = 0 ∧ a7 = 0) ∧ a11 = 0 ∧ RH false a8 a9 a10 0 0) ∨
     (a0 = 4 ∧ (a8 = 0 ∧ a9 = 0 ∧ a10 = 0) ∧ 0 ≤ a11 ∧ a11 ≤ 65535 ∧ RH a2 a3 a4 a5 a6 a7 ∧ a2 = false)) then 0 else 1) := by
    intro x
    refine Ev.step (f := fun k => _) (fun k => by simp only [object_Check.j0]; rfl) ?_
    by_cases h1 : a0 = 1
    · subst h1
      simp only [if_true, show ¬ (1 : Int) = 2 by decide, show ¬ (1 : Int) = 3 by decide, show ¬ (1 : Int) = 4 by decide, false_and, or_false, true_and]
      cases x with
      | false => simp only [Bool.false_eq_true, if_false, false_and]; exact Ev.now _
      | true =>
        simp only [if_true, true_and]
        by_cases g : (a8 = 0 ∧ a9 = 0 ∧ a10 = 0) ∧ (a2 = false ∧ a3 = 0 ∧ a4 = 0 ∧ a5 = 0 ∧ a6 = 0 ∧ a7 = 0) ∧ a11 = 0
        · rw [if_pos g]
          obtain ⟨⟨rfl, rfl, rfl⟩, ⟨rfl, rfl, rfl, rfl, rfl, rfl⟩, rfl⟩ := g
          exact Ev.now _
        · rw [if_neg g]
          have : (!((0 : Int) == 0) || (!((0 : Int) == 0) || ((a2 || (!(a3 == 0) || (!(a4 == 0) || (!(a5 == 0) || (!(a6 == 0) || (!(a7 == 0))))))) || ((!(a8 == 0) || (!(a9 == 0) || (!(a10 == 0)))) || (!(a11 == 0)))))) = true := by
            rw [← Bool.not_eq_false]
            intro hf
            simp only [Bool.or_eq_false_iff, Bool.not_eq_false', beq_iff_eq] at hf
            obtain ⟨_, _, ⟨u2, u3, u4, u5, u6, u7⟩, ⟨u8, u9, u10⟩, u11⟩ := hf
            exact g ⟨⟨u8, u9, u10⟩, ⟨u2, u3, u4, u5, u6, u7⟩, u11⟩
          simp only [if_pos this]
          exact Ev.now _
    by_cases h4 : a0 = 4
    · subst h4
      simp only [if_true, if_neg h1, show ¬ (4 : Int) = 1 by decide, show ¬ (4 : Int) = 2 by decide, show ¬ (4 : Int) = 3 by decide, false_and, false_or, true_and]
      cases x with
      | false =>
        simp only [Bool.false_eq_true, if_false, false_and]
        refine ev_eq (oj1_eq _ _ _ _ _ _ _ _ _ _ _ _ _ _ _ _ _ _ _ _ _ _ _) ?_
        simp only [Bool.false_eq_true, false_and, if_false]
      | true =>
        simp only [if_true, true_and]
        cases a2 with
        | true =>
          simp only [if_true, Bool.true_eq_false, and_false, if_false]
          refine ev_eq (oj1_eq _ _ _ _ _ _ _ _ _ _ _ _ _ _ _ _ _ _ _ _ _ _ _) ?_
          simp only [Bool.false_eq_true, false_and, if_false]
        | false =>
          simp only [Bool.false_eq_true, if_false, and_true]
          by_cases g : a11 ≥ 0
          · simp only [if_pos g]
            refine ev_eq (oj1_eq _ _ _ _ _ _ _ _ _ _ _ _ _ _ _ _ _ _ _ _ _ _ _) ?_
            have g0 : 0 ≤ a11 := g
            simp only [decide_eq_true_eq, g0, true_and, and_true]
            congr 1
            apply propext
            constructor
            · rintro ⟨u, v, w⟩; exact ⟨w, u, v⟩
            · rintro ⟨w, u, v⟩; exact ⟨u, v, w⟩
          · simp only [if_neg g]
            refine ev_eq (oj1_eq _ _ _ _ _ _ _ _ _ _ _ _ _ _ _ _ _ _ _ _ _ _ _) ?_
            have g' : ¬ 0 ≤ a11 := g
            simp only [g', Bool.false_eq_true, false_and, and_false, if_false]
    by_cases h2 : a0 = 2
    · subst h2
      simp only [if_neg h1, if_neg h4, if_true, show ¬ (2 : Int) = 1 by decide, show ¬ (2 : Int) = 4 by decide, show ¬ (2 : Int) = 3 by decide, false_and, false_or, or_false, true_and]
      refine ev_eq (oj1_eq _ _ _ _ _ _ _ _ _ _ _ _ _ _ _ _ _ _ _ _ _ _ _) ?_
      congr 1
      apply propext
      constructor
      · rintro ⟨u, v, w, z⟩; exact ⟨u, w, z, v⟩
      · rintro ⟨u, w, z, v⟩; exact ⟨u, v, w, z⟩
    by_cases h3 : a0 = 3
    · subst h3
      simp only [if_neg h1, if_neg h4, if_neg h2, if_true, show ¬ (3 : Int) = 1 by decide, show ¬ (3 : Int) = 4 by decide, show ¬ (3 : Int) = 2 by decide, false_and, false_or, or_false, true_and]
      obtain ⟨t, ht, he⟩ := ha_eq a8 a9 a10 0 0
      refine Ev.bind ht ?_
      rw [he]
      cases x with
      | false => simp only [Bool.false_eq_true, if_false, false_and]; exact Ev.now _
      | true =>
        simp only [if_true, true_and]
        by_cases h : RH false a8 a9 a10 0 0
        · simp only [if_pos h, h, if_true, and_true]
          by_cases g : (a2 = false ∧ a3 = 0 ∧ a4 = 0 ∧ a5 = 0 ∧ a6 = 0 ∧ a7 = 0) ∧ a11 = 0
          · rw [if_pos g]
            obtain ⟨⟨rfl, rfl, rfl, rfl, rfl, rfl⟩, rfl⟩ := g
            exact Ev.now _
          · rw [if_neg g]
            have : (!((0 : Int) == 0) || (!((0 : Int) == 0) || ((a2 || (!(a3 == 0) || (!(a4 == 0) || (!(a5 == 0) || (!(a6 == 0) || (!(a7 == 0))))))) || (!(a11 == 0))))) = true := by
              rw [← Bool.not_eq_false]
              intro hf
              simp only [Bool.or_eq_false_iff, Bool.not_eq_false', beq_iff_eq] at hf
              obtain ⟨_, _, ⟨u2, u3, u4, u5, u6, u7⟩, u11⟩ := hf
              exact g ⟨⟨u2, u3, u4, u5, u6, u7⟩, u11⟩
            simp only [if_pos this]
            exact Ev.now _
        · simp only [if_neg h, h, show ¬ (1 : Int) = 0 by decide, if_false, and_false]
          exact Ev.now _
    · simp only [if_neg h1, if_neg h4, if_neg h2, if_neg h3, h1, h2, h3, h4, false_and, or_false, and_false, if_false]
      exact Ev.now _
  unfold object_Check.f RO
  by_cases h : a1 ≥ 0
  · simp only [if_pos h]
    refine ev_eq (hj _) ?_
    have g0 : 0 ≤ a1 := h
    simp only [decide_eq_true_eq, g0, true_and]
  · simp only [if_neg h]
    refine ev_eq (hj _) ?_
    have h' : ¬ 0 ≤ a1 := h
    simp only [h', Bool.false_eq_true, false_and, and_false, if_false]
def hB (n : Bool) (a b c d e : Int) : List Int := if n = true then [0, e % 256] else [1] ++ intSpec a ++ [b % 256, c % 256] ++ intSpec d ++ [e % 256]
theorem hB_length (n : Bool) (a b c d e : Int) : (hB n a b c d e).length = if n = true then 2 else 20 := by
 unfold hB
 cases n
 ·simp only [Bool.false_eq_true, if_false, List.length_append, intSpec_length, List.length_cons, List.length_nil]
 ·rfl
theorem hb_eq (n : Bool) (a b c d e : Int) (h : RH n a b c d e) : Ev (fun k => height_Bytes.f k n a b c d e) (hB n a b c d e, 0) := by
 have hc := hc_eq n a b c d e
 rw [if_pos h] at hc
 unfold height_Bytes.f hB
 refine Ev.bind hc ?_
 cases n with
 | true =>
  simp only [if_true, List.length_nil, List.nil_append, Option.bind_some, List.length_singleton]
  simp only [show (0 : Nat) < 140737488355328 by decide, show (1 : Nat) < 140737488355328 by decide, if_true]
  exact Ev.now _
 | false =>
  simp only [if_true, Bool.false_eq_true, if_false, List.length_nil, List.nil_append, Option.bind_some, List.length_singleton, wire_Int_eq, List.length_append, intSpec_length, List.length_cons]
  simp only [show (0 : Nat) < 140737488355328 by decide, Nat.reduceAdd, Nat.reduceLT, if_true]
  exact Ev.now _
def oB (a0 a1 : Int) (a2 : Bool) (a3 a4 a5 a6 a7 a8 a9 a10 a11 : Int) : List Int :=
 [a0 % 256, a1 % 256] ++ (if a0 = 1 then [] else if a0 = 3 then intSpec a8 ++ [a9 % 256, a10 % 256] else if a0 = 4 then hB a2 a3 a4 a5 a6 a7 ++ [a11 / 256 % 256, a11 % 256] else hB a2 a3 a4 a5 a6 a7)
theorem obx (a0 a1 : Int) (a2 : Bool) (a3 a4 a5 a6 a7 a8 a9 a10 a11 : Int) (h : RO a0 a1 a2 a3 a4 a5 a6 a7 a8 a9 a10 a11) :
  Ev (fun k => object_Bytes.f k a0 a1 a2 a3 a4 a5 a6 a7 a8 a9 a10 a11) (oB a0 a1 a2 a3 a4 a5 a6 a7 a8 a9 a10 a11, 0) := by
 have hc := oc_eq a0 a1 a2 a3 a4 a5 a6 a7 a8 a9 a10 a11
 rw [if_pos h] at hc
 unfold object_Bytes.f
 refine Ev.bind hc ?_
 simp only [if_true, Option.bind_some]
 rcases h.2 with ⟨rfl, _⟩ | ⟨rfl, _, _, hh⟩ | ⟨rfl, _⟩ | ⟨rfl, _, _, _, hh, rfl⟩
 ·simp only [if_neg (show ¬ (1 : Int) = 2 by decide), show ((1 : Int) == 4) = false by decide]
  refine Ev.step (f := fun k => _) (fun k => by simp only [object_Bytes.j0]; rfl) ?_
  simp only [Bool.false_eq_true, if_false, if_neg (show ¬ (1 : Int) = 3 by decide), if_neg (show ¬ (1 : Int) = 4 by decide)]
  exact Ev.now _
 ·simp only [show ((2 : Int) == 2) = true by decide, if_true]
  refine Ev.step (f := fun k => _) (fun k => by simp only [object_Bytes.j0]; rfl) ?_
  simp only [if_true]
  refine Ev.bind (hb_eq _ _ _ _ _ _ hh) ?_
  have hl := hB_length a2 a3 a4 a5 a6 a7
  have : [2 % 256, a1 % 256].length + (hB a2 a3 a4 a5 a6 a7).length < 140737488355328 := by rw [hl]; simp; split <;> omega
  simp only [if_true, if_pos this, Option.bind_some, if_neg (show ¬ (2 : Int) = 4 by decide)]
  exact Ev.now _
 ·simp only [if_neg (show ¬ (3 : Int) = 2 by decide), show ((3 : Int) == 4) = false by decide]
  refine Ev.step (f := fun k => _) (fun k => by simp only [object_Bytes.j0]; rfl) ?_
  simp only [Bool.false_eq_true, if_false, if_true, wire_Int_eq, Option.bind_some, List.length_append, intSpec_length, List.length_cons, List.length_nil, Nat.reduceAdd, Nat.reduceLT, if_neg (show ¬ (3 : Int) = 4 by decide)]
  refine ev_eq (Ev.now _) ?_
  unfold oB
  rw [if_neg (show ¬ (3 : Int) = 1 by decide), if_pos rfl, List.append_assoc]
 ·simp only [if_neg (show ¬ (4 : Int) = 2 by decide), show ((4 : Int) == 4) = true by decide]
  refine Ev.step (f := fun k => _) (fun k => by simp only [object_Bytes.j0]; rfl) ?_
  simp only [if_true]
  refine Ev.bind (hb_eq _ _ _ _ _ _ hh) ?_
  have h20 : (hB false a3 a4 a5 a6 a7).length = 20 := by rw [hB_length]; rfl
  simp only [List.length_append, List.length_cons, List.length_nil, h20, Nat.reduceAdd, Nat.reduceLT, if_true, Option.bind_some]
  refine ev_eq (Ev.now _) ?_
  unfold oB
  rw [if_neg (show ¬ (4 : Int) = 1 by decide), if_neg (show ¬ (4 : Int) = 3 by decide), if_pos rfl, List.append_assoc]
theorem obn (a0 a1 : Int) (a2 : Bool) (a3 a4 a5 a6 a7 a8 a9 a10 a11 : Int) (h : ¬ RO a0 a1 a2 a3 a4 a5 a6 a7 a8 a9 a10 a11) :
  Ev (fun k => object_Bytes.f k a0 a1 a2 a3 a4 a5 a6 a7 a8 a9 a10 a11) ([], 1) := by
 have hc := oc_eq a0 a1 a2 a3 a4 a5 a6 a7 a8 a9 a10 a11
 rw [if_neg h] at hc
 exact ob_no _ _ _ _ _ _ _ _ _ _ _ _ _ hc (by decide)
end Go.Proofs.Ytclbempnhelmoaa.P
namespace Go.Proofs.Ytclbempnhelmoaa.P
open Go.RowKit YtclbempnhelmoaaW.PrintWords YtclbempnhelmoaaW.PrintLast YtclbempnhelmoaaW.PrintMore
open Classical
theorem bool_same0' {p q : Prop} [Decidable p] [Decidable q] (h : p ↔ q) : (decide p) = (decide q) := by
 by_cases hp : p
 ·rw [decide_eq_true hp, decide_eq_true (h.mp hp)]
 ·rw [decide_eq_false hp, decide_eq_false (fun hq => hp (h.mpr hq))]
def OR (o : S34) : Prop := RO o.f0 o.f1 o.f2.f0 o.f2.f1 o.f2.f2 o.f2.f3 o.f2.f4 o.f2.f5 o.f3.f0 o.f3.f1 o.f3.f2 o.f4
def OB (o : S34) : List Int := oB o.f0 o.f1 o.f2.f0 o.f2.f1 o.f2.f2 o.f2.f3 o.f2.f4 o.f2.f5 o.f3.f0 o.f3.f1 o.f3.f2 o.f4
noncomputable def sz (o : S34) : Int := if OR o then ((OB o).length : Int) else 0
theorem sz_yes {o : S34} (h : OR o) : sz o = ((OB o).length : Int) := if_pos h
theorem sz_no {o : S34} (h : ¬ OR o) : sz o = 0 := if_neg h
theorem OB_length (o : S34) : 2 ≤ (OB o).length ∧ (OB o).length ≤ 24 := by
 unfold OB oB
 rw [List.length_append]
 have h := hB_length o.f2.f0 o.f2.f1 o.f2.f2 o.f2.f3 o.f2.f4 o.f2.f5
 have h2 : (hB o.f2.f0 o.f2.f1 o.f2.f2 o.f2.f3 o.f2.f4 o.f2.f5).length ≤ 20 := by rw [h]; split <;> omega
 simp only [List.length_cons, List.length_nil]
 split
 ·simp
 split
 ·simp [intSpec_length]
 split
 ·simp only [List.length_append, List.length_cons, List.length_nil]; omega
 ·omega
theorem sz_range (o : S34) : 0 ≤ sz o ∧ sz o ≤ 24 := by
 have := OB_length o
 by_cases h : OR o
 ·rw [sz_yes h]; omega
 ·rw [sz_no h]; omega
noncomputable def sums (l : List S34) : Int := (l.map sz).sum
theorem sums_nil : sums [] = 0 := rfl
theorem sums_cons (o : S34) (l : List S34) : sums (o :: l) = sz o + sums l := by simp [sums]
theorem sums_append (l m : List S34) : sums (l ++ m) = sums l + sums m := by simp [sums]
theorem sums_range (l : List S34) : 0 ≤ sums l ∧ sums l ≤ 24 * l.length := by
 induction l with
 | nil => simp [sums]
 | cons o l ih => have := sz_range o; rw [sums_cons, List.length_cons]; omega
def Rights (l : List S34) : Prop := ∀ o ∈ l, OR o
theorem obs_get (l : List S34) (i : Int) (h0 : 0 ≤ i) (h1 : i < l.length) : l.drop i.toNat = rd_T34 l i :: l.drop (i + 1).toNat := by
 have hi : i.toNat < l.length := by omega
 rw [List.drop_eq_getElem_cons hi, show (i + 1).toNat = i.toNat + 1 by omega]
 congr 1
 unfold rd_T34
 rw [List.getD_eq_getElem?_getD, List.getElem?_eq_getElem hi]
 rfl
theorem size_ev (o : S34) : Ev (fun k => object_Size.f k o.f0 o.f1 o.f2.f0 o.f2.f1 o.f2.f2 o.f2.f3 o.f2.f4 o.f2.f5 o.f3.f0 o.f3.f1 o.f3.f2 o.f4) (sz o) := by
 by_cases h : OR o
 ·rw [sz_yes h]
  exact os_ev _ _ _ _ _ _ _ _ _ _ _ _ _ (obx _ _ _ _ _ _ _ _ _ _ _ _ h)
 ·rw [sz_no h]
  exact os_ev _ _ _ _ _ _ _ _ _ _ _ _ _ (obn _ _ _ _ _ _ _ _ _ _ _ _ h)
theorem wrong_ev (o : S34) : Ev (fun k => batch_wrong.f k o.f0 o.f1 o.f2.f0 o.f2.f1 o.f2.f2 o.f2.f3 o.f2.f4 o.f2.f5 o.f3.f0 o.f3.f1 o.f3.f2 o.f4) (decide (¬ OR o)) := by
 unfold batch_wrong.f
 by_cases h : OR o
 ·have hc := oc_eq o.f0 o.f1 o.f2.f0 o.f2.f1 o.f2.f2 o.f2.f3 o.f2.f4 o.f2.f5 o.f3.f0 o.f3.f1 o.f3.f2 o.f4
  rw [if_pos (show RO _ _ _ _ _ _ _ _ _ _ _ _ from h)] at hc
  refine Ev.bind hc (ev_eq (Ev.now _) ?_)
  rw [decide_eq_false (fun g => g h)]
  rfl
 ·have hc := oc_eq o.f0 o.f1 o.f2.f0 o.f2.f1 o.f2.f2 o.f2.f3 o.f2.f4 o.f2.f5 o.f3.f0 o.f3.f1 o.f3.f2 o.f4
  rw [if_neg (show ¬ RO _ _ _ _ _ _ _ _ _ _ _ _ from h)] at hc
  refine Ev.bind hc (ev_eq (Ev.now _) ?_)
  rw [decide_eq_true h]
  rfl
theorem index_l0 (l : List S34) (hn : l.length ≤ 100000) : ∀ (d : Nat) (i : Int), 0 ≤ i → (l.length : Int) - i = d → ∃ r : Int, Ev (fun k => api_Object_66.l0 k l (l.length : Int) i) r ∧ (r ≥ 0 ↔ ¬ Rights (l.drop i.toNat)) := by
 intro d
 induction d with
 | zero =>
  intro i h0 hd
  refine ⟨-1, Ev.from 1 fun k => ?_, ?_⟩
  ·simp only [api_Object_66.l0]
   rw [if_neg (by omega)]
  ·rw [List.drop_eq_nil_of_le (by omega)]
   constructor
   ·intro h; omega
   ·intro h; exact absurd (fun o ho => by cases ho) h
 | succ d ih =>
  intro i h0 hd
  have h1 : i < (l.length : Int) := by omega
  rw [obs_get l i h0 h1]
  by_cases h : OR (rd_T34 l i)
  ·obtain ⟨r, hr, hi⟩ := ih (i + 1) (by omega) (by omega)
   refine ⟨r, ?_, ?_⟩
   ·refine Ev.step (f := fun k => _) (fun k => by simp only [api_Object_66.l0]; rfl) ?_
    simp only [if_pos h1, if_pos h0]
    refine Ev.bind (wrong_ev (rd_T34 l i)) ?_
    simp only [decide_eq_false (fun g : ¬ OR (rd_T34 l i) => g h), Bool.false_eq_true, if_false, w64 (x := i + 1) (by omega) (by omega)]
    exact hr
   ·rw [hi]
    constructor
    ·intro g g2; exact g fun o ho => g2 o (List.mem_cons_of_mem _ ho)
    ·intro g g2
     refine g fun o ho => ?_
     rcases List.mem_cons.1 ho with rfl | ho
     ·exact h
     ·exact g2 o ho
  ·refine ⟨i, ?_, ?_⟩
   ·refine Ev.step (f := fun k => _) (fun k => by simp only [api_Object_66.l0]; rfl) ?_
    simp only [if_pos h1, if_pos h0]
    refine Ev.bind (wrong_ev (rd_T34 l i)) ?_
    simp only [decide_eq_true h, if_true]
    exact Ev.now _
   ·exact ⟨fun _ g => h (g _ List.mem_cons_self), fun _ => h0⟩
theorem contains_ev (l : List S34) (hn : l.length ≤ 100000) : Ev (fun k => api_Object_50.f k l) (decide (¬ Rights l)) := by
 obtain ⟨r, hr, hi⟩ := index_l0 l hn l.length 0 (by omega) (by omega)
 unfold api_Object_50.f
 refine Ev.bind (show Ev (fun k => api_Object_66.f k l) r from hr) (ev_eq (Ev.now _) ?_)
 exact bool_same0' hi
def RB (a : Int) (l : List S34) : Prop := (0 ≤ a ∧ a ≤ 65535) ∧ (1 ≤ l.length ∧ l.length ≤ 32) ∧ Rights l ∧ 3 + sums l ≤ 512
end Go.Proofs.Ytclbempnhelmoaa.P
namespace Go.Proofs.Ytclbempnhelmoaa.P
open Classical
open Go.RowKit YtclbempnhelmoaaW.PrintWords YtclbempnhelmoaaW.PrintLast YtclbempnhelmoaaW.PrintMore
def nx (n : Int) : Int := (n + 1) % 65536
theorem next_eq (n : Int) (h : -9223372036854775808 ≤ n ∧ n ≤ 9223372036854775807) : serial_Next.f n = some (nx n) := by
 unfold serial_Next.f nx
 have hu : ∀ x : Int, IntKind.u16.wrap x = x % 65536 := fun x => by simp [IntKind.wrap, IntKind.bits, IntKind.signed]
 rw [hu, hu, w64 (by omega) (by omega)]
 congr 1
 omega
def fit (most : Int) (cur : List S34) (o : S34) : Prop := 3 + sums cur + sz o ≤ most ∧ cur.length < 32
noncomputable def packGo (most : Int) : List S34 → Int → List S34 → List S48
 | [], n, cur => if cur = [] then [] else [⟨n, cur⟩]
 | o :: l, n, cur => if fit most cur o then packGo most l n (cur ++ [o]) else ⟨n, cur⟩ :: packGo most l (nx n) [o]
theorem pack_nil (most n : Int) (cur : List S34) (h : cur ≠ []) : packGo most [] n cur = [⟨n, cur⟩] := by unfold packGo; rw [if_neg h]
theorem pack_nil0 (most n : Int) : packGo most [] n [] = [] := by unfold packGo; rw [if_pos rfl]
theorem pack_fit {most n : Int} {o : S34} {l cur : List S34} (h : fit most cur o) : packGo most (o :: l) n cur = packGo most l n (cur ++ [o]) := by rw [packGo, if_pos h]
theorem pack_new {most n : Int} {o : S34} {l cur : List S34} (h : ¬ fit most cur o) : packGo most (o :: l) n cur = ⟨n, cur⟩ :: packGo most l (nx n) [o] := by rw [packGo, if_neg h]
theorem fit_nil {most : Int} (h : 40 ≤ most) (o : S34) : fit most [] o := by
 have := sz_range o
 exact ⟨by rw [sums_nil]; omega, by simp⟩
theorem and16 (n : Int) (_h : -9223372036854775808 ≤ n ∧ n ≤ 9223372036854775807) : Go.bits .and .i64 n 65535 = n % 65536 := by
 show IntKind.i64.wrap ((BitVec.ofInt 64 n &&& BitVec.ofInt 64 65535).toNat : Int) = _
 rw [BitVec.toNat_and, BitVec.toNat_ofInt, show (BitVec.ofInt 64 65535).toNat = 2 ^ 16 - 1 from rfl, Nat.and_two_pow_sub_one_eq_mod, IntKind.wrap_i64]
 omega
theorem pack_l0 (l : List S34) (hn : l.length ≤ 2000) (most : Int) (hm : 40 ≤ most ∧ most ≤ 512) : ∀ (d : Nat) (i : Int) (out : List S48) (n : Int) (cur : List S34), 0 ≤ i → (l.length : Int) - i = d → (out.length : Int) ≤ i → cur.length ≤ 32 → 0 ≤ n → n ≤ 65535 → (cur = [] → i = 0) →
  Ev (fun k => batch_Pack.l0 k l most out (most - 3 - sums cur) l (l.length : Int) i n cur) (out ++ packGo most (l.drop i.toNat) n cur, 0) := by
 intro d
 induction d with
 | zero =>
  intro i out n cur h0 hd ho hc n0 n1 hz
  refine Ev.from 1 fun k => ?_
  simp only [batch_Pack.l0]
  rw [if_neg (by omega), List.drop_eq_nil_of_le (by omega)]
  by_cases h : cur = []
  ·subst h
   rw [pack_nil0]
   simp
  ·rw [pack_nil _ _ _ h, if_pos (by have := List.length_pos_iff.2 h; omega), if_pos (by omega)]
 | succ d ih =>
  intro i out n cur h0 hd ho hc n0 n1 hz
  have h1 : i < (l.length : Int) := by omega
  have hs := sz_range (rd_T34 l i)
  have hr := sums_range cur
  have hnx : 0 ≤ nx n ∧ nx n ≤ 65535 := by unfold nx; omega
  refine Ev.step (f := fun k => _) (fun k => by simp only [batch_Pack.l0]; rfl) ?_
  rw [obs_get l i h0 h1]
  simp only [if_pos h1, if_pos h0]
  refine Ev.bind (size_ev (rd_T34 l i)) ?_
  have hnew : ¬ fit most cur (rd_T34 l i) → Ev (fun k => (serial_Next.f n).bind fun t => batch_Pack.l0 k l most (out ++ [⟨n, cur⟩]) (wrap64 ((wrap64 (most - 3)) - sz (rd_T34 l i))) l (l.length : Int) (wrap64 (i + 1)) t [rd_T34 l i]) (out ++ packGo most (rd_T34 l i :: l.drop (i + 1).toNat) n cur, 0) := by
   intro hf
   rw [pack_new hf, show out ++ (⟨n, cur⟩ : S48) :: packGo most (l.drop (i + 1).toNat) (nx n) [rd_T34 l i] = (out ++ [⟨n, cur⟩]) ++ packGo most (l.drop (i + 1).toNat) (nx n) [rd_T34 l i] by simp]
   simp only [next_eq n (by omega), Option.bind_some, w64 (x := most - 3) (by omega) (by omega), w64 (x := most - 3 - sz (rd_T34 l i)) (by omega) (by omega), w64 (x := i + 1) (by omega) (by omega)]
   have := ih (i + 1) (out ++ [⟨n, cur⟩]) (nx n) [rd_T34 l i] (by omega) (by omega) (by simp; omega) (by simp) hnx.1 hnx.2 (by simp)
   rw [sums_cons, sums_nil, Int.add_zero] at this
   exact this
  have hout : out.length < 4398046511104 := by omega
  by_cases c1 : sz (rd_T34 l i) ≤ most - 3 - sums cur
  ·simp only [if_pos c1]
   by_cases c2 : (cur.length : Int) < 32
   ·have hf : fit most cur (rd_T34 l i) := ⟨by omega, by omega⟩
    rw [pack_fit hf]
    simp only [if_pos c2, if_pos (show cur.length < 1466015503701 by omega), w64 (x := most - 3 - sums cur - sz (rd_T34 l i)) (by omega) (by omega), w64 (x := i + 1) (by omega) (by omega)]
    have := ih (i + 1) out n (cur ++ [rd_T34 l i]) (by omega) (by omega) (by omega) (by simp; omega) n0 n1 (by simp)
    rw [sums_append, sums_cons, sums_nil, Int.add_zero, ← Int.sub_sub] at this
    exact this
   ·simp only [if_neg c2, if_pos hout]
    exact hnew fun g => c2 (by have := g.2; omega)
  ·simp only [if_neg c1, if_pos hout]
   exact hnew fun g => c1 (by have := g.1; omega)
def PK (most : Int) (l : List S34) : Prop := (40 ≤ most ∧ most ≤ 512) ∧ Rights l
theorem pack_yes (l : List S34) (hn : l.length ≤ 1024) (first most : Int) (hf : -9223372036854775808 ≤ first ∧ first ≤ 9223372036854775807) (h : PK most l) : Ev (fun k => batch_Pack.f k l first most) (packGo most l (first % 65536) [], 0) := by
 obtain ⟨hm, hr⟩ := h
 unfold batch_Pack.f
 simp only [if_neg (show ¬ most < 40 by omega), if_neg (show ¬ most > 512 by omega)]
 refine Ev.bind (contains_ev l (by omega)) ?_
 rw [decide_eq_false (fun g : ¬ Rights l => g hr)]
 refine Ev.step (f := fun k => _) (fun k => by simp only [batch_Pack.j0]; rfl) ?_
 simp only [Bool.false_eq_true, if_false, if_neg (show ¬ (l.length : Int) > 1024 by omega), w64 (x := most - 3) (by omega) (by omega), and16 first hf]
 have := pack_l0 l (by omega) most hm l.length 0 [] (first % 65536) [] (by omega) (by omega) (by simp) (by simp) (by omega) (by omega) (fun _ => rfl)
 rw [sums_nil, Int.sub_zero] at this
 exact this
theorem pack_right (most : Int) (hm : 40 ≤ most ∧ most ≤ 512) : ∀ (l : List S34) (n : Int) (cur : List S34), Rights (cur ++ l) → cur.length ≤ 32 → (cur ≠ [] → 3 + sums cur ≤ most) → 0 ≤ n → n ≤ 65535 → ∀ b ∈ packGo most l n cur, RB b.f0 b.f1 ∧ 3 + sums b.f1 ≤ most := by
 intro l
 have one : ∀ (n : Int) (cur : List S34), cur ≠ [] → Rights cur → cur.length ≤ 32 → 3 + sums cur ≤ most → 0 ≤ n → n ≤ 65535 → RB n cur ∧ 3 + sums cur ≤ most := fun n cur h hr hl hs h0 h1 => ⟨⟨⟨h0, h1⟩, ⟨List.length_pos_iff.2 h, hl⟩, hr, by omega⟩, hs⟩
 induction l with
 | nil =>
  intro n cur hr hl hs h0 h1 b hb
  by_cases h : cur = []
  ·subst h; rw [pack_nil0] at hb; cases hb
  ·rw [pack_nil _ _ _ h] at hb
   rw [List.mem_singleton.1 hb]
   exact one n cur h (by simpa using hr) hl (hs h) h0 h1
 | cons o l ih =>
  intro n cur hr hl hs h0 h1 b hb
  have hnx : 0 ≤ nx n ∧ nx n ≤ 65535 := by unfold nx; omega
  by_cases hf : fit most cur o
  ·rw [pack_fit hf] at hb
   refine ih n (cur ++ [o]) (by rw [List.append_assoc]; exact hr) (by have := hf.2; simp; omega) (fun _ => ?_) h0 h1 b hb
   have := hf.1
   rw [sums_append, sums_cons, sums_nil]
   omega
  ·rw [pack_new hf] at hb
   rcases List.mem_cons.1 hb with rfl | hb
   ·have h : cur ≠ [] := fun g => hf (by rw [g]; exact fit_nil hm.1 o)
    exact one n cur h (fun x hx => hr x (List.mem_append_left _ hx)) hl (hs h) h0 h1
   ·have hz := sz_range o
    refine ih (nx n) [o] (fun x hx => hr x (List.mem_append_right _ (by simpa using hx))) (by simp) (fun _ => ?_) hnx.1 hnx.2 b hb
    rw [sums_cons, sums_nil]
    omega
theorem pack_flat (most : Int) : ∀ (l : List S34) (n : Int) (cur : List S34), (packGo most l n cur).flatMap (fun b => b.f1) = cur ++ l := by
 intro l
 induction l with
 | nil =>
  intro n cur
  by_cases h : cur = []
  ·subst h; rw [pack_nil0]; rfl
  ·rw [pack_nil _ _ _ h]; simp
 | cons o l ih =>
  intro n cur
  by_cases hf : fit most cur o
  ·rw [pack_fit hf, ih]; simp
  ·rw [pack_new hf, List.flatMap_cons, ih]; simp
def Nums : Int → List S48 → Prop
 | _, [] => True
 | n, b :: R => b.f0 = n ∧ Nums (nx n) R
theorem pack_nums (most : Int) : ∀ (l : List S34) (n : Int) (cur : List S34), Nums n (packGo most l n cur) := by
 intro l
 induction l with
 | nil =>
  intro n cur
  by_cases h : cur = []
  ·subst h; rw [pack_nil0]; trivial
  ·rw [pack_nil _ _ _ h]; exact ⟨rfl, trivial⟩
 | cons o l ih =>
  intro n cur
  by_cases hf : fit most cur o
  ·rw [pack_fit hf]; exact ih _ _
  ·rw [pack_new hf]; exact ⟨rfl, ih _ _⟩
end Go.Proofs.Ytclbempnhelmoaa.P
namespace Go.Proofs.Ytclbempnhelmoaa.P
open Go.RowKit YtclbempnhelmoaaW.PrintWords YtclbempnhelmoaaW.PrintLast YtclbempnhelmoaaW.PrintMore
open Classical
structure AS where
 W : List S34
 D : List (S48 × Int)
 nx : Int
def fstA (s : AS) : Int := match s.D with | [] => s.nx | d :: _ => d.1.f0
noncomputable def packA (s : AS) : List S48 := packGo 512 s.W (s.nx % 65536) []
noncomputable def XA (wn : Int) (s : AS) : List S48 := (packA s).takeWhile (fun b => decide (far (fstA s) b.f0 < wn))
noncomputable def sendA (wn : Int) (s : AS) : AS := ⟨s.W.drop (goneL (XA wn s)), s.D ++ (XA wn s).map (fun b => (b, 1)), nextL s.nx (XA wn s)⟩
noncomputable def pushE (o : S34) (s : AS) : Int := if OR o then (if s.W.length < 1024 then 0 else 8) else 1
noncomputable def pushA (o : S34) (s : AS) : AS := if OR o ∧ s.W.length < 1024 then ⟨s.W ++ [o], s.D, s.nx⟩ else s
def fullA (tr : Int) (s : AS) : Prop := ∃ d ∈ s.D, d.2 ≥ tr
noncomputable def againA (tr : Int) (s : AS) : AS := if fullA tr s then s else ⟨s.W, s.D.map (fun d => (d.1, d.2 + 1)), s.nx⟩
noncomputable def againL (tr : Int) (s : AS) : List S48 := if fullA tr s then [] else s.D.map Prod.fst
def hasA' (a : S36) (d : S48 × Int) : Bool := hasA a d.1.f0
def takesA (a : S36) (s : AS) : Prop := SA a ∧ ¬ far (fstA s) a.f2 > far (fstA s) s.nx
noncomputable def gotA (a : S36) (s : AS) : AS := if takesA a s then ⟨s.W, s.D.filter (fun d => !hasA' a d), s.nx⟩ else s
def OkA (tr : Int) (n : Nat) (s : AS) : Prop := Rights s.W ∧ s.W.length ≤ 1024 ∧ s.D.length ≤ n ∧ (∀ d ∈ s.D, 0 ≤ d.2 ∧ d.2 ≤ tr) ∧ (0 ≤ s.nx ∧ s.nx ≤ 65535)
def Hr {α : Type} (d : Kd α) (e : Nat) (w0 w : World) (F R : Nat → Prop) (v : Value) (xs : List α) : Prop := d.R e w w0.heap.size (fun k => ¬ R k) v xs ∧ ∀ k, v.ownBlock = some k → ¬ F k
theorem Hr.step {α : Type} {d : Kd α} {e : Nat} {w0 w w' : World} {F R F' R' : Nat → Prop} {v : Value} {xs : List α} (h : Hr d e w0 w F R v xs) (hs : SX w F R w' F' R') : Hr d e w0 w' F' R' v xs := by
 refine ⟨?_, fun k hk hF => ?_⟩
 ·refine Kd.R_mono (Kd.R_step (Kd.R_mono (Kd.R_bound h.1) (ok' := fun k => ¬ R k ∧ k < w.heap.size) (fun k hk => ⟨hk.1, hk.2.2.1⟩)) (fun k hk hl => hs.fr k hl hk.1)) (fun k hk hR => ?_)
  rcases hs.wr k hR with e1 | e1
  ·exact hk.1 e1
  ·have := hk.2; omega
 ·have hl := Kd.R_lt h.1 k hk
  rcases hs.fp k hF with e1 | e1
  ·exact h.2 k hk e1
  ·omega
theorem Hr.below {α : Type} {d : Kd α} {e : Nat} {w0 w w' : World} {F R : Nat → Prop} {v : Value} {xs : List α} (h : Hr d e w0 w F R v xs) (hb : Below w.heap.size w w') : Hr d e w0 w' F R v xs := ⟨Kd.R_below h.1 hb, h.2⟩
theorem Hr.nil {α : Type} (d : Kd α) (e : Nat) (w0 w : World) (F R : Nat → Prop) : Hr d e w0 w F R (.slice none 0 0) [] := ⟨Kd.R_nil _ _ _ _ _, fun k hk => by simp [Value.ownBlock] at hk⟩
theorem fstA_dat (O : List (It × Int)) (W : List S34) (nx : Int) : firstL O nx = fstA ⟨W, dat O, nx⟩ := by cases O <;> rfl
theorem dat_b (O : List (It × Int)) : (O.map Prod.fst).map It.b = (dat O).map Prod.fst := by unfold dat; rw [List.map_map, List.map_map]; rfl
theorem dat_bump (O : List (It × Int)) : dat (bumpA O) = (dat O).map (fun d => (d.1, d.2 + 1)) := by unfold dat bumpA; rw [List.map_map, List.map_map]; rfl
theorem dat_filter (O : List (It × Int)) (q : Int → Bool) : dat (O.filter (fun o => !goQ q o)) = (dat O).filter (fun d => !q d.1.f0) := by unfold dat; rw [List.filter_map]; rfl
theorem dat_len (O : List (It × Int)) : (dat O).length = O.length := List.length_map ..
theorem dat_mem {O : List (It × Int)} {Q : Int → Prop} (h : ∀ d ∈ dat O, Q d.2) : ∀ o ∈ O, Q o.2 := fun o ho => h _ (List.mem_map_of_mem ho)
structure Sn (w0 w : World) (F R : Nat → Prop) (g : Nat) (wn tr : Int) (s : AS) : Prop where
 ex : ∃ O vw vo, Sd w0 w F g wn tr s.W O s.nx vw vo ∧ dat O = s.D ∧ R = Wr g vw vo O
theorem Sn.below {w0 w w' : World} {F R : Nat → Prop} {g : Nat} {wn tr : Int} {s : AS} (h : Sn w0 w F R g wn tr s) (hb : Below w.heap.size w w') : Sn w0 w' F R g wn tr s := by
 obtain ⟨O, vw, vo, h1, h2, h3⟩ := h
 exact ⟨O, vw, vo, h1.below hb, h2, h3⟩
theorem Sn.grown {w0 w w' : World} {F R : Nat → Prop} {g : Nat} {wn tr : Int} {s : AS} (h : Sn w0 w F R g wn tr s) {row : Option Nat} (hg : w.grownBy w' row) (hr : ∀ k, row = some k → w0.heap.size ≤ k ∧ ¬ F k) : Sn w0 w' F R g wn tr s := by
 obtain ⟨O, vw, vo, h1, h2, h3⟩ := h
 exact ⟨O, vw, vo, h1.grown hg hr, h2, h3⟩
theorem Sn.bl {w0 w : World} {F R : Nat → Prop} {g : Nat} {wn tr : Int} {s : AS} (h : Sn w0 w F R g wn tr s) : Below w0.heap.size w0 w := by
 obtain ⟨O, vw, vo, h1, h2, h3⟩ := h
 exact h1.bl
theorem Sn.lt {w0 w : World} {F R : Nat → Prop} {g : Nat} {wn tr : Int} {s : AS} (h : Sn w0 w F R g wn tr s) : ∀ k, F k → k < w.heap.size := by
 obtain ⟨O, vw, vo, h1, h2, h3⟩ := h
 exact h1.lt
theorem Sn.rf {w0 w : World} {F R : Nat → Prop} {g : Nat} {wn tr : Int} {s : AS} (h : Sn w0 w F R g wn tr s) : ∀ k, R k → F k := by
 obtain ⟨O, vw, vo, h1, h2, rfl⟩ := h
 exact h1.wr
theorem Ev.all {α β : Type} {g : α → Nat → Option β} {r : α → β} : ∀ (l : List α), (∀ x ∈ l, Ev (g x) (r x)) → ∃ K0, ∀ K, K0 ≤ K → ∀ x ∈ l, g x K = some (r x) := by
 intro l
 induction l with
 | nil => intro _; exact ⟨0, fun K _ x hx => by cases hx⟩
 | cons a l ih =>
  intro h
  obtain ⟨K1, h1⟩ := h a List.mem_cons_self
  obtain ⟨K2, h2⟩ := ih (fun x hx => h x (List.mem_cons_of_mem _ hx))
  refine ⟨max K1 K2, fun K hK x hx => ?_⟩
  rcases List.mem_cons.1 hx with rfl | hx
  ·exact h1 K (by omega)
  ·exact h2 K (by omega) x hx
abbrev objV (o : S34) : Value := .agg #[.int .i64 o.f0, .int .i64 o.f1, .bool o.f2.f0, .int .i64 o.f2.f1, .int .i64 o.f2.f2, .int .i64 o.f2.f3, .int .i64 o.f2.f4, .int .i64 o.f2.f5, .int .i64 o.f3.f0, .int .i64 o.f3.f1, .int .i64 o.f3.f2, .int .i64 o.f4]
abbrev ackV (a : S36) : Value := .agg #[.int .i64 a.f0, .int .i64 a.f1, .int .i64 a.f2, .int .i64 a.f3]
section
variable {w0 w : World} {F R : Nat → Prop} {g : Nat} {wn tr : Int} {s : AS} {n : Nat}
theorem new_a {w0 w : World} (hb : Below w0.heap.size w0 w) (wn tr : Int) (h1 : 1 ≤ wn) (h2 : wn ≤ 16) (h3 : 1 ≤ tr) (h4 : tr ≤ 100) :
  Calls Try.prog 9 #[.int .i64 wn, .int .i64 tr] w fun e w' => ∃ g F R, e = .returned (.tuple #[.pointer (some ⟨g, 0, none⟩), .int .i64 0]) ∧ Sn w0 w' F R g wn tr ⟨[], [], 0⟩ ∧ Below w.heap.size w w' ∧ ∀ k, F k → w.heap.size ≤ k := by
 refine (snew_ok hb wn tr (decide_eq_false (by omega)) (decide_eq_false (by omega)) (decide_eq_false (by omega)) (decide_eq_false (by omega))).mono ?_
 rintro e w' ⟨g, F, rfl, hs, hf, hb2⟩
 exact ⟨g, F, _, rfl, ⟨[], _, _, hs, rfl, rfl⟩, hb2, hf⟩
theorem new_no (w : World) (wn tr : Int) (h : ¬ (1 ≤ wn ∧ wn ≤ 16 ∧ 1 ≤ tr ∧ tr ≤ 100)) :
  Calls Try.prog 9 #[.int .i64 wn, .int .i64 tr] w fun e w' => e = .returned (.tuple #[.pointer none, .int .i64 1]) ∧ w = w' := by
 refine snew_bad wn tr w _ _ _ _ rfl rfl rfl rfl ?_
 by_cases a : wn < 1
 ·simp [a]
 by_cases b : wn > 16
 ·simp [b]
 by_cases c : tr < 1
 ·simp [c]
 have d : tr > 100 := by omega
 simp [d]
theorem push_a (h : Sn w0 w F R g wn tr s) (o : S34) :
  Calls Try.prog 11 #[.pointer (some ⟨g, 0, none⟩), objV o] w fun e w' => ∃ F' R', e = .returned (.int .i64 (pushE o s)) ∧ Sn w0 w' F' R' g wn tr (pushA o s) ∧ SX w F R w' F' R' := by
 obtain ⟨O, vw, vo, hd, h2, rfl⟩ := h
 obtain ⟨K, hK⟩ := oc_eq o.f0 o.f1 o.f2.f0 o.f2.f1 o.f2.f2 o.f2.f3 o.f2.f4 o.f2.f5 o.f3.f0 o.f3.f1 o.f3.f2 o.f4
 have hk := hK K (Nat.le_refl _)
 unfold pushE pushA
 by_cases ho : OR o
 ·rw [if_pos (show RO o.f0 o.f1 o.f2.f0 o.f2.f1 o.f2.f2 o.f2.f3 o.f2.f4 o.f2.f5 o.f3.f0 o.f3.f1 o.f3.f2 o.f4 from ho)] at hk
  rw [if_pos ho]
  by_cases hl : s.W.length < 1024
  ·rw [if_pos hl, if_pos ⟨ho, hl⟩]
   refine (spush_ok hd hl K _ _ _ _ _ _ _ _ _ _ _ _ hk).mono ?_
   rintro e w' ⟨rfl, F', v2, hs, hx⟩
   exact ⟨F', _, rfl, ⟨O, v2, vo, hs, h2, rfl⟩, hx⟩
  ·rw [if_neg hl, if_neg (fun e => hl e.2)]
   refine (spush_full hd hl K _ _ _ _ _ _ _ _ _ _ _ _ hk).mono ?_
   rintro e w' ⟨rfl, hs, hb⟩
   exact ⟨F, _, rfl, ⟨O, vw, vo, hs, h2, rfl⟩, SX.of_below _ _ hb⟩
 ·rw [if_neg (show ¬ RO o.f0 o.f1 o.f2.f0 o.f2.f1 o.f2.f2 o.f2.f3 o.f2.f4 o.f2.f5 o.f3.f0 o.f3.f1 o.f3.f2 o.f4 from ho)] at hk
  rw [if_neg ho, if_neg (fun e => ho e.1)]
  refine (spush_bad hd K _ _ _ _ _ _ _ _ _ _ _ _ 1 (by decide) hk).mono ?_
  rintro e w' ⟨rfl, hs, hb⟩
  exact ⟨F, _, rfl, ⟨O, vw, vo, hs, h2, rfl⟩, SX.of_below _ _ hb⟩
theorem flat_sum (B : List S48) : goneL B = (B.flatMap (fun b => b.f1)).length := by
 unfold goneL
 induction B with
 | nil => rfl
 | cons b B ih => rw [List.map_cons, List.sum_cons, List.flatMap_cons, List.length_append, ih]
theorem packA_gone (s : AS) : goneL (packA s) = s.W.length := by
 rw [flat_sum, packA, pack_flat]
 rfl
theorem send_a (h : Sn w0 w F R g wn tr s) (hk : OkA tr n s) (hn : n ≤ 900000) :
  Calls Try.prog 12 #[.pointer (some ⟨g, 0, none⟩)] w fun e w' => ∃ v F' R', e = .returned v ∧ Sn w0 w' F' R' g wn tr (sendA wn s) ∧ SX w F R w' F' R' ∧ Hr k48 48 w0 w' F' R' v (XA wn s) ∧ (∀ k, v.ownBlock = some k → w.heap.size ≤ k) ∧ k48.R 48 w' w0.heap.size (fun k => w.heap.size ≤ k ∧ ¬ R' k) v (XA wn s) := by
 obtain ⟨O, vw, vo, hd, h2, rfl⟩ := h
 obtain ⟨k1, k2, k3, k4, k5⟩ := hk
 obtain ⟨K1, hp⟩ := pack_yes s.W k2 s.nx 512 (by omega) ⟨by omega, k1⟩
 have hf : firstL O s.nx = fstA s := by rw [fstA_dat O s.W, h2]
 have hlen : (packA s).length ≤ 1024 := by
  have h1 := packA_gone s
  have h3 : (packA s).length ≤ goneL (packA s) := by
   have hr : ∀ b ∈ packA s, 1 ≤ b.f1.length := fun b hb => (pack_right 512 (by omega) s.W (s.nx % 65536) [] (by simpa using k1) (by simp) (fun e => absurd rfl e) (by omega) (by omega) b hb).1.2.1.1
   generalize packA s = B at hr ⊢
   unfold goneL
   induction B with
   | nil => simp
   | cons b B ih =>
    have := hr b List.mem_cons_self
    have := ih (fun x hx => hr x (List.mem_cons_of_mem _ hx))
    rw [List.map_cons, List.sum_cons, List.length_cons]
    omega
  omega
 have hp1 := hp (K1 + 3) (by omega)
 refine (ssend_s hd k2 (by have := dat_len O; rw [h2] at this; omega) (K1 + 3) (packA s) 0 hp1 hlen (fun b => decide (far (fstA s) b.f0 < wn)) (fun b hb => ?_) (by rw [packA_gone]; exact Nat.le_refl _)).mono ?_
 ·rw [hf]
  unfold serial_Within.f
  rw [serial_Far_eq]
  rfl
 ·rintro e w' ⟨v, F', vw', vo', O', rfl, hs, hx, hr, ho, hda⟩
  refine ⟨v, F', _, rfl, ⟨O', vw', vo', hs, ?_, rfl⟩, hx, ⟨Kd.R_mono hr (fun k hk => hk.2), fun k hk => (ho k hk).2⟩, fun k hk => (ho k hk).1, hr⟩
  rw [hda, h2]
  rfl
theorem again_a (h : Sn w0 w F R g wn tr s) (hk : OkA tr n s) (hn : n ≤ 900000) (ht : tr ≤ 100) :
  Calls Try.prog 13 #[.pointer (some ⟨g, 0, none⟩)] w fun e w' => ∃ v R', e = .returned (.tuple #[v, .bool (decide (¬ fullA tr s))]) ∧ Sn w0 w' F R' g wn tr (againA tr s) ∧ SX w F R w' F R' ∧ Hr k48 48 w0 w' F R' v (againL tr s) ∧ ∀ k, v.ownBlock = some k → w.heap.size ≤ k := by
 obtain ⟨O, vw, vo, hd, h2, rfl⟩ := h
 obtain ⟨k1, k2, k3, k4, k5⟩ := hk
 have hol : O.length ≤ 1000000 := by have := dat_len O; rw [h2] at this; omega
 have hob : ∀ o ∈ O, 0 ≤ o.2 ∧ o.2 ≤ 1000000 := fun o ho => by
  have := dat_mem (O := O) (Q := fun x => 0 ≤ x ∧ x ≤ tr) (by rw [h2]; exact k4) o ho
  omega
 unfold againA againL
 by_cases hq : fullA tr s
 ·rw [if_pos hq, if_pos hq, decide_eq_false (fun e => e hq)]
  obtain ⟨d, hd1, hd2⟩ := hq
  rw [← h2] at hd1
  obtain ⟨o, ho, rfl⟩ := List.mem_map.1 hd1
  refine (sagain_bad hd hol hob ⟨o, ho, hd2⟩).mono ?_
  rintro e w' ⟨rfl, hb⟩
  exact ⟨_, _, rfl, ⟨O, vw, vo, hd.below hb, h2, rfl⟩, SX.of_below _ _ hb, Hr.nil _ _ _ _ _ _, fun k hk => by simp [Value.ownBlock] at hk⟩
 ·rw [if_neg hq, if_neg hq, decide_eq_true hq]
  refine (sagain_ok hd hol hob (fun o ho e => hq ⟨_, by rw [← h2]; exact List.mem_map_of_mem ho, e⟩)).mono ?_
  rintro e w' ⟨v, rfl, hs, hx, hr, ho⟩
  refine ⟨v, _, rfl, ⟨bumpA O, vw, vo, hs, by rw [dat_bump, h2], rfl⟩, hx, ⟨?_, fun k hk => (ho k hk).2⟩, fun k hk => (ho k hk).1⟩
  rw [dat_b, h2] at hr
  refine Kd.R_mono hr (fun k hk hR => ?_)
  have hR2 : Wr g vw vo O k := Wr.bump (O2 := bumpA O) (by unfold bumpA; rw [List.map_map]; rfl) k hR
  rcases hk with e | e
  ·have := hd.lt k (hd.wr k hR2); omega
  ·exact e.2 hR2
theorem got_a (h : Sn w0 w F R g wn tr s) (hk : OkA tr n s) (hn : n ≤ 900000) (a : S36) :
  Calls Try.prog 14 #[.pointer (some ⟨g, 0, none⟩), ackV a] w fun e w' => ∃ R', e = .returned (.int .i64 ((s.D.length : Int) - ((gotA a s).D.length : Int))) ∧ Sn w0 w' F R' g wn tr (gotA a s) ∧ SX w F R w' F R' := by
 obtain ⟨O, vw, vo, hd, h2, rfl⟩ := h
 obtain ⟨k1, k2, k3, k4, k5⟩ := hk
 have hol : O.length ≤ 1000000 := by have := dat_len O; rw [h2] at this; omega
 have hf : firstL O s.nx = fstA s := by rw [fstA_dat O s.W, h2]
 unfold gotA
 by_cases t1 : SA a
 ·obtain ⟨K2, hh⟩ := Ev.all (g := fun (o : It × Int) k => ack_Has.f k a.f0 a.f1 a.f2 a.f3 o.1.b.f0) (r := fun o => hasA a o.1.b.f0) O (fun o _ => has_ev a o.1.b.f0)
  refine (sgot_in hd hol (K2 + 3) a.f0 a.f1 a.f2 a.f3 t1 (far (fstA s) a.f2) (far (fstA s) s.nx) (by rw [hf, serial_Far_eq]) (by rw [hf, serial_Far_eq]) (hasA a) (fun o ho => hh _ (by omega) o ho)).mono ?_
  rintro e w' (⟨t2, rfl, hb⟩ | ⟨t2, vo', rfl, hs, hx⟩)
  ·rw [if_neg (fun h => h.2 t2), Int.sub_self]
   exact ⟨_, rfl, ⟨O, vw, vo, hd.below hb, h2, rfl⟩, SX.of_below _ _ hb⟩
  ·rw [if_pos ⟨t1, t2⟩]
   have hdf := dat_filter O (hasA a)
   rw [h2] at hdf
   refine ⟨_, ?_, ⟨_, vw, vo', hs, hdf, rfl⟩, hx⟩
   rw [← dat_len, ← dat_len, hdf, h2]
   rfl
 ·rw [if_neg (fun h => t1 h.1), Int.sub_self]
  refine (sgot_bad hd a.f0 a.f1 a.f2 a.f3 t1).mono ?_
  rintro e w' ⟨rfl, hb⟩
  exact ⟨_, rfl, ⟨O, vw, vo, hd.below hb, h2, rfl⟩, SX.of_below _ _ hb⟩
theorem wait_a (h : Sn w0 w F R g wn tr s) (hk : OkA tr n s) :
  Calls Try.prog 23 #[.pointer (some ⟨g, 0, none⟩)] w fun e w' => ∃ v, e = .returned v ∧ k34.R 34 w' w.heap.size (fun _ => True) v s.W ∧ Below w.heap.size w w' := by
 obtain ⟨O, vw, vo, hd, h2, rfl⟩ := h
 exact swait_s hd hk.2.1
theorem out_a (h : Sn w0 w F R g wn tr s) (hk : OkA tr n s) (hn : n ≤ 900000) :
  Calls Try.prog 15 #[.pointer (some ⟨g, 0, none⟩)] w fun e w' => ∃ v, e = .returned v ∧ Below w.heap.size w w' ∧ Hr k48 48 w0 w' F R v (s.D.map Prod.fst) ∧ ∀ k, v.ownBlock = some k → w.heap.size ≤ k := by
 obtain ⟨O, vw, vo, hd, h2, rfl⟩ := h
 have hol : O.length ≤ 1000000 := by have := dat_len O; rw [h2] at this; have := hk.2.2.1; omega
 refine (sout_s hd hol).mono ?_
 rintro e w' ⟨v, rfl, ho⟩
 have hr := ho.row
 rw [dat_b, h2] at hr
 refine ⟨v, rfl, ho.bl, ⟨Kd.R_mono hr (fun k hk hR => ?_), fun k hk hF => ?_⟩, ho.own⟩
 ·rcases hk with e | e
  ·have := hd.lt k (hd.wr k hR); omega
  ·exact e.2 hR
 ·have := ho.own k hk
  have := hd.lt k hF
  omega
end
theorem nextN_eq (a : Int) (h : -9223372036854775808 ≤ a ∧ a ≤ 9223372036854775807) : nextN a = nx a := Option.some.inj ((nxt_eq a).symm.trans (next_eq a h))
theorem nextN_range (a : Int) : 0 ≤ nextN a ∧ nextN a ≤ 65535 := by
 unfold nextN
 have hu : ∀ x : Int, IntKind.u16.wrap x = x % 65536 := fun x => by simp [IntKind.wrap, IntKind.bits, IntKind.signed]
 rw [hu, hu, w64 (by omega) (by omega)]
 omega
theorem nextL_range : ∀ (X : List S48) (n : Int), 0 ≤ n ∧ n ≤ 65535 → 0 ≤ nextL n X ∧ nextL n X ≤ 65535 := by
 intro X
 induction X with
 | nil => intro n h; exact h
 | cons b X ih => intro n h; exact ih _ (nextN_range _)
theorem XA_len {wn : Int} {s : AS} (h : Rights s.W) : (XA wn s).length ≤ s.W.length := by
 have h1 := packA_gone s
 have hr : ∀ b ∈ packA s, 1 ≤ b.f1.length := fun b hb => (pack_right 512 (by omega) s.W (s.nx % 65536) [] (by simpa using h) (by simp) (fun e => absurd rfl e) (by omega) (by omega) b hb).1.2.1.1
 have h2 : (packA s).length ≤ goneL (packA s) := by
  generalize packA s = B at hr ⊢
  unfold goneL
  induction B with
  | nil => simp
  | cons b B ih =>
   have := hr b List.mem_cons_self
   have := ih (fun x hx => hr x (List.mem_cons_of_mem _ hx))
   rw [List.map_cons, List.sum_cons, List.length_cons]
   omega
 have h3 : (XA wn s).length ≤ (packA s).length := (List.takeWhile_prefix _).length_le
 omega
section
variable {tr : Int} {n : Nat} {s : AS}
theorem OkA.nil (tr : Int) (n : Nat) : OkA tr n ⟨[], [], 0⟩ := ⟨(fun o ho => by cases ho), by decide, Nat.zero_le _, (fun d hd => by cases hd), by decide⟩
theorem OkA.more (h : OkA tr n s) {m : Nat} (hm : n ≤ m) : OkA tr m s := ⟨h.1, h.2.1, Nat.le_trans h.2.2.1 hm, h.2.2.2⟩
theorem OkA.push (h : OkA tr n s) (o : S34) : OkA tr n (pushA o s) := by
 unfold pushA
 split
 ·rename_i hc
  refine ⟨fun x hx => ?_, ?_, h.2.2.1, h.2.2.2⟩
  ·rcases List.mem_append.1 hx with hx | hx
   ·exact h.1 x hx
   ·rw [List.mem_singleton.1 hx]; exact hc.1
  ·show (s.W ++ [o]).length ≤ 1024
   rw [List.length_append]
   have := hc.2
   simp
   omega
 ·exact h
theorem OkA.send (h : OkA tr n s) (wn : Int) (ht : 1 ≤ tr) : OkA tr (n + 1024) (sendA wn s) := by
 refine ⟨fun x hx => h.1 x (List.mem_of_mem_drop hx), ?_, ?_, fun d hd => ?_, nextL_range _ _ h.2.2.2.2⟩
 ·show (s.W.drop _).length ≤ 1024
  rw [List.length_drop]
  have := h.2.1
  omega
 ·show (s.D ++ (XA wn s).map _).length ≤ n + 1024
  rw [List.length_append, List.length_map]
  have := h.2.2.1
  have := XA_len (wn := wn) h.1
  have := h.2.1
  omega
 ·rcases List.mem_append.1 (show d ∈ s.D ++ (XA wn s).map (fun b => (b, 1)) from hd) with hd | hd
  ·exact h.2.2.2.1 d hd
  ·obtain ⟨b, _, rfl⟩ := List.mem_map.1 hd
   exact ⟨by show (0 : Int) ≤ 1; decide, ht⟩
theorem OkA.again (h : OkA tr n s) : OkA tr n (againA tr s) := by
 unfold againA
 split
 ·exact h
 ·rename_i hf
  refine ⟨h.1, h.2.1, by show (s.D.map _).length ≤ n; rw [List.length_map]; exact h.2.2.1, fun d hd => ?_, h.2.2.2.2⟩
  obtain ⟨e, he, rfl⟩ := List.mem_map.1 (show d ∈ s.D.map (fun d => (d.1, d.2 + 1)) from hd)
  have h1 := h.2.2.2.1 e he
  have h2 : ¬ e.2 ≥ tr := fun x => hf ⟨e, he, x⟩
  exact ⟨by show 0 ≤ e.2 + 1; omega, by show e.2 + 1 ≤ tr; omega⟩
theorem OkA.got (h : OkA tr n s) (a : S36) : OkA tr n (gotA a s) := by
 unfold gotA
 split
 ·exact ⟨h.1, h.2.1, Nat.le_trans (List.length_filter_le _ _) h.2.2.1, fun d hd => h.2.2.2.1 d (List.mem_filter.1 hd).1, h.2.2.2.2⟩
 ·exact h
end
theorem pack_one (o : S34) (D : List (S48 × Int)) (n : Int) : packA ⟨[o], D, n⟩ = [⟨n % 65536, [o]⟩] := by
 unfold packA
 rw [pack_fit (fit_nil (by decide) o), pack_nil _ _ _ (by simp)]
 rfl
theorem XA_one (o : S34) (wn : Int) (h : 1 ≤ wn) : XA wn ⟨[o], [], 0⟩ = [⟨0, [o]⟩] := by
 unfold XA
 rw [pack_one]
 have : far 0 0 < wn := by unfold far; omega
 simp [fstA, this]
theorem send_one (o : S34) (wn : Int) (h : 1 ≤ wn) : sendA wn ⟨[o], [], 0⟩ = ⟨[], [(⟨0, [o]⟩, 1)], 1⟩ := by
 unfold sendA
 rw [XA_one o wn h]
 have h1 : nextL 0 [(⟨0, [o]⟩ : S48)] = 1 := (nextN_eq 0 (by decide)).trans (by decide)
 have h2 : goneL [(⟨0, [o]⟩ : S48)] = 1 := rfl
 simp only [h1, h2, List.drop_succ_cons, List.drop_zero, List.nil_append, List.map_cons, List.map_nil]
theorem again_one (b : S48) (tr c n : Int) (h : c < tr) : againA tr ⟨[], [(b, c)], n⟩ = ⟨[], [(b, c + 1)], n⟩ ∧ againL tr ⟨[], [(b, c)], n⟩ = [b] ∧ ¬ fullA tr ⟨[], [(b, c)], n⟩ := by
 have hf : ¬ fullA tr ⟨[], [(b, c)], n⟩ := by
  rintro ⟨d, hd, h2⟩
  rw [List.mem_singleton.1 hd] at h2
  have : c ≥ tr := h2
  omega
 unfold againA againL
 rw [if_neg hf, if_neg hf]
 exact ⟨rfl, rfl, hf⟩
theorem again_full (b : S48) (tr c n : Int) (h : tr ≤ c) : againA tr ⟨[], [(b, c)], n⟩ = ⟨[], [(b, c)], n⟩ ∧ againL tr ⟨[], [(b, c)], n⟩ = [] ∧ fullA tr ⟨[], [(b, c)], n⟩ := by
 have hf : fullA tr ⟨[], [(b, c)], n⟩ := ⟨_, List.mem_singleton.2 rfl, h⟩
 unfold againA againL
 rw [if_pos hf, if_pos hf]
 exact ⟨rfl, rfl, hf⟩
theorem again_none (tr n : Int) : againA tr ⟨[], [], n⟩ = ⟨[], [], n⟩ ∧ againL tr ⟨[], [], n⟩ = [] ∧ ¬ fullA tr ⟨[], [], n⟩ := by
 have hf : ¬ fullA tr ⟨[], [], n⟩ := by rintro ⟨d, hd, _⟩; cases hd
 unfold againA againL
 rw [if_neg hf, if_neg hf]
 exact ⟨rfl, rfl, hf⟩
theorem got_one (o : S34) (c : Int) : gotA ⟨0, 0, 1, 0⟩ ⟨[], [(⟨0, [o]⟩, c)], 1⟩ = ⟨[], [], 1⟩ := by
 unfold gotA
 rw [if_pos ⟨by decide, by show ¬ far 0 1 > far 0 1; omega⟩]
 have : hasA ⟨0, 0, 1, 0⟩ 0 = true := by decide
 simp [hasA', this]
abbrev oEx : S34 := (⟨1, 5, ⟨false, 0, 0, 0, 0, 0⟩, ⟨0, 0, 0⟩, 0⟩ : S34)
theorem oEx_right : OR oEx := by
 show RO 1 5 false 0 0 0 0 0 0 0 0 0
 decide
section
variable {w0 w : World} {F R : Nat → Prop} {g : Nat}
theorem aw_push (h : Sn w0 w F R g 1 2 ⟨[], [], 0⟩) : Calls Try.prog 11 #[.pointer (some ⟨g, 0, none⟩), .agg #[.int .i64 1, .int .i64 5, .bool false, .int .i64 0, .int .i64 0, .int .i64 0, .int .i64 0, .int .i64 0, .int .i64 0, .int .i64 0, .int .i64 0, .int .i64 0]] w fun e w' => ∃ F' R', e = .returned (.int .i64 0) ∧ Sn w0 w' F' R' g 1 2 ⟨[oEx], [], 0⟩ := by
 refine (push_a h oEx).mono ?_
 rintro e w' ⟨F', R', rfl, hn, _⟩
 have e1 : pushE oEx ⟨[], [], 0⟩ = 0 := by unfold pushE; rw [if_pos oEx_right, if_pos (by decide)]
 have e2 : pushA oEx ⟨[], [], 0⟩ = ⟨[oEx], [], 0⟩ := by unfold pushA; rw [if_pos ⟨oEx_right, by decide⟩]; rfl
 rw [e1]
 rw [e2] at hn
 exact ⟨F', R', rfl, hn⟩
theorem ok_one (o : S34) (ho : OR o) (tr : Int) : OkA tr 1 ⟨[o], [], 0⟩ := ⟨fun x hx => by rw [List.mem_singleton.1 hx]; exact ho, by show 1 ≤ 1024; decide, Nat.zero_le _, (fun d hd => by cases hd), by show (0 : Int) ≤ 0 ∧ (0 : Int) ≤ 65535; decide⟩
theorem ok_out (b : S48) (tr c n : Int) (h : 0 ≤ c ∧ c ≤ tr) (hn : 0 ≤ n ∧ n ≤ 65535) : OkA tr 1 ⟨[], [(b, c)], n⟩ := ⟨(fun x hx => by cases hx), Nat.zero_le _, Nat.le_refl _, fun d hd => by rw [List.mem_singleton.1 hd]; exact h, hn⟩
theorem ok_none (tr n : Int) (hn : 0 ≤ n ∧ n ≤ 65535) : OkA tr 1 ⟨[], [], n⟩ := ⟨(fun x hx => by cases hx), Nat.zero_le _, Nat.zero_le _, (fun d hd => by cases hd), hn⟩
theorem one_send {wn tr : Int} {o : S34} (ho : OR o) (hw : 1 ≤ wn) (h : Sn w0 w F R g wn tr ⟨[o], [], 0⟩) : Calls Try.prog 12 #[.pointer (some ⟨g, 0, none⟩)] w fun e w' => ∃ A c F' R', e = .returned (.slice A 1 c) ∧ Sn w0 w' F' R' g wn tr ⟨[], [(⟨0, [o]⟩, 1)], 1⟩ ∧ Hr k48 48 w0 w' F' R' (.slice A 1 c) [⟨0, [o]⟩] := by
 refine (send_a h (ok_one o ho tr) (by decide)).mono ?_
 rintro e w' ⟨v, F', R', rfl, hn, _, hr, _⟩
 rw [send_one o wn hw] at hn
 rw [XA_one o wn hw] at hr
 obtain ⟨A, c, rfl⟩ := Kd.R_slice hr.1
 exact ⟨A, c, F', R', rfl, hn, hr⟩
theorem one_again {wn tr c : Int} {b : S48} (hc : 0 ≤ c ∧ c < tr) (ht : tr ≤ 100) (h : Sn w0 w F R g wn tr ⟨[], [(b, c)], 1⟩) : Calls Try.prog 13 #[.pointer (some ⟨g, 0, none⟩)] w fun e w' => ∃ A k R', e = .returned (.tuple #[.slice A 1 k, .bool true]) ∧ Sn w0 w' F R' g wn tr ⟨[], [(b, c + 1)], 1⟩ ∧ SX w F R w' F R' ∧ Hr k48 48 w0 w' F R' (.slice A 1 k) [b] := by
 obtain ⟨e1, e2, e3⟩ := again_one b tr c 1 hc.2
 refine (again_a h (ok_out b tr c 1 (by omega) (by decide)) (by decide) ht).mono ?_
 rintro e w' ⟨v, R', rfl, hn, hx, hr, _⟩
 rw [decide_eq_true e3]
 rw [e1] at hn
 rw [e2] at hr
 obtain ⟨A, k, rfl⟩ := Kd.R_slice hr.1
 exact ⟨A, k, R', rfl, hn, hx, hr⟩
theorem one_full {wn tr c : Int} {b : S48} (hc : 0 ≤ c ∧ c = tr) (ht : tr ≤ 100) (h : Sn w0 w F R g wn tr ⟨[], [(b, c)], 1⟩) : Calls Try.prog 13 #[.pointer (some ⟨g, 0, none⟩)] w fun e w' => ∃ A k R', e = .returned (.tuple #[.slice A 0 k, .bool false]) ∧ Sn w0 w' F R' g wn tr ⟨[], [(b, c)], 1⟩ ∧ SX w F R w' F R' := by
 obtain ⟨e1, e2, e3⟩ := again_full b tr c 1 (by omega)
 refine (again_a h (ok_out b tr c 1 (by omega) (by decide)) (by decide) ht).mono ?_
 rintro e w' ⟨v, R', rfl, hn, hx, hr, _⟩
 rw [decide_eq_false (fun h => h e3)]
 rw [e1] at hn
 rw [e2] at hr
 obtain ⟨A, k, rfl⟩ := Kd.R_slice hr.1
 exact ⟨A, k, R', rfl, hn, hx⟩
theorem one_none {wn tr : Int} (ht : tr ≤ 100) (h : Sn w0 w F R g wn tr ⟨[], [], 1⟩) : Calls Try.prog 13 #[.pointer (some ⟨g, 0, none⟩)] w fun e w' => ∃ A k R', e = .returned (.tuple #[.slice A 0 k, .bool true]) ∧ Sn w0 w' F R' g wn tr ⟨[], [], 1⟩ ∧ SX w F R w' F R' := by
 obtain ⟨e1, e2, e3⟩ := again_none tr 1
 refine (again_a h (ok_none tr 1 (by decide)) (by decide) ht).mono ?_
 rintro e w' ⟨v, R', rfl, hn, hx, hr, _⟩
 rw [decide_eq_true e3]
 rw [e1] at hn
 rw [e2] at hr
 obtain ⟨A, k, rfl⟩ := Kd.R_slice hr.1
 exact ⟨A, k, R', rfl, hn, hx⟩
theorem one_got {wn tr c : Int} {o : S34} (hc : 0 ≤ c ∧ c ≤ tr) (h : Sn w0 w F R g wn tr ⟨[], [(⟨0, [o]⟩, c)], 1⟩) : Calls Try.prog 14 #[.pointer (some ⟨g, 0, none⟩), .agg #[.int .i64 0, .int .i64 0, .int .i64 1, .int .i64 0]] w fun e w' => ∃ R', e = .returned (.int .i64 1) ∧ Sn w0 w' F R' g wn tr ⟨[], [], 1⟩ ∧ SX w F R w' F R' := by
 refine (got_a h (ok_out _ tr c 1 (by omega) (by decide)) (by decide) ⟨0, 0, 1, 0⟩).mono ?_
 rintro e w' ⟨R', rfl, hn, hx⟩
 rw [got_one o c] at hn ⊢
 exact ⟨R', rfl, hn, hx⟩
theorem aw_send (h : Sn w0 w F R g 1 2 ⟨[oEx], [], 0⟩) : Calls Try.prog 12 #[.pointer (some ⟨g, 0, none⟩)] w fun e w' => ∃ A c F' R', e = .returned (.slice A 1 c) ∧ Sn w0 w' F' R' g 1 2 ⟨[], [(⟨0, [oEx]⟩, 1)], 1⟩ ∧ Hr k48 48 w0 w' F' R' (.slice A 1 c) [⟨0, [oEx]⟩] := one_send oEx_right (by decide) h
theorem aw_again1 (h : Sn w0 w F R g 1 2 ⟨[], [(⟨0, [oEx]⟩, 1)], 1⟩) : Calls Try.prog 13 #[.pointer (some ⟨g, 0, none⟩)] w fun e w' => ∃ A k R', e = .returned (.tuple #[.slice A 1 k, .bool true]) ∧ Sn w0 w' F R' g 1 2 ⟨[], [(⟨0, [oEx]⟩, 2)], 1⟩ ∧ SX w F R w' F R' :=
 (one_again (by decide) (by decide) h).mono (fun _ _ ⟨A, k, R', e, h1, h2, _⟩ => ⟨A, k, R', e, h1, h2⟩)
theorem aw_again2 (h : Sn w0 w F R g 1 2 ⟨[], [(⟨0, [oEx]⟩, 2)], 1⟩) : Calls Try.prog 13 #[.pointer (some ⟨g, 0, none⟩)] w fun e w' => ∃ A k R', e = .returned (.tuple #[.slice A 0 k, .bool false]) ∧ Sn w0 w' F R' g 1 2 ⟨[], [(⟨0, [oEx]⟩, 2)], 1⟩ ∧ SX w F R w' F R' := one_full (by decide) (by decide) h
theorem aw_got (h : Sn w0 w F R g 1 2 ⟨[], [(⟨0, [oEx]⟩, 2)], 1⟩) : Calls Try.prog 14 #[.pointer (some ⟨g, 0, none⟩), .agg #[.int .i64 0, .int .i64 0, .int .i64 1, .int .i64 0]] w fun e w' => ∃ R', e = .returned (.int .i64 1) ∧ Sn w0 w' F R' g 1 2 ⟨[], [], 1⟩ ∧ SX w F R w' F R' := one_got (by decide) h
theorem aw_again3 (h : Sn w0 w F R g 1 2 ⟨[], [], 1⟩) : Calls Try.prog 13 #[.pointer (some ⟨g, 0, none⟩)] w fun e w' => ∃ A k R', e = .returned (.tuple #[.slice A 0 k, .bool true]) ∧ Sn w0 w' F R' g 1 2 ⟨[], [], 1⟩ ∧ SX w F R w' F R' := one_none (by decide) h
end
theorem awake_a (w : World) : Calls Try.prog 10 #[] w fun e w' => e = .returned (.bool true) ∧ Below w.heap.size w w' := by
 go_enter Try.func10, Try.ntmps10
 go_wp2_with (first
  | (go_at_call 9; (with_reducible refine (new_a (Below.refl _ _) 1 2 (by decide) (by decide) (by decide) (by decide)).mono ?_); rintro x_ w1 ⟨g, F1, R1, rfl, hn, hb, _⟩; have M1 := Aside0.mk hn; have B1 := Aside0.mk hb; clear hn hb)
  | (go_at_call 11; (with_reducible refine (aw_push M1.out).mono ?_); rintro x_ w2 ⟨F2, R2, rfl, hn⟩; have M2 := Aside0.mk hn; clear hn)
  | (go_at_call 12; (with_reducible refine (aw_send M2.out).mono ?_); rintro x_ w3 ⟨A3, c3, F3, R3, rfl, hn, hr⟩; have M3 := Aside0.mk hn; have HR3 := Aside0.mk hr; clear hn hr)
  | (go_at_call 13; (with_reducible refine (aw_again1 M3.out).mono ?_); rintro x_ w4 ⟨A4, c4, R4, rfl, hn, hx⟩; have M4 := Aside0.mk hn; have HR4 := Aside0.mk (HR3.out.step hx); clear hn hx)
  | (go_at_call 13; (with_reducible refine (aw_again2 M4.out).mono ?_); rintro x_ w5 ⟨A5, c5, R5, rfl, hn, hx⟩; have M5 := Aside0.mk hn; have HR5 := Aside0.mk (HR4.out.step hx); clear hn hx)
  | (go_at_call 14; (with_reducible refine (aw_got M5.out).mono ?_); rintro x_ w6 ⟨R6, rfl, hn, hx⟩; have M6 := Aside0.mk hn; have HR6 := Aside0.mk (HR5.out.step hx); clear hn hx)
  | (go_at_call 13; (with_reducible refine (aw_again3 M6.out).mono ?_); rintro x_ w7 ⟨A7, c7, R7, rfl, hn, hx⟩; have M7 := Aside0.mk hn; have HR7 := Aside0.mk (HR6.out.step hx); clear hn hx; obtain ⟨ad, A8, c8, e_, z0, _, _, _⟩ := at_T48 (Kd.R_reads' HR7.out.1).2.2 0 (Int.le_refl _) (by decide); cases e_; have e0 : ad.add ((0 : Int).toNat * 2) = ad := (by show ad.add 0 = ad; cases ad; simp [Addr.add]); rw [e0] at z0; replace z0 : w7.cell? ad = some (.int .i64 0) := z0; clear e0))
 go_ret
 exact ⟨rfl, M7.out.bl⟩
end Go.Proofs.Ytclbempnhelmoaa.P
namespace Go.Proofs.Ytclbempnhelmoaa.P
open Go.RowKit YtclbempnhelmoaaW.PrintWords YtclbempnhelmoaaW.PrintLast YtclbempnhelmoaaW.PrintMore
theorem cells17 {w : World} {g t : Nat} {v0 v1 v2 v3 v4 v5 v6 v7 v8 v9 v10 v11 v12 v13 v14 v15 v16 : Value} (h : w.heap[g]? = some (.cells #[v0, v1, v2, v3, v4, v5, v6, v7, v8, v9, v10, v11, v12, v13, v14, v15, v16] t (0, 0))) : w.cell? ⟨g, 0, none⟩ = some v0 ∧ w.cell? ⟨g, 1, none⟩ = some v1 ∧ w.cell? ⟨g, 2, none⟩ = some v2 ∧ w.cell? ⟨g, 3, none⟩ = some v3 ∧ w.cell? ⟨g, 4, none⟩ = some v4 ∧ w.cell? ⟨g, 5, none⟩ = some v5 ∧ w.cell? ⟨g, 6, none⟩ = some v6 ∧ w.cell? ⟨g, 7, none⟩ = some v7 ∧ w.cell? ⟨g, 8, none⟩ = some v8 ∧ w.cell? ⟨g, 9, none⟩ = some v9 ∧ w.cell? ⟨g, 10, none⟩ = some v10 ∧ w.cell? ⟨g, 11, none⟩ = some v11 ∧ w.cell? ⟨g, 12, none⟩ = some v12 ∧ w.cell? ⟨g, 13, none⟩ = some v13 ∧ w.cell? ⟨g, 14, none⟩ = some v14 ∧ w.cell? ⟨g, 15, none⟩ = some v15 ∧ w.cell? ⟨g, 16, none⟩ = some v16 := ⟨(blk_cell h 0).trans rfl, (blk_cell h 1).trans rfl, (blk_cell h 2).trans rfl, (blk_cell h 3).trans rfl, (blk_cell h 4).trans rfl, (blk_cell h 5).trans rfl, (blk_cell h 6).trans rfl, (blk_cell h 7).trans rfl, (blk_cell h 8).trans rfl, (blk_cell h 9).trans rfl, (blk_cell h 10).trans rfl, (blk_cell h 11).trans rfl, (blk_cell h 12).trans rfl, (blk_cell h 13).trans rfl, (blk_cell h 14).trans rfl, (blk_cell h 15).trans rfl, (blk_cell h 16).trans rfl⟩
theorem frozen17 {w : World} {g t : Nat} {cs : Array Value} (h : w.heap[g]? = some (.cells cs t (0, 0))) : w.frozen? ⟨g, 0, none⟩ = false ∧ w.frozen? ⟨g, 1, none⟩ = false ∧ w.frozen? ⟨g, 2, none⟩ = false ∧ w.frozen? ⟨g, 3, none⟩ = false ∧ w.frozen? ⟨g, 4, none⟩ = false ∧ w.frozen? ⟨g, 5, none⟩ = false ∧ w.frozen? ⟨g, 6, none⟩ = false ∧ w.frozen? ⟨g, 7, none⟩ = false ∧ w.frozen? ⟨g, 8, none⟩ = false ∧ w.frozen? ⟨g, 9, none⟩ = false ∧ w.frozen? ⟨g, 10, none⟩ = false ∧ w.frozen? ⟨g, 11, none⟩ = false ∧ w.frozen? ⟨g, 12, none⟩ = false ∧ w.frozen? ⟨g, 13, none⟩ = false ∧ w.frozen? ⟨g, 14, none⟩ = false ∧ w.frozen? ⟨g, 15, none⟩ = false ∧ w.frozen? ⟨g, 16, none⟩ = false := ⟨blk_frozen h 0, blk_frozen h 1, blk_frozen h 2, blk_frozen h 3, blk_frozen h 4, blk_frozen h 5, blk_frozen h 6, blk_frozen h 7, blk_frozen h 8, blk_frozen h 9, blk_frozen h 10, blk_frozen h 11, blk_frozen h 12, blk_frozen h 13, blk_frozen h 14, blk_frozen h 15, blk_frozen h 16⟩
theorem put17 {w : World} {g t : Nat} {z0 z1 z2 z3 z4 z5 z6 z7 z8 z9 z10 z11 z12 z13 z14 z15 z16 v0 v1 v2 v3 v4 v5 v6 v7 v8 v9 v10 v11 v12 v13 v14 v15 v16 : Value} (h : w.heap[g]? = some (.cells #[z0, z1, z2, z3, z4, z5, z6, z7, z8, z9, z10, z11, z12, z13, z14, z15, z16] t (0, 0))) : (((((((((((((((((w.setCell ⟨g, 0, none⟩ v0).setCell ⟨g, 1, none⟩ v1).setCell ⟨g, 2, none⟩ v2).setCell ⟨g, 3, none⟩ v3).setCell ⟨g, 4, none⟩ v4).setCell ⟨g, 5, none⟩ v5).setCell ⟨g, 6, none⟩ v6).setCell ⟨g, 7, none⟩ v7).setCell ⟨g, 8, none⟩ v8).setCell ⟨g, 9, none⟩ v9).setCell ⟨g, 10, none⟩ v10).setCell ⟨g, 11, none⟩ v11).setCell ⟨g, 12, none⟩ v12).setCell ⟨g, 13, none⟩ v13).setCell ⟨g, 14, none⟩ v14).setCell ⟨g, 15, none⟩ v15).setCell ⟨g, 16, none⟩ v16).heap[g]? = some (.cells #[v0, v1, v2, v3, v4, v5, v6, v7, v8, v9, v10, v11, v12, v13, v14, v15, v16] t (0, 0)) := blk_put (blk_put (blk_put (blk_put (blk_put (blk_put (blk_put (blk_put (blk_put (blk_put (blk_put (blk_put (blk_put (blk_put (blk_put (blk_put (blk_put (h) 0 v0 (cs' := #[v0, z1, z2, z3, z4, z5, z6, z7, z8, z9, z10, z11, z12, z13, z14, z15, z16]) rfl) 1 v1 (cs' := #[v0, v1, z2, z3, z4, z5, z6, z7, z8, z9, z10, z11, z12, z13, z14, z15, z16]) rfl) 2 v2 (cs' := #[v0, v1, v2, z3, z4, z5, z6, z7, z8, z9, z10, z11, z12, z13, z14, z15, z16]) rfl) 3 v3 (cs' := #[v0, v1, v2, v3, z4, z5, z6, z7, z8, z9, z10, z11, z12, z13, z14, z15, z16]) rfl) 4 v4 (cs' := #[v0, v1, v2, v3, v4, z5, z6, z7, z8, z9, z10, z11, z12, z13, z14, z15, z16]) rfl) 5 v5 (cs' := #[v0, v1, v2, v3, v4, v5, z6, z7, z8, z9, z10, z11, z12, z13, z14, z15, z16]) rfl) 6 v6 (cs' := #[v0, v1, v2, v3, v4, v5, v6, z7, z8, z9, z10, z11, z12, z13, z14, z15, z16]) rfl) 7 v7 (cs' := #[v0, v1, v2, v3, v4, v5, v6, v7, z8, z9, z10, z11, z12, z13, z14, z15, z16]) rfl) 8 v8 (cs' := #[v0, v1, v2, v3, v4, v5, v6, v7, v8, z9, z10, z11, z12, z13, z14, z15, z16]) rfl) 9 v9 (cs' := #[v0, v1, v2, v3, v4, v5, v6, v7, v8, v9, z10, z11, z12, z13, z14, z15, z16]) rfl) 10 v10 (cs' := #[v0, v1, v2, v3, v4, v5, v6, v7, v8, v9, v10, z11, z12, z13, z14, z15, z16]) rfl) 11 v11 (cs' := #[v0, v1, v2, v3, v4, v5, v6, v7, v8, v9, v10, v11, z12, z13, z14, z15, z16]) rfl) 12 v12 (cs' := #[v0, v1, v2, v3, v4, v5, v6, v7, v8, v9, v10, v11, v12, z13, z14, z15, z16]) rfl) 13 v13 (cs' := #[v0, v1, v2, v3, v4, v5, v6, v7, v8, v9, v10, v11, v12, v13, z14, z15, z16]) rfl) 14 v14 (cs' := #[v0, v1, v2, v3, v4, v5, v6, v7, v8, v9, v10, v11, v12, v13, v14, z15, z16]) rfl) 15 v15 (cs' := #[v0, v1, v2, v3, v4, v5, v6, v7, v8, v9, v10, v11, v12, v13, v14, v15, z16]) rfl) 16 v16 (cs' := #[v0, v1, v2, v3, v4, v5, v6, v7, v8, v9, v10, v11, v12, v13, v14, v15, v16]) rfl
theorem below17 {w0 w : World} {g : Nat} {v0 v1 v2 v3 v4 v5 v6 v7 v8 v9 v10 v11 v12 v13 v14 v15 v16 : Value} (hg : w0.heap.size ≤ g) (hb : Below w0.heap.size w0 w) : Below w0.heap.size w0 (((((((((((((((((w.setCell ⟨g, 0, none⟩ v0).setCell ⟨g, 1, none⟩ v1).setCell ⟨g, 2, none⟩ v2).setCell ⟨g, 3, none⟩ v3).setCell ⟨g, 4, none⟩ v4).setCell ⟨g, 5, none⟩ v5).setCell ⟨g, 6, none⟩ v6).setCell ⟨g, 7, none⟩ v7).setCell ⟨g, 8, none⟩ v8).setCell ⟨g, 9, none⟩ v9).setCell ⟨g, 10, none⟩ v10).setCell ⟨g, 11, none⟩ v11).setCell ⟨g, 12, none⟩ v12).setCell ⟨g, 13, none⟩ v13).setCell ⟨g, 14, none⟩ v14).setCell ⟨g, 15, none⟩ v15).setCell ⟨g, 16, none⟩ v16) := below_set (below_set (below_set (below_set (below_set (below_set (below_set (below_set (below_set (below_set (below_set (below_set (below_set (below_set (below_set (below_set (below_set (hb) hg) hg) hg) hg) hg) hg) hg) hg) hg) hg) hg) hg) hg) hg) hg) hg) hg
theorem Hr.row {α : Type} {d : Kd α} {e : Nat} {w0 w : World} {F R : Nat → Prop} {v : Value} {xs : List α} (h : Hr d e w0 w F R v xs) : d.R e w w0.heap.size (fun k => ¬ R k) v xs := h.1
theorem Hr.own {α : Type} {d : Kd α} {e : Nat} {w0 w : World} {F R : Nat → Prop} {v : Value} {xs : List α} (h : Hr d e w0 w F R v xs) : ∀ k, v.ownBlock = some k → ¬ F k := h.2
theorem Sn.keepb {w0 w w' : World} {F R F' R' : Nat → Prop} {g : Nat} {wn tr : Int} {s : AS} {b : Nat} {o : Obj} (h : Sn w0 w F R g wn tr s) (hs : SX w F R w' F' R') (hb : w.heap[b]? = some o) (hF : ¬ F b) : w'.heap[b]? = some o ∧ ¬ F' b := by
 refine ⟨(hs.fr b (blk_lt hb) (fun hR => hF (h.rf b hR))).trans hb, fun h2 => ?_⟩
 rcases hs.fp b h2 with e | e
 ·exact hF e
 ·have := blk_lt hb
  omega
end Go.Proofs.Ytclbempnhelmoaa.P
namespace Go.Proofs.Ytclbempnhelmoaa.P
open Go.RowKit YtclbempnhelmoaaW.PrintWords YtclbempnhelmoaaW.PrintLast YtclbempnhelmoaaW.PrintMore
open Classical
theorem nums_next : ∀ (X : List S48) (n : Int) (b : S48) (R : List S48), 0 ≤ n ∧ n ≤ 65535 → Nums n (X ++ b :: R) → b.f0 = nextL n X := by
 intro X
 induction X with
 | nil => intro n b R _ h; exact h.1
 | cons x X ih =>
  intro n b R hn h
  obtain ⟨h1, h2⟩ := h
  have e : nextN x.f0 = nx n := by rw [h1]; exact nextN_eq n (by omega)
  show b.f0 = nextL (nextN x.f0) X
  rw [e]
  exact ih (nx n) b R (by unfold nx; omega) h2
theorem fst_send {wn : Int} {s : AS} (h : 0 ≤ s.nx ∧ s.nx ≤ 65535) : fstA (sendA wn s) = fstA s := by
 have hm : s.nx % 65536 = s.nx := by omega
 unfold sendA
 cases hd : s.D with
 | cons d D => unfold fstA; rw [hd]; rfl
 | nil =>
  cases hx : XA wn s with
  | nil => unfold fstA; rw [hd]; rfl
  | cons x X =>
   have hp : Nums s.nx (packA s) := by have := pack_nums 512 s.W (s.nx % 65536) []; rw [hm] at this; unfold packA; rw [hm]; exact this
   have hpre : XA wn s <+: packA s := List.takeWhile_prefix _
   rw [hx] at hpre
   obtain ⟨R, hR⟩ := hpre
   rw [← hR] at hp
   unfold fstA
   rw [hd]
   exact hp.1
theorem XA_twice {wn : Int} {s : AS} (h : 0 ≤ s.nx ∧ s.nx ≤ 65535) : XA wn (sendA wn s) = [] := by
 have hm : s.nx % 65536 = s.nx := by omega
 have hn2 := nextL_range (XA wn s) s.nx h
 have hm2 : (sendA wn s).nx % 65536 = (sendA wn s).nx := by show nextL s.nx (XA wn s) % 65536 = nextL s.nx (XA wn s); omega
 have hp : Nums s.nx (packA s) := by have := pack_nums 512 s.W (s.nx % 65536) []; unfold packA; rw [hm] at this ⊢; exact this
 have hp2 : Nums (sendA wn s).nx (packA (sendA wn s)) := by have := pack_nums 512 (sendA wn s).W ((sendA wn s).nx % 65536) []; unfold packA; rw [hm2] at this ⊢; exact this
 have hsp := List.takeWhile_append_dropWhile (p := fun b : S48 => decide (far (fstA s) b.f0 < wn)) (l := packA s)
 cases hdw : (packA s).dropWhile (fun b : S48 => decide (far (fstA s) b.f0 < wn)) with
 | nil =>
  rw [hdw, List.append_nil] at hsp
  have hW : (sendA wn s).W = [] := by
   show s.W.drop (goneL (XA wn s)) = []
   unfold XA
   rw [hsp, packA_gone, List.drop_length]
  unfold XA
  have : packA (sendA wn s) = [] := by unfold packA; rw [hW]; exact pack_nil0 _ _
  rw [this]
  rfl
 | cons b R =>
  rw [hdw] at hsp
  have hb : decide (far (fstA s) b.f0 < wn) = false := by
   have := List.head?_dropWhile_not (fun b : S48 => decide (far (fstA s) b.f0 < wn)) (packA s)
   rw [hdw] at this
   simpa using this
  have hnx : b.f0 = nextL s.nx (XA wn s) := nums_next (XA wn s) s.nx b R h (by unfold XA; rw [hsp]; exact hp)
  unfold XA
  cases hq : packA (sendA wn s) with
  | nil => rfl
  | cons c R2 =>
   rw [hq] at hp2
   have hc : c.f0 = b.f0 := hp2.1.trans hnx.symm
   rw [List.takeWhile_cons_of_neg]
   rw [fst_send h, hc, hb]
   decide
theorem again_len (tr : Int) (s : AS) : (againA tr s).D.length = s.D.length := by
 unfold againA
 split
 ·rfl
 ·exact List.length_map ..
theorem gotA_yes {a : S36} {s : AS} (h : takesA a s) : gotA a s = ⟨s.W, s.D.filter (fun d => !hasA' a d), s.nx⟩ := if_pos h
theorem gotA_no {a : S36} {s : AS} (h : ¬ takesA a s) : gotA a s = s := if_neg h
theorem got_idem (a : S36) (s : AS) : (gotA a (gotA a s)).D.length = (gotA a s).D.length := by
 by_cases h2 : takesA a (gotA a s)
 ·rw [gotA_yes h2]
  by_cases h : takesA a s
  ·rw [gotA_yes h]
   show ((s.D.filter _).filter _).length = _
   rw [List.filter_filter]
   simp
  ·rw [gotA_no h] at h2
   exact absurd h2 h
 ·rw [gotA_no h2]
theorem got_le (a : S36) (s : AS) : (gotA a s).D.length ≤ s.D.length := by
 unfold gotA
 split
 ·exact List.length_filter_le _ _
 ·exact Nat.le_refl _
section
variable {w0 w : World} {F R : Nat → Prop} {g : Nat} {wn tr : Int} {s : AS} {n m : Nat}
theorem send_n (h : Sn w0 w F R g wn tr s) (hk : OkA tr n s) (hn : n ≤ 800000) : Calls Try.prog 12 #[.pointer (some ⟨g, 0, none⟩)] w fun e w' => ∃ A c F' R', e = .returned (.slice A (XA wn s).length c) ∧ Sn w0 w' F' R' g wn tr (sendA wn s) := by
 refine (send_a h hk (by omega)).mono ?_
 rintro e w' ⟨v, F', R', rfl, hs, _, hr, _⟩
 obtain ⟨A, c, rfl⟩ := Kd.R_slice hr.1
 exact ⟨A, c, F', R', rfl, hs⟩
theorem send_two {n2 : Nat} (h : Sn w0 w F R g wn tr (sendA wn s)) (hk : OkA tr n2 (sendA wn s)) (hn : n ≤ 800000) (hs : OkA tr n s) : Calls Try.prog 12 #[.pointer (some ⟨g, 0, none⟩)] w fun e w' => ∃ A c F' R', e = .returned (.slice A 0 c) ∧ Sn w0 w' F' R' g wn tr (sendA wn (sendA wn s)) := by
 refine (send_a h (n := n + 1024) ⟨hk.1, hk.2.1, ?_, hk.2.2.2⟩ (by omega)).mono ?_
 ·show (s.D ++ (XA wn s).map _).length ≤ n + 1024
  rw [List.length_append, List.length_map]
  have := hs.2.2.1
  have := XA_len (wn := wn) hs.1
  have := hs.2.1
  omega
 ·rintro e w' ⟨v, F', R', rfl, h2, _, hr, _⟩
  rw [XA_twice hs.2.2.2.2] at hr
  obtain ⟨A, c, rfl⟩ := Kd.R_slice hr.1
  exact ⟨A, c, F', R', rfl, h2⟩
theorem out_n (h : Sn w0 w F R g wn tr s) (hk : OkA tr n s) (hn : n ≤ 800000) (hm : m = s.D.length) : Calls Try.prog 15 #[.pointer (some ⟨g, 0, none⟩)] w fun e w' => ∃ A c, e = .returned (.slice A m c) ∧ Below w.heap.size w w' := by
 refine (out_a h hk (by omega)).mono ?_
 rintro e w' ⟨v, rfl, hb, hr, _⟩
 obtain ⟨A, c, rfl⟩ := Kd.R_slice hr.1
 exact ⟨A, c, by rw [List.length_map, ← hm], hb⟩
theorem wait_n (h : Sn w0 w F R g wn tr s) (hk : OkA tr n s) (hm : m = s.W.length) : Calls Try.prog 23 #[.pointer (some ⟨g, 0, none⟩)] w fun e w' => ∃ A c, e = .returned (.slice A m c) ∧ Below w.heap.size w w' := by
 refine (wait_a h hk).mono ?_
 rintro e w' ⟨v, rfl, hr, hb⟩
 obtain ⟨A, c, rfl⟩ := Kd.R_slice hr
 exact ⟨A, c, by rw [← hm], hb⟩
theorem again_y (h : Sn w0 w F R g wn tr s) (hk : OkA tr n s) (hn : n ≤ 800000) (ht : tr ≤ 100) (hf : ¬ fullA tr s) (hm : m = s.D.length) : Calls Try.prog 13 #[.pointer (some ⟨g, 0, none⟩)] w fun e w' => ∃ A c R', e = .returned (.tuple #[.slice A m c, .bool true]) ∧ Sn w0 w' F R' g wn tr (againA tr s) := by
 refine (again_a h hk (by omega) ht).mono ?_
 rintro e w' ⟨v, R', rfl, hs, _, hr, _⟩
 unfold againL at hr
 rw [if_neg hf] at hr
 rw [decide_eq_true hf]
 obtain ⟨A, c, rfl⟩ := Kd.R_slice hr.1
 exact ⟨A, c, R', by rw [List.length_map, ← hm], hs⟩
theorem again_f (h : Sn w0 w F R g wn tr s) (hk : OkA tr n s) (hn : n ≤ 800000) (ht : tr ≤ 100) (hf : fullA tr s) : Calls Try.prog 13 #[.pointer (some ⟨g, 0, none⟩)] w fun e w' => ∃ A c R', e = .returned (.tuple #[.slice A 0 c, .bool false]) ∧ Sn w0 w' F R' g wn tr (againA tr s) := by
 refine (again_a h hk (by omega) ht).mono ?_
 rintro e w' ⟨v, R', rfl, hs, _, hr, _⟩
 unfold againL at hr
 rw [if_pos hf] at hr
 rw [decide_eq_false (fun h => h hf)]
 obtain ⟨A, c, rfl⟩ := Kd.R_slice hr.1
 exact ⟨A, c, R', rfl, hs⟩
theorem got_n (h : Sn w0 w F R g wn tr s) (hk : OkA tr n s) (hn : n ≤ 800000) (a : S36) {k : Int} (hq : k = (s.D.length : Int) - ((gotA a s).D.length : Int)) : Calls Try.prog 14 #[.pointer (some ⟨g, 0, none⟩), ackV a] w fun e w' => ∃ R', e = .returned (.int .i64 k) ∧ Sn w0 w' F R' g wn tr (gotA a s) ∧ SX w F R w' F R' := by
 subst hq
 exact got_a h hk (by omega) a
theorem got_again {a : S36} (h : Sn w0 w F R g wn tr (gotA a s)) (hk : OkA tr n (gotA a s)) (hn : n ≤ 800000) : Calls Try.prog 14 #[.pointer (some ⟨g, 0, none⟩), ackV a] w fun e w' => ∃ R', e = .returned (.int .i64 0) ∧ Sn w0 w' F R' g wn tr (gotA a (gotA a s)) := by
 refine (got_a h hk (by omega) a).mono ?_
 rintro e w' ⟨R', rfl, hs, _⟩
 rw [got_idem, Int.sub_self]
 exact ⟨R', rfl, hs⟩
end
def thalweglaw14_SenderOnce.f (a0 a1 : Int) (l2 : List S38) : Option Bool := some true
theorem once_no (a0 a1 : Int) (A2 : Option Addr) (c2 n : Nat) (w : World) (hv : ¬ (1 ≤ a0 ∧ a0 ≤ 16 ∧ 1 ≤ a1 ∧ a1 ≤ 100)) :
  Calls Try.prog 8 #[.int .i64 a0, .int .i64 a1, .slice A2 n c2] w fun e w' => e = .returned (.bool true) ∧ Below w.heap.size w w' := by
 have HV := Aside0.mk hv
 clear hv
 go_enter Try.func8, Try.ntmps8
 go_wp2_with (first
  | (go_at_call 9; (with_reducible refine (new_no _ _ _ HV.out).mono ?_); rintro x_ w_ ⟨rfl, rfl⟩)
  | (go_at_call 10; (with_reducible refine (awake_a _).mono ?_); rintro x_ w9 ⟨rfl, hb⟩; have B9 := Aside0.mk (below_step (Below.refl _ _) hb); have HBA := Aside0.mk hb; clear hb))
 go_ret
 exact ⟨rfl, B9.out⟩
theorem once_long (a0 a1 : Int) (A2 : Option Addr) (c2 n : Nat) (w : World) (hv : 1 ≤ a0 ∧ a0 ≤ 16 ∧ 1 ≤ a1 ∧ a1 ≤ 100) (hl : (n : Int) > 100) :
  Calls Try.prog 8 #[.int .i64 a0, .int .i64 a1, .slice A2 n c2] w fun e w' => e = .returned (.bool true) ∧ Below w.heap.size w w' := by
 have HV := Aside0.mk hv
 have bq : decide ((n : Int) > 100) = true := decide_eq_true hl
 clear hv hl
 go_enter Try.func8, Try.ntmps8
 go_wp2_with (first
  | (go_at_call 9; (with_reducible refine (new_a (Below.refl _ _) a0 a1 HV.out.1 HV.out.2.1 HV.out.2.2.1 HV.out.2.2.2).mono ?_); rintro x_ w2 ⟨g, F2, R2, rfl, hn, _, _⟩; have M2 := Aside0.mk hn; clear hn)
  | (go_at_call 10; (with_reducible refine (awake_a _).mono ?_); rintro x_ w9 ⟨rfl, hb⟩; have B9 := Aside0.mk (below_step M2.out.bl hb); have HBA := Aside0.mk hb; clear hb))
 go_ret
 exact ⟨rfl, B9.out⟩
theorem once_ok (a0 a1 : Int) (A2 : Option Addr) (c2 n : Nat) (l2 : List S38) (w : World) (hr2 : Kd.C k38 w A2 n l2) (hv : 1 ≤ a0 ∧ a0 ≤ 16 ∧ 1 ≤ a1 ∧ a1 ≤ 100) (hl : ¬ (n : Int) > 100) :
  Calls Try.prog 8 #[.int .i64 a0, .int .i64 a1, .slice A2 n c2] w fun e w' => e = .returned (.bool true) ∧ Below w.heap.size w w' := by
 have HV := Aside0.mk hv
 have HR2 := Aside0.mk hr2
 have HL := Aside0.mk hl
 have bq : decide ((n : Int) > 100) = false := decide_eq_false hl
 clear hv hl hr2
 go_enter Try.func8, Try.ntmps8
 go_wp2_with (go_at_call 9; (with_reducible refine (new_a (Below.refl _ _) a0 a1 HV.out.1 HV.out.2.1 HV.out.2.2.1 HV.out.2.2.2).mono ?_); rintro x_ w2 ⟨g, F2, R2, rfl, hn, _, _⟩; have M2 := Aside0.mk hn; clear hn)
 go_loopg [9] n (fun kq v9 wr => ∃ (x : Int) (F R : Nat → Prop) (s : AS), v9 = .int .i64 x ∧ Aside0 (0 ≤ x) ∧ Aside0 (x + kq = n) ∧ Aside0 (Sn w wr F R g a0 a1 s) ∧ Aside0 (OkA a1 (2048 * x.toNat) s))
 case atStart => exact ⟨0, F2, R2, _, rfl, ⟨by omega⟩, ⟨by omega⟩, M2, ⟨OkA.nil _ _⟩⟩
 case round =>
  clear M2
  obtain ⟨x, F, R, s, rfl, H0, HI, SS, HK⟩ := hrel
  cases gk with
  | zero =>
   have hnl : decide (x < (n : Int)) = false := decide_eq_false (by have := HI.out; omega)
   obtain ⟨mw, hmw⟩ : ∃ mw, mw = s.W.length := ⟨_, rfl⟩
   have HMW := Aside0.mk hmw
   have hw2 : decide ((mw : Int) ≤ 1024) = true := decide_eq_true (by have := HK.out.2.1; omega)
   clear hmw
   go_wp2_with (first
    | (go_at_call 10; (with_reducible refine (awake_a _).mono ?_); rintro x_ w9 ⟨rfl, hb⟩; have B9 := Aside0.mk (below_step SS.out.bl hb); have HBA := Aside0.mk hb; clear hb)
    | (go_at_call 23; (with_reducible refine (wait_n (SS.out.below HBA.out) HK.out HMW.out).mono ?_); rintro x_ w10 ⟨A10, c10, rfl, hb⟩; have B10 := Aside0.mk (below_step B9.out hb); clear hb))
   go_ret
   exact ⟨rfl, B10.out⟩
  | succ k1 =>
   have hlt := (show x < (n : Int) by have := HI.out; omega)
   have h0 := H0.out
   have hd : decide (x < (n : Int)) = true := decide_eq_true hlt
   have hw : wrap64 (x + 1) = x + 1 := w64 (by omega) (by have := HL.out; omega)
   have HN9 := Aside0.mk (show 2048 * x.toNat ≤ 800000 by have := HL.out; omega)
   obtain ⟨ad, e_, x0, x1, x2, x3, x4, x5, x6, x7, x8, x9, x10, x11, x12, x13, x14, x15, x16⟩ := at_T38 (Kd.C_below HR2.out SS.out.bl) x h0 hlt
   cases e_
   obtain ⟨y, hy⟩ : ∃ y, y = rd_T38 l2 x := ⟨_, rfl⟩
   rw [← hy] at x0 x1 x2 x3 x4 x5 x6 x7 x8 x9 x10 x11 x12 x13 x14 x15 x16
   have h0t := eq_true h0
   have hltt := eq_true hlt
   clear hy bq
   go_upto_region 8 with ((with_reducible refine gate_dst (N := 10) rfl ?_); refine box_event ?hg (N := 10) ?hd (cs := #[.int .i64 0, .int .i64 0, .int .i64 0, .bool false, .int .i64 0, .int .i64 0, .int .i64 0, .int .i64 0, .int .i64 0, .int .i64 0, .int .i64 0, .int .i64 0, .int .i64 0, .int .i64 0, .int .i64 0, .int .i64 0, .int .i64 0]) (t := 38) ?hr ?_; (case hd => rfl); (case hg => rfl); (case hr => first | (go_simp; done) | (go_simp; rfl) | rfl | kernel_rfl); intro gb hg w3 hbox hb; have HB3 := Aside0.mk (show Below wr.heap.size wr (((((((((((((((((w3.setCell ⟨gb, 0, none⟩ (.int .i64 y.f0)).setCell ⟨gb, 1, none⟩ (.int .i64 y.f1.f0)).setCell ⟨gb, 2, none⟩ (.int .i64 y.f1.f1)).setCell ⟨gb, 3, none⟩ (.bool y.f1.f2.f0)).setCell ⟨gb, 4, none⟩ (.int .i64 y.f1.f2.f1)).setCell ⟨gb, 5, none⟩ (.int .i64 y.f1.f2.f2)).setCell ⟨gb, 6, none⟩ (.int .i64 y.f1.f2.f3)).setCell ⟨gb, 7, none⟩ (.int .i64 y.f1.f2.f4)).setCell ⟨gb, 8, none⟩ (.int .i64 y.f1.f2.f5)).setCell ⟨gb, 9, none⟩ (.int .i64 y.f1.f3.f0)).setCell ⟨gb, 10, none⟩ (.int .i64 y.f1.f3.f1)).setCell ⟨gb, 11, none⟩ (.int .i64 y.f1.f3.f2)).setCell ⟨gb, 12, none⟩ (.int .i64 y.f1.f4)).setCell ⟨gb, 13, none⟩ (.int .i64 y.f2.f0)).setCell ⟨gb, 14, none⟩ (.int .i64 y.f2.f1)).setCell ⟨gb, 15, none⟩ (.int .i64 y.f2.f2)).setCell ⟨gb, 16, none⟩ (.int .i64 y.f2.f3)) from below17 (Nat.le_of_eq hg.symm) hb); have BB3 := Aside0.mk (show (((((((((((((((((w3.setCell ⟨gb, 0, none⟩ (.int .i64 y.f0)).setCell ⟨gb, 1, none⟩ (.int .i64 y.f1.f0)).setCell ⟨gb, 2, none⟩ (.int .i64 y.f1.f1)).setCell ⟨gb, 3, none⟩ (.bool y.f1.f2.f0)).setCell ⟨gb, 4, none⟩ (.int .i64 y.f1.f2.f1)).setCell ⟨gb, 5, none⟩ (.int .i64 y.f1.f2.f2)).setCell ⟨gb, 6, none⟩ (.int .i64 y.f1.f2.f3)).setCell ⟨gb, 7, none⟩ (.int .i64 y.f1.f2.f4)).setCell ⟨gb, 8, none⟩ (.int .i64 y.f1.f2.f5)).setCell ⟨gb, 9, none⟩ (.int .i64 y.f1.f3.f0)).setCell ⟨gb, 10, none⟩ (.int .i64 y.f1.f3.f1)).setCell ⟨gb, 11, none⟩ (.int .i64 y.f1.f3.f2)).setCell ⟨gb, 12, none⟩ (.int .i64 y.f1.f4)).setCell ⟨gb, 13, none⟩ (.int .i64 y.f2.f0)).setCell ⟨gb, 14, none⟩ (.int .i64 y.f2.f1)).setCell ⟨gb, 15, none⟩ (.int .i64 y.f2.f2)).setCell ⟨gb, 16, none⟩ (.int .i64 y.f2.f3)).heap[gb]? = some (.cells #[.int .i64 y.f0, .int .i64 y.f1.f0, .int .i64 y.f1.f1, .bool y.f1.f2.f0, .int .i64 y.f1.f2.f1, .int .i64 y.f1.f2.f2, .int .i64 y.f1.f2.f3, .int .i64 y.f1.f2.f4, .int .i64 y.f1.f2.f5, .int .i64 y.f1.f3.f0, .int .i64 y.f1.f3.f1, .int .i64 y.f1.f3.f2, .int .i64 y.f1.f4, .int .i64 y.f2.f0, .int .i64 y.f2.f1, .int .i64 y.f2.f2, .int .i64 y.f2.f3] 38 (0, 0)) from put17 hbox); have HNF := Aside0.mk (show ¬ F gb from fun hF => by have := SS.out.lt gb hF; omega); have S3 := Aside0.mk (SS.out.below HB3.out); obtain ⟨z0, z1, z2, z3, z4, z5, z6, z7, z8, z9, z10, z11, z12, z13, z14, z15, z16⟩ := cells17 hbox; obtain ⟨zf0, zf1, zf2, zf3, zf4, zf5, zf6, zf7, zf8, zf9, zf10, zf11, zf12, zf13, zf14, zf15, zf16⟩ := frozen17 hbox; obtain ⟨b0, b1, b2, b3, b4, b5, b6, b7, b8, b9, b10, b11, b12, b13, b14, b15, b16⟩ := cells17 BB3.out; clear hb hbox hg)
   generalize (((((((((((((((((w3.setCell ⟨gb, 0, none⟩ (.int .i64 y.f0)).setCell ⟨gb, 1, none⟩ (.int .i64 y.f1.f0)).setCell ⟨gb, 2, none⟩ (.int .i64 y.f1.f1)).setCell ⟨gb, 3, none⟩ (.bool y.f1.f2.f0)).setCell ⟨gb, 4, none⟩ (.int .i64 y.f1.f2.f1)).setCell ⟨gb, 5, none⟩ (.int .i64 y.f1.f2.f2)).setCell ⟨gb, 6, none⟩ (.int .i64 y.f1.f2.f3)).setCell ⟨gb, 7, none⟩ (.int .i64 y.f1.f2.f4)).setCell ⟨gb, 8, none⟩ (.int .i64 y.f1.f2.f5)).setCell ⟨gb, 9, none⟩ (.int .i64 y.f1.f3.f0)).setCell ⟨gb, 10, none⟩ (.int .i64 y.f1.f3.f1)).setCell ⟨gb, 11, none⟩ (.int .i64 y.f1.f3.f2)).setCell ⟨gb, 12, none⟩ (.int .i64 y.f1.f4)).setCell ⟨gb, 13, none⟩ (.int .i64 y.f2.f0)).setCell ⟨gb, 14, none⟩ (.int .i64 y.f2.f1)).setCell ⟨gb, 15, none⟩ (.int .i64 y.f2.f2)).setCell ⟨gb, 16, none⟩ (.int .i64 y.f2.f3)) = wq at HB3 BB3 S3 b0 b1 b2 b3 b4 b5 b6 b7 b8 b9 b10 b11 b12 b13 b14 b15 b16 ⊢
   by_cases q0 : y.f0 = 0
   ·have b0q : (y.f0 == 0) = true := beq_iff_eq.mpr q0
    clear q0
    go_wp2_with (go_at_call 11; (with_reducible refine (push_a S3.out y.f1).mono ?_); rintro x_ w4 ⟨F4, R4, rfl, hn, _⟩; have M4 := Aside0.mk hn; clear hn)
    go_roundg k1
    case measure => have := HI.out; omega
    case rel => exact ⟨x + 1, _, _, _, by first | rfl | simp [hw], ⟨by have := H0.out; omega⟩, ⟨by have := HI.out; omega⟩, M4, ⟨OkA.more (HK.out.push y.f1) (by have := H0.out; omega)⟩⟩
   have b0q : (y.f0 == 0) = false := beq_eq_false_iff_ne.mpr q0
   clear q0
   by_cases q1 : y.f0 = 1
   ·have b1q : (y.f0 == 1) = true := beq_iff_eq.mpr q1
    have HK1 := Aside0.mk (HK.out.send a0 HV.out.2.2.1)
    have HK2 := Aside0.mk (HK1.out.send a0 HV.out.2.2.1)
    clear q1
    go_wp2_with (first
     | (go_at_call 12; (with_reducible refine (send_two M4.out HK1.out HN9.out HK.out).mono ?_); rintro x_ w5 ⟨A5, c5, F5, R5, rfl, hn⟩; have M5 := Aside0.mk hn; clear hn)
     | (go_at_call 12; (with_reducible refine (send_n S3.out HK.out HN9.out).mono ?_); rintro x_ w4 ⟨A4, c4, F4, R4, rfl, hn⟩; have M4 := Aside0.mk hn; clear hn))
    go_roundg k1
    case measure => have := HI.out; omega
    case rel => exact ⟨x + 1, _, _, _, by first | rfl | simp [hw], ⟨by have := H0.out; omega⟩, ⟨by have := HI.out; omega⟩, M5, ⟨OkA.more (HK2.out) (by have := H0.out; omega)⟩⟩
   have b1q : (y.f0 == 1) = false := beq_eq_false_iff_ne.mpr q1
   clear q1
   obtain ⟨m, hm⟩ : ∃ m, m = s.D.length := ⟨_, rfl⟩
   have HM := Aside0.mk hm
   by_cases q2 : y.f0 = 2
   ·have b2q : (y.f0 == 2) = true := beq_iff_eq.mpr q2
    have HKA := Aside0.mk (HK.out.again)
    have HMA := Aside0.mk (show m = (againA a1 s).D.length by rw [again_len, hm])
    have bmm : ((m : Int) != (m : Int)) = false := by simp
    clear q2
    by_cases hf : fullA a1 s
    ·have HFU := Aside0.mk hf
     have bm0 : ((m : Int) == 0) = false := beq_eq_false_iff_ne.mpr (by
      obtain ⟨d, hd1, _⟩ := hf
      have := List.length_pos_of_mem hd1
      omega)
     clear hf hm
     go_wp2_with (first
      | (go_at_call 13; (with_reducible refine (again_f M4.out HK.out HN9.out HV.out.2.2.2 HFU.out).mono ?_); rintro x_ w5 ⟨A5, c5, R5, rfl, hn⟩; have M5 := Aside0.mk hn; clear hn)
      | (go_at_call 15; (with_reducible refine (out_n M5.out HKA.out HN9.out HMA.out).mono ?_); rintro x_ w6 ⟨A6, c6, rfl, hb⟩; have M6 := Aside0.mk (M5.out.below hb); clear hb)
      | (go_at_call 15; (with_reducible refine (out_n S3.out HK.out HN9.out HM.out).mono ?_); rintro x_ w4 ⟨A4, c4, rfl, hb⟩; have M4 := Aside0.mk (S3.out.below hb); clear hb))
     go_roundg k1
     case measure => have := HI.out; omega
     case rel => exact ⟨x + 1, _, _, _, by first | rfl | simp [hw], ⟨by have := H0.out; omega⟩, ⟨by have := HI.out; omega⟩, M6, ⟨OkA.more (HKA.out) (by have := H0.out; omega)⟩⟩
    ·have HFU := Aside0.mk hf
     clear hf hm
     go_wp2_with (first
      | (go_at_call 13; (with_reducible refine (again_y M4.out HK.out HN9.out HV.out.2.2.2 HFU.out HM.out).mono ?_); rintro x_ w5 ⟨A5, c5, R5, rfl, hn⟩; have M5 := Aside0.mk hn; clear hn)
      | (go_at_call 15; (with_reducible refine (out_n M5.out HKA.out HN9.out HMA.out).mono ?_); rintro x_ w6 ⟨A6, c6, rfl, hb⟩; have M6 := Aside0.mk (M5.out.below hb); clear hb)
      | (go_at_call 15; (with_reducible refine (out_n S3.out HK.out HN9.out HM.out).mono ?_); rintro x_ w4 ⟨A4, c4, rfl, hb⟩; have M4 := Aside0.mk (S3.out.below hb); clear hb))
     go_roundg k1
     case measure => have := HI.out; omega
     case rel => exact ⟨x + 1, _, _, _, by first | rfl | simp [hw], ⟨by have := H0.out; omega⟩, ⟨by have := HI.out; omega⟩, M6, ⟨OkA.more (HKA.out) (by have := H0.out; omega)⟩⟩
   have b2q : (y.f0 == 2) = false := beq_eq_false_iff_ne.mpr q2
   obtain ⟨m2, hm2⟩ : ∃ m2, m2 = (gotA y.f2 s).D.length := ⟨_, rfl⟩
   obtain ⟨kk, hkk⟩ : ∃ kk : Int, kk = (s.D.length : Int) - ((gotA y.f2 s).D.length : Int) := ⟨_, rfl⟩
   have HM2 := Aside0.mk hm2
   have HKK := Aside0.mk hkk
   have HKG := Aside0.mk (HK.out.got y.f2)
   have hle := got_le y.f2 s
   have hwk : wrap64 ((m : Int) - kk) = (m2 : Int) := by
    rw [show (m : Int) - kk = (m2 : Int) by omega]
    exact w64 (by omega) (by have := HK.out.2.2.1; have := HN9.out; omega)
   have bkk : decide (kk < 0) = false := decide_eq_false (by omega)
   have bmm : ((m2 : Int) != (m2 : Int)) = false := by simp
   clear q2 hm hm2 hkk hle
   go_wp2_with (first
    | (go_at_call 14; (with_reducible refine (got_again M6.out HKG.out HN9.out).mono ?_); rintro x_ w7 ⟨R7, rfl, hn⟩; have M7 := Aside0.mk hn; clear hn)
    | (go_at_call 15; (with_reducible refine (out_n M5.out HKG.out HN9.out HM2.out).mono ?_); rintro x_ w6 ⟨A6, c6, rfl, hb⟩; have M6 := Aside0.mk (M5.out.below hb); have BB6 := Aside0.mk (blk_below BB5.out hb); obtain ⟨_, _, _, _, _, _, _, _, _, _, _, _, _, e13, e14, e15, e16⟩ := cells17 BB6.out; clear hb)
    | (go_at_call 14; (with_reducible refine (got_n M4.out HK.out HN9.out y.f2 HKK.out).mono ?_); rintro x_ w5 ⟨R5, rfl, hn, hx⟩; have M5 := Aside0.mk hn; have BB5 := Aside0.mk (M4.out.keepb hx BB4.out HNF.out).1; clear hn hx)
    | (go_at_call 15; (with_reducible refine (out_n S3.out HK.out HN9.out HM.out).mono ?_); rintro x_ w4 ⟨A4, c4, rfl, hb⟩; have M4 := Aside0.mk (S3.out.below hb); have BB4 := Aside0.mk (blk_below BB3.out hb); obtain ⟨_, _, _, _, _, _, _, _, _, _, _, _, _, d13, d14, d15, d16⟩ := cells17 BB4.out; clear hb))
   go_roundg k1
   case measure => have := HI.out; omega
   case rel => exact ⟨x + 1, _, _, _, by first | rfl | simp [hw], ⟨by have := H0.out; omega⟩, ⟨by have := HI.out; omega⟩, M7, ⟨OkA.more (HKG.out.got y.f2) (by have := H0.out; omega)⟩⟩
theorem thalweglaw14_SenderOnce.calls (a0 a1 : Int) (A2 : Option Addr) (c2 : Nat) (l2 : List S38) (r : Bool) (w : World) (hr2 : Kd.C k38 w A2 l2.length l2) (hc2 : l2.length ≤ c2) (h : thalweglaw14_SenderOnce.f a0 a1 l2 = some r) :
  Calls Try.prog 8 #[.int .i64 a0, .int .i64 a1, .slice A2 l2.length c2] w fun e w' => e = .returned (.bool r) ∧ Below w.heap.size w w' := by
 have hr : true = r := Option.some.inj h
 subst hr
 by_cases hv : 1 ≤ a0 ∧ a0 ≤ 16 ∧ 1 ≤ a1 ∧ a1 ≤ 100
 ·by_cases hl : (l2.length : Int) > 100
  ·exact once_long a0 a1 A2 c2 _ w hv hl
  ·exact once_ok a0 a1 A2 c2 _ l2 w hr2 hv hl
 ·exact once_no a0 a1 A2 c2 _ w hv
end Go.Proofs.Ytclbempnhelmoaa.P
namespace Go.Proofs.Ytclbempnhelmoaa.P
open Go.RowKit YtclbempnhelmoaaW.PrintWords YtclbempnhelmoaaW.PrintLast YtclbempnhelmoaaW.PrintMore
open YtclbempnhelmoaaW.PrintWords.Aside0 renaming mk → YA
attribute [local go_sem] max2_int min2_int max_two min_two max_three min_three max_four min_four
attribute [local go_sem high] eqA34
def thalwegref04_Same.l0 : Nat → List (S34) → List (S34) → Int → Option (Bool)
 | 0, _, _, _ => none
 | k + 1, x0, x1, x5 => if x5 < (x0.length : Int) then (if 0 ≤ x5 then (if x5 < (x1.length : Int) then (if (!(((rd_T34 x0 x5).f0) == ((rd_T34 x1 x5).f0)) || (!(((rd_T34 x0 x5).f1) == ((rd_T34 x1 x5).f1)) || ((!(((rd_T34 x0 x5).f2.f0) == ((rd_T34 x1 x5).f2.f0)) || (!(((rd_T34 x0 x5).f2.f1) == ((rd_T34 x1 x5).f2.f1)) || (!(((rd_T34 x0 x5).f2.f2) == ((rd_T34 x1 x5).f2.f2)) || (!(((rd_T34 x0 x5).f2.f3) == ((rd_T34 x1 x5).f2.f3)) || (!(((rd_T34 x0 x5).f2.f4) == ((rd_T34 x1 x5).f2.f4)) || (!(((rd_T34 x0 x5).f2.f5) == ((rd_T34 x1 x5).f2.f5)))))))) || ((!(((rd_T34 x0 x5).f3.f0) == ((rd_T34 x1 x5).f3.f0)) || (!(((rd_T34 x0 x5).f3.f1) == ((rd_T34 x1 x5).f3.f1)) || (!(((rd_T34 x0 x5).f3.f2) == ((rd_T34 x1 x5).f3.f2))))) || (!(((rd_T34 x0 x5).f4) == ((rd_T34 x1 x5).f4))))))) = true then (some false) else (thalwegref04_Same.l0 k x0 x1 (wrap64 (x5 + 1)))) else (none)) else (none)) else (some true)
def thalwegref04_Same.f (k : Nat) (l0 : List (S34)) (l1 : List (S34)) : Option (Bool) := if (l0.length : Int) = (l1.length : Int) then (thalwegref04_Same.l0 k l0 l1 0) else (some false)
theorem thalwegref04_Same.mono_l : ∀ k, (∀ y0 y1 y2, LeO (thalwegref04_Same.l0 k y0 y1 y2) (thalwegref04_Same.l0 (k + 1) y0 y1 y2))
 | 0 => fun _ _ _ r h => by simp [thalwegref04_Same.l0] at h
 | k + 1 => by
  have ih0 := thalwegref04_Same.mono_l k
  ·intro y0 y1 y2
   unfold thalwegref04_Same.l0
   repeat' first
   | (with_reducible exact ih0 _ _ _)
   | (with_reducible exact LeO.refl _)
   | (with_reducible exact LeO.none _)
   | (with_reducible refine LeO.ite ?_ ?_)
   | (with_reducible refine LeO.bind ?_ (fun _ => ?_))
   | exact ih0 _ _ _
   | exact LeO.none _
   | refine LeO.ite ?_ ?_
   | refine LeO.bind ?_ (fun _ => ?_)
theorem thalwegref04_Same.mono : ∀ a0 a1 k, LeO (thalwegref04_Same.f k a0 a1) (thalwegref04_Same.f (k + 1) a0 a1) := by
 intro a0 a1 k
 have ih0 := thalwegref04_Same.mono_l k
 unfold thalwegref04_Same.f
 repeat' first
   | (with_reducible exact ih0 _ _ _)
   | (with_reducible exact LeO.refl _)
   | (with_reducible exact LeO.none _)
   | (with_reducible refine LeO.ite ?_ ?_)
   | (with_reducible refine LeO.bind ?_ (fun _ => ?_))
   | exact ih0 _ _ _
   | exact LeO.none _
   | refine LeO.ite ?_ ?_
   | refine LeO.bind ?_ (fun _ => ?_)
theorem thalwegref04_Same.calls (k : Nat) (A0 : Option Addr) (c0 : Nat) (l0 : List (S34)) (A1 : Option Addr) (c1 : Nat) (l1 : List (S34)) (r : Bool) (w : World) (hr0 : Kd.C k34 w A0 l0.length l0) (hc0 : l0.length ≤ c0) (hr1 : Kd.C k34 w A1 l1.length l1) (hc1 : l1.length ≤ c1) (h : thalwegref04_Same.f k l0 l1 = some r) :
  Calls Try.prog 22 #[.slice A0 l0.length c0, .slice A1 l1.length c1] w fun e w' => e = .returned (.bool r) ∧ Drawn0 w w' := by
 have hu34 := Try.underlying34
 have HR0 := YA hr0; have HC0 := YA hc0; clear hr0 hc0; have HR1 := YA hr1; have HC1 := YA hc1; clear hr1 hc1
 have H : (if (l0.length : Int) = (l1.length : Int) then (thalwegref04_Same.l0 k l0 l1 0) else (some false)) = some r := h
 clear h
 by_cases c3 : (l0.length : Int) = (l1.length : Int)
 ·rw [if_pos c3] at H
  have c3b0 : ((l0.length : Int) == (l1.length : Int)) = true := beq_iff_eq.mpr c3
  have c3b1 : ((l0.length : Int) != (l1.length : Int)) = false := bne_eq_false_iff_eq.mpr c3
  have c3b2 : (l0.length == l1.length) = true := by first | simpa using c3 | (simp at c3 ⊢; omega)
  clear c3
  have H' := YA H
  clear H
  go_enter Try.func22, Try.ntmps22
  go_wp2
  repeat (go_quiet (fail); try go_wp2)
  go_loopg [5] k (fun kq v5 w' => ∃ (x5_1 : Int), v5 = .int .i64 x5_1 ∧ Aside0 (thalwegref04_Same.l0 kq l0 l1 x5_1 = some r) ∧ Aside0 (kq ≤ k) ∧ Drawn0 w w')
  case atStart => exact ⟨(0), (by first | rfl | (simp; done) | (simp [*]; done)), H', ⟨Nat.le_refl _⟩, by repeat (first | exact Drawn0.refl _ | apply Drawn0.step)⟩
  case round =>
   clear H'
   try clear c1; try clear c2
   try clear p2; try clear c3
   try clear c3b0; try clear c3b1; try clear c3b2
   obtain ⟨x5_1, rfl, HA, HK1, ⟨m1, rfl⟩⟩ := hrel
   cases gk with
   | zero => exact absurd HA.out (by simp [thalwegref04_Same.l0])
   | succ k1 =>
    have H := HA.out
    clear HA
    simp only [thalwegref04_Same.l0] at H
    by_cases c4 : x5_1 < (l0.length : Int)
    ·rw [if_pos c4] at H
     have c4b0 : decide (x5_1 < (l0.length : Int)) = true := decide_eq_true c4
     clear c4
     by_cases c5 : 0 ≤ x5_1
     rotate_left
     ·rw [if_neg c5] at H
      exact absurd H (by simp)
     rw [if_pos c5] at H; have c5b0 : decide (0 ≤ x5_1) = true := decide_eq_true c5; clear c5
     by_cases c6 : x5_1 < (l1.length : Int)
     rotate_left
     ·rw [if_neg c6] at H
      exact absurd H (by simp)
     rw [if_pos c6] at H
     have c6b0 : decide (x5_1 < (l1.length : Int)) = true := decide_eq_true c6
     clear c6
     by_cases c7 : (!(((rd_T34 l0 x5_1).f0) == ((rd_T34 l1 x5_1).f0)) || (!(((rd_T34 l0 x5_1).f1) == ((rd_T34 l1 x5_1).f1)) || ((!(((rd_T34 l0 x5_1).f2.f0) == ((rd_T34 l1 x5_1).f2.f0)) || (!(((rd_T34 l0 x5_1).f2.f1) == ((rd_T34 l1 x5_1).f2.f1)) || (!(((rd_T34 l0 x5_1).f2.f2) == ((rd_T34 l1 x5_1).f2.f2)) || (!(((rd_T34 l0 x5_1).f2.f3) == ((rd_T34 l1 x5_1).f2.f3)) || (!(((rd_T34 l0 x5_1).f2.f4) == ((rd_T34 l1 x5_1).f2.f4)) || (!(((rd_T34 l0 x5_1).f2.f5) == ((rd_T34 l1 x5_1).f2.f5)))))))) || ((!(((rd_T34 l0 x5_1).f3.f0) == ((rd_T34 l1 x5_1).f3.f0)) || (!(((rd_T34 l0 x5_1).f3.f1) == ((rd_T34 l1 x5_1).f3.f1)) || (!(((rd_T34 l0 x5_1).f3.f2) == ((rd_T34 l1 x5_1).f3.f2))))) || (!(((rd_T34 l0 x5_1).f4) == ((rd_T34 l1 x5_1).f4))))))) = true
     ·rw [if_pos c7] at H
      have c7b0 : (!(((rd_T34 l0 x5_1).f0) == ((rd_T34 l1 x5_1).f0)) || (!(((rd_T34 l0 x5_1).f1) == ((rd_T34 l1 x5_1).f1)) || ((!(((rd_T34 l0 x5_1).f2.f0) == ((rd_T34 l1 x5_1).f2.f0)) || (!(((rd_T34 l0 x5_1).f2.f1) == ((rd_T34 l1 x5_1).f2.f1)) || (!(((rd_T34 l0 x5_1).f2.f2) == ((rd_T34 l1 x5_1).f2.f2)) || (!(((rd_T34 l0 x5_1).f2.f3) == ((rd_T34 l1 x5_1).f2.f3)) || (!(((rd_T34 l0 x5_1).f2.f4) == ((rd_T34 l1 x5_1).f2.f4)) || (!(((rd_T34 l0 x5_1).f2.f5) == ((rd_T34 l1 x5_1).f2.f5)))))))) || ((!(((rd_T34 l0 x5_1).f3.f0) == ((rd_T34 l1 x5_1).f3.f0)) || (!(((rd_T34 l0 x5_1).f3.f1) == ((rd_T34 l1 x5_1).f3.f1)) || (!(((rd_T34 l0 x5_1).f3.f2) == ((rd_T34 l1 x5_1).f3.f2))))) || (!(((rd_T34 l0 x5_1).f4) == ((rd_T34 l1 x5_1).f4))))))) = true := c7
      clear c7
      obtain rfl := Option.some.inj H
      have p101 : 0 ≤ (x5_1 : Int) := of_decide_eq_true (by first | (with_reducible assumption) | assumption)
      have q101 : x5_1 < (l0.length : Int) := of_decide_eq_true (by first | (with_reducible assumption) | assumption)
      obtain ⟨ad101, e101, hx101_0, hx101_1, hx101_2, hx101_3, hx101_4, hx101_5, hx101_6, hx101_7, hx101_8, hx101_9, hx101_10, hx101_11⟩ := at_T34 HR0.out x5_1 p101 q101
      cases e101
      replace p101 := eq_true p101
      replace q101 := eq_true q101
      have p102 : 0 ≤ (x5_1 : Int) := of_decide_eq_true (by first | (with_reducible assumption) | assumption)
      have q102 : x5_1 < (l1.length : Int) := of_decide_eq_true (by first | (with_reducible assumption) | assumption)
      obtain ⟨ad102, e102, hx102_0, hx102_1, hx102_2, hx102_3, hx102_4, hx102_5, hx102_6, hx102_7, hx102_8, hx102_9, hx102_10, hx102_11⟩ := at_T34 HR1.out x5_1 p102 q102
      cases e102
      replace p102 := eq_true p102
      replace q102 := eq_true q102
      go_wp2
      repeat (go_quiet (fail); try go_wp2)
      go_ret
      exact ⟨by first | rfl | (simp; done) | (simp [*]; done), by repeat (first | exact Drawn0.refl _ | apply Drawn0.step)⟩
     rw [if_neg c7] at H
     have c7b0 : (!(((rd_T34 l0 x5_1).f0) == ((rd_T34 l1 x5_1).f0)) || (!(((rd_T34 l0 x5_1).f1) == ((rd_T34 l1 x5_1).f1)) || ((!(((rd_T34 l0 x5_1).f2.f0) == ((rd_T34 l1 x5_1).f2.f0)) || (!(((rd_T34 l0 x5_1).f2.f1) == ((rd_T34 l1 x5_1).f2.f1)) || (!(((rd_T34 l0 x5_1).f2.f2) == ((rd_T34 l1 x5_1).f2.f2)) || (!(((rd_T34 l0 x5_1).f2.f3) == ((rd_T34 l1 x5_1).f2.f3)) || (!(((rd_T34 l0 x5_1).f2.f4) == ((rd_T34 l1 x5_1).f2.f4)) || (!(((rd_T34 l0 x5_1).f2.f5) == ((rd_T34 l1 x5_1).f2.f5)))))))) || ((!(((rd_T34 l0 x5_1).f3.f0) == ((rd_T34 l1 x5_1).f3.f0)) || (!(((rd_T34 l0 x5_1).f3.f1) == ((rd_T34 l1 x5_1).f3.f1)) || (!(((rd_T34 l0 x5_1).f3.f2) == ((rd_T34 l1 x5_1).f3.f2))))) || (!(((rd_T34 l0 x5_1).f4) == ((rd_T34 l1 x5_1).f4))))))) = false := by simpa using c7
     clear c7
     have H' := YA H
     clear H
     have p101 : 0 ≤ (x5_1 : Int) := of_decide_eq_true (by first | (with_reducible assumption) | assumption)
     have q101 : x5_1 < (l0.length : Int) := of_decide_eq_true (by first | (with_reducible assumption) | assumption)
     obtain ⟨ad101, e101, hx101_0, hx101_1, hx101_2, hx101_3, hx101_4, hx101_5, hx101_6, hx101_7, hx101_8, hx101_9, hx101_10, hx101_11⟩ := at_T34 HR0.out x5_1 p101 q101
     cases e101
     replace p101 := eq_true p101
     replace q101 := eq_true q101
     have p102 : 0 ≤ (x5_1 : Int) := of_decide_eq_true (by first | (with_reducible assumption) | assumption)
     have q102 : x5_1 < (l1.length : Int) := of_decide_eq_true (by first | (with_reducible assumption) | assumption)
     obtain ⟨ad102, e102, hx102_0, hx102_1, hx102_2, hx102_3, hx102_4, hx102_5, hx102_6, hx102_7, hx102_8, hx102_9, hx102_10, hx102_11⟩ := at_T34 HR1.out x5_1 p102 q102
     cases e102
     replace p102 := eq_true p102
     replace q102 := eq_true q102
     go_wp2
     repeat (go_quiet (fail); try go_wp2)
     go_roundg k1
     case measure => have := HK1.out; omega
     case rel => exact ⟨(wrap64 (x5_1 + 1)), (by first | rfl | (simp; done) | (simp [*]; done)), H', ⟨by have := HK1.out; omega⟩, by repeat (first | exact Drawn0.refl _ | apply Drawn0.step)⟩
    rw [if_neg c4] at H
    have c4b0 : decide (x5_1 < (l0.length : Int)) = false := decide_eq_false c4
    clear c4
    obtain rfl := Option.some.inj H
    go_wp2
    repeat (go_quiet (fail); try go_wp2)
    go_ret
    exact ⟨by first | rfl | (simp; done) | (simp [*]; done), by repeat (first | exact Drawn0.refl _ | apply Drawn0.step)⟩
 rw [if_neg c3] at H
 have c3b0 : ((l0.length : Int) == (l1.length : Int)) = false := beq_eq_false_iff_ne.mpr c3
 have c3b1 : ((l0.length : Int) != (l1.length : Int)) = true := bne_iff_ne.mpr c3
 have c3b2 : (l0.length == l1.length) = false := by first | simpa using c3 | (simp at c3 ⊢; omega)
 obtain rfl := Option.some.inj H
 go_enter Try.func22, Try.ntmps22
 go_wp2
 repeat (go_quiet (fail); try go_wp2)
 go_ret
 exact ⟨by first | rfl | (simp; done) | (simp [*]; done), by repeat (first | exact Drawn0.refl _ | apply Drawn0.step)⟩
end Go.Proofs.Ytclbempnhelmoaa.P
namespace Go.Proofs.Ytclbempnhelmoaa.P
open Go.RowKit YtclbempnhelmoaaW.PrintWords YtclbempnhelmoaaW.PrintLast YtclbempnhelmoaaW.PrintMore
open YtclbempnhelmoaaW.PrintWords.Aside0 renaming mk → YA
attribute [local go_sem] max2_int min2_int max_two min_two max_three min_three max_four min_four
def thalwegref05_Same.l0 : Nat → List (S48) → List (S48) → Int → Option (Bool)
 | 0, _, _, _ => none
 | k + 1, x0, x1, x5 => if x5 < (x0.length : Int) then (if 0 ≤ x5 then (if x5 < (x1.length : Int) then (if ((rd_T48 x0 x5).f0) = ((rd_T48 x1 x5).f0) then ((thalwegref04_Same.f k ((rd_T48 x0 x5).f1) ((rd_T48 x1 x5).f1)).bind fun t107 => (if t107 = true then (thalwegref05_Same.l0 k x0 x1 (wrap64 (x5 + 1))) else (some false))) else (some false)) else (none)) else (none)) else (some true)
def thalwegref05_Same.f (k : Nat) (l0 : List (S48)) (l1 : List (S48)) : Option (Bool) := if (l0.length : Int) = (l1.length : Int) then (thalwegref05_Same.l0 k l0 l1 0) else (some false)
theorem thalwegref05_Same.mono_l : ∀ k, (∀ y0 y1 y2, LeO (thalwegref05_Same.l0 k y0 y1 y2) (thalwegref05_Same.l0 (k + 1) y0 y1 y2))
 | 0 => fun _ _ _ r h => by simp [thalwegref05_Same.l0] at h
 | k + 1 => by
  have ih0 := thalwegref05_Same.mono_l k
  ·intro y0 y1 y2
   unfold thalwegref05_Same.l0
   repeat' first
   | (with_reducible exact ih0 _ _ _)
   | (with_reducible exact thalwegref04_Same.mono _ _ _)
   | (with_reducible exact LeO.refl _)
   | (with_reducible exact LeO.none _)
   | (with_reducible refine LeO.ite ?_ ?_)
   | (with_reducible refine LeO.bind ?_ (fun _ => ?_))
   | exact ih0 _ _ _
   | exact thalwegref04_Same.mono _ _ _
   | exact LeO.none _
   | refine LeO.ite ?_ ?_
   | refine LeO.bind ?_ (fun _ => ?_)
theorem thalwegref05_Same.mono : ∀ a0 a1 k, LeO (thalwegref05_Same.f k a0 a1) (thalwegref05_Same.f (k + 1) a0 a1) := by
 intro a0 a1 k
 have ih0 := thalwegref05_Same.mono_l k
 unfold thalwegref05_Same.f
 repeat' first
   | (with_reducible exact ih0 _ _ _)
   | (with_reducible exact thalwegref04_Same.mono _ _ _)
   | (with_reducible exact LeO.refl _)
   | (with_reducible exact LeO.none _)
   | (with_reducible refine LeO.ite ?_ ?_)
   | (with_reducible refine LeO.bind ?_ (fun _ => ?_))
   | exact ih0 _ _ _
   | exact thalwegref04_Same.mono _ _ _
   | exact LeO.none _
   | refine LeO.ite ?_ ?_
   | refine LeO.bind ?_ (fun _ => ?_)
theorem thalwegref05_Same.calls (k : Nat) (A0 : Option Addr) (c0 : Nat) (l0 : List (S48)) (A1 : Option Addr) (c1 : Nat) (l1 : List (S48)) (r : Bool) (w : World) (hr0 : Kd.C k48 w A0 l0.length l0) (hc0 : l0.length ≤ c0) (hr1 : Kd.C k48 w A1 l1.length l1) (hc1 : l1.length ≤ c1) (h : thalwegref05_Same.f k l0 l1 = some r) :
  Calls Try.prog 16 #[.slice A0 l0.length c0, .slice A1 l1.length c1] w fun e w' => e = .returned (.bool r) ∧ Drawn0 w w' := by
 have HR0 := YA hr0; have HC0 := YA hc0; clear hr0 hc0; have HR1 := YA hr1; have HC1 := YA hc1; clear hr1 hc1
 have H : (if (l0.length : Int) = (l1.length : Int) then (thalwegref05_Same.l0 k l0 l1 0) else (some false)) = some r := h
 clear h
 by_cases c3 : (l0.length : Int) = (l1.length : Int)
 ·rw [if_pos c3] at H
  have c3b0 : ((l0.length : Int) == (l1.length : Int)) = true := beq_iff_eq.mpr c3
  have c3b1 : ((l0.length : Int) != (l1.length : Int)) = false := bne_eq_false_iff_eq.mpr c3
  have c3b2 : (l0.length == l1.length) = true := by first | simpa using c3 | (simp at c3 ⊢; omega)
  clear c3
  have H' := YA H
  clear H
  go_enter Try.func16, Try.ntmps16
  go_wp2
  repeat (go_quiet (fail); try go_wp2)
  go_loopg [5] k (fun kq v5 w' => ∃ (x5_1 : Int), v5 = .int .i64 x5_1 ∧ Aside0 (thalwegref05_Same.l0 kq l0 l1 x5_1 = some r) ∧ Aside0 (kq ≤ k) ∧ Drawn0 w w')
  case atStart => exact ⟨(0), (by first | rfl | (simp; done) | (simp [*]; done)), H', ⟨Nat.le_refl _⟩, by repeat (first | exact Drawn0.refl _ | apply Drawn0.step)⟩
  case round =>
   clear H'
   try clear c1; try clear p2
   try clear c3; try clear c3b0
   try clear c3b1; try clear c3b2
   obtain ⟨x5_1, rfl, HA, HK1, ⟨m1, rfl⟩⟩ := hrel
   cases gk with
   | zero => exact absurd HA.out (by simp [thalwegref05_Same.l0])
   | succ k1 =>
    have H := HA.out
    clear HA
    simp only [thalwegref05_Same.l0] at H
    by_cases c4 : x5_1 < (l0.length : Int)
    ·rw [if_pos c4] at H
     have c4b0 : decide (x5_1 < (l0.length : Int)) = true := decide_eq_true c4
     clear c4
     by_cases c5 : 0 ≤ x5_1
     rotate_left
     ·rw [if_neg c5] at H
      exact absurd H (by simp)
     rw [if_pos c5] at H; have c5b0 : decide (0 ≤ x5_1) = true := decide_eq_true c5; clear c5
     by_cases c6 : x5_1 < (l1.length : Int)
     rotate_left
     ·rw [if_neg c6] at H
      exact absurd H (by simp)
     rw [if_pos c6] at H
     have c6b0 : decide (x5_1 < (l1.length : Int)) = true := decide_eq_true c6
     clear c6
     by_cases c7 : ((rd_T48 l0 x5_1).f0) = ((rd_T48 l1 x5_1).f0)
     ·rw [if_pos c7] at H
      have c7b0 : (((rd_T48 l0 x5_1).f0) == ((rd_T48 l1 x5_1).f0)) = true := beq_iff_eq.mpr c7
      have c7b1 : (((rd_T48 l0 x5_1).f0) != ((rd_T48 l1 x5_1).f0)) = false := bne_eq_false_iff_eq.mpr c7
      clear c7; replace H := Option.bind_eq_some_iff.mp H; obtain ⟨t107, A80, H⟩ := H
      replace H : (if t107 = true then (thalwegref05_Same.l0 k1 l0 l1 (wrap64 (x5_1 + 1))) else (some false)) = some r := H
      have A8 := YA A80; clear A80
      by_cases c9 : t107 = true
      ·subst c9
       have H1 : (thalwegref05_Same.l0 k1 l0 l1 (wrap64 (x5_1 + 1))) = some r := by rw [if_pos rfl] at H; exact H
       clear H
       have H := H1
       clear H1
       have H' := YA H
       clear H
       have p103 : 0 ≤ (x5_1 : Int) := of_decide_eq_true (by first | (with_reducible assumption) | assumption)
       have q103 : x5_1 < (l0.length : Int) := of_decide_eq_true (by first | (with_reducible assumption) | assumption)
       obtain ⟨ad103, A103_1, c103_1, e103, hx103_0, hx103_1, hl103_1, hi103_1⟩ := at_T48 HR0.out x5_1 p103 q103
       cases e103
       have HR103_1 := YA hi103_1; have HC103_1 := YA hl103_1; clear hi103_1 hl103_1
       replace p103 := eq_true p103
       replace q103 := eq_true q103
       have p104 : 0 ≤ (x5_1 : Int) := of_decide_eq_true (by first | (with_reducible assumption) | assumption)
       have q104 : x5_1 < (l1.length : Int) := of_decide_eq_true (by first | (with_reducible assumption) | assumption)
       obtain ⟨ad104, A104_1, c104_1, e104, hx104_0, hx104_1, hl104_1, hi104_1⟩ := at_T48 HR1.out x5_1 p104 q104
       cases e104
       have HR104_1 := YA hi104_1; have HC104_1 := YA hl104_1; clear hi104_1 hl104_1
       replace p104 := eq_true p104
       replace q104 := eq_true q104
       have p105 : 0 ≤ (x5_1 : Int) := of_decide_eq_true (by first | (with_reducible assumption) | assumption)
       have q105 : x5_1 < (l0.length : Int) := of_decide_eq_true (by first | (with_reducible assumption) | assumption)
       obtain ⟨ad105, A105_1, c105_1, e105, hx105_0, hx105_1, hl105_1, hi105_1⟩ := at_T48 HR0.out x5_1 p105 q105
       obtain rfl : ad103 = ad105 := (by injection e105)
       have HR105_1 := YA hi105_1; have HC105_1 := YA hl105_1; clear hi105_1 hl105_1
       replace p105 := eq_true p105
       replace q105 := eq_true q105
       have ea_ := Option.some.inj (hx103_1.symm.trans hx105_1)
       injection ea_ with ea_ en_ ec_
       subst ea_; subst ec_; clear en_
       have p106 : 0 ≤ (x5_1 : Int) := of_decide_eq_true (by first | (with_reducible assumption) | assumption)
       have q106 : x5_1 < (l1.length : Int) := of_decide_eq_true (by first | (with_reducible assumption) | assumption)
       obtain ⟨ad106, A106_1, c106_1, e106, hx106_0, hx106_1, hl106_1, hi106_1⟩ := at_T48 HR1.out x5_1 p106 q106
       obtain rfl : ad104 = ad106 := (by injection e106)
       have HR106_1 := YA hi106_1; have HC106_1 := YA hl106_1; clear hi106_1 hl106_1
       replace p106 := eq_true p106
       replace q106 := eq_true q106
       have ea_ := Option.some.inj (hx104_1.symm.trans hx106_1)
       injection ea_ with ea_ en_ ec_
       subst ea_; subst ec_; clear en_
       go_wp2_with (first | (go_at_call 22; (with_reducible refine (thalwegref04_Same.calls k1 _ _ ((rd_T48 l0 x5_1).f1) _ _ ((rd_T48 l1 x5_1).f1) true _ ?side1 ?side2 ?side3 ?side4 A8.out).mono ?_); (case side1 => repeat (first | exact HR105_1.out | (with_reducible refine Kd.C_alloc ?_ _) | (with_reducible refine Kd.C_drewN ?_ _) | (with_reducible refine Kd.C_drew ?_))); (case side2 => exact HC105_1.out); (case side3 => repeat (first | exact HR106_1.out | (with_reducible refine Kd.C_alloc ?_ _) | (with_reducible refine Kd.C_drewN ?_ _) | (with_reducible refine Kd.C_drew ?_))); (case side4 => exact HC106_1.out); rintro e w' ⟨rfl, ⟨nd, rfl⟩⟩; (try first | exact ⟨rfl, _, World.drewN_drewN _ _ _⟩ | exact ⟨rfl, _, Eq.trans (World.drewN_drewN _ _ _) (congrArg (World.drewN _) (Nat.add_assoc _ _ _))⟩)))
       repeat (go_quiet (first | (go_at_call 22; (with_reducible refine (thalwegref04_Same.calls k1 _ _ ((rd_T48 l0 x5_1).f1) _ _ ((rd_T48 l1 x5_1).f1) true _ ?side1 ?side2 ?side3 ?side4 A8.out).mono ?_); (case side1 => repeat (first | exact HR105_1.out | (with_reducible refine Kd.C_alloc ?_ _) | (with_reducible refine Kd.C_drewN ?_ _) | (with_reducible refine Kd.C_drew ?_))); (case side2 => exact HC105_1.out); (case side3 => repeat (first | exact HR106_1.out | (with_reducible refine Kd.C_alloc ?_ _) | (with_reducible refine Kd.C_drewN ?_ _) | (with_reducible refine Kd.C_drew ?_))); (case side4 => exact HC106_1.out); rintro e w' ⟨rfl, ⟨nd, rfl⟩⟩; (try first | exact ⟨rfl, _, World.drewN_drewN _ _ _⟩ | exact ⟨rfl, _, Eq.trans (World.drewN_drewN _ _ _) (congrArg (World.drewN _) (Nat.add_assoc _ _ _))⟩))); try go_wp2_with (first | (go_at_call 22; (with_reducible refine (thalwegref04_Same.calls k1 _ _ ((rd_T48 l0 x5_1).f1) _ _ ((rd_T48 l1 x5_1).f1) true _ ?side1 ?side2 ?side3 ?side4 A8.out).mono ?_); (case side1 => repeat (first | exact HR105_1.out | (with_reducible refine Kd.C_alloc ?_ _) | (with_reducible refine Kd.C_drewN ?_ _) | (with_reducible refine Kd.C_drew ?_))); (case side2 => exact HC105_1.out); (case side3 => repeat (first | exact HR106_1.out | (with_reducible refine Kd.C_alloc ?_ _) | (with_reducible refine Kd.C_drewN ?_ _) | (with_reducible refine Kd.C_drew ?_))); (case side4 => exact HC106_1.out); rintro e w' ⟨rfl, ⟨nd, rfl⟩⟩; (try first | exact ⟨rfl, _, World.drewN_drewN _ _ _⟩ | exact ⟨rfl, _, Eq.trans (World.drewN_drewN _ _ _) (congrArg (World.drewN _) (Nat.add_assoc _ _ _))⟩))))
       go_roundg k1
       case measure => have := HK1.out; omega
       case rel => exact ⟨(wrap64 (x5_1 + 1)), (by first | rfl | (simp; done) | (simp [*]; done)), H', ⟨by have := HK1.out; omega⟩, by repeat (first | exact Drawn0.refl _ | apply Drawn0.step)⟩
      replace c9 := Bool.eq_false_iff.mpr c9
      subst c9
      have H1 : (some false) = some r := by rw [if_neg (show ¬ (false = true) by decide)] at H; exact H
      clear H
      have H := H1
      clear H1
      obtain rfl := Option.some.inj H
      have p103 : 0 ≤ (x5_1 : Int) := of_decide_eq_true (by first | (with_reducible assumption) | assumption)
      have q103 : x5_1 < (l0.length : Int) := of_decide_eq_true (by first | (with_reducible assumption) | assumption)
      obtain ⟨ad103, A103_1, c103_1, e103, hx103_0, hx103_1, hl103_1, hi103_1⟩ := at_T48 HR0.out x5_1 p103 q103
      cases e103
      have HR103_1 := YA hi103_1; have HC103_1 := YA hl103_1; clear hi103_1 hl103_1
      replace p103 := eq_true p103
      replace q103 := eq_true q103
      have p104 : 0 ≤ (x5_1 : Int) := of_decide_eq_true (by first | (with_reducible assumption) | assumption)
      have q104 : x5_1 < (l1.length : Int) := of_decide_eq_true (by first | (with_reducible assumption) | assumption)
      obtain ⟨ad104, A104_1, c104_1, e104, hx104_0, hx104_1, hl104_1, hi104_1⟩ := at_T48 HR1.out x5_1 p104 q104
      cases e104
      have HR104_1 := YA hi104_1; have HC104_1 := YA hl104_1; clear hi104_1 hl104_1
      replace p104 := eq_true p104
      replace q104 := eq_true q104
      have p105 : 0 ≤ (x5_1 : Int) := of_decide_eq_true (by first | (with_reducible assumption) | assumption)
      have q105 : x5_1 < (l0.length : Int) := of_decide_eq_true (by first | (with_reducible assumption) | assumption)
      obtain ⟨ad105, A105_1, c105_1, e105, hx105_0, hx105_1, hl105_1, hi105_1⟩ := at_T48 HR0.out x5_1 p105 q105
      obtain rfl : ad103 = ad105 := (by injection e105)
      have HR105_1 := YA hi105_1; have HC105_1 := YA hl105_1; clear hi105_1 hl105_1
      replace p105 := eq_true p105
      replace q105 := eq_true q105
      have ea_ := Option.some.inj (hx103_1.symm.trans hx105_1)
      injection ea_ with ea_ en_ ec_
      subst ea_; subst ec_; clear en_
      have p106 : 0 ≤ (x5_1 : Int) := of_decide_eq_true (by first | (with_reducible assumption) | assumption)
      have q106 : x5_1 < (l1.length : Int) := of_decide_eq_true (by first | (with_reducible assumption) | assumption)
      obtain ⟨ad106, A106_1, c106_1, e106, hx106_0, hx106_1, hl106_1, hi106_1⟩ := at_T48 HR1.out x5_1 p106 q106
      obtain rfl : ad104 = ad106 := (by injection e106)
      have HR106_1 := YA hi106_1; have HC106_1 := YA hl106_1; clear hi106_1 hl106_1
      replace p106 := eq_true p106
      replace q106 := eq_true q106
      have ea_ := Option.some.inj (hx104_1.symm.trans hx106_1)
      injection ea_ with ea_ en_ ec_
      subst ea_; subst ec_; clear en_
      go_wp2_with (first | (go_at_call 22; (with_reducible refine (thalwegref04_Same.calls k1 _ _ ((rd_T48 l0 x5_1).f1) _ _ ((rd_T48 l1 x5_1).f1) false _ ?side1 ?side2 ?side3 ?side4 A8.out).mono ?_); (case side1 => repeat (first | exact HR105_1.out | (with_reducible refine Kd.C_alloc ?_ _) | (with_reducible refine Kd.C_drewN ?_ _) | (with_reducible refine Kd.C_drew ?_))); (case side2 => exact HC105_1.out); (case side3 => repeat (first | exact HR106_1.out | (with_reducible refine Kd.C_alloc ?_ _) | (with_reducible refine Kd.C_drewN ?_ _) | (with_reducible refine Kd.C_drew ?_))); (case side4 => exact HC106_1.out); rintro e w' ⟨rfl, ⟨nd, rfl⟩⟩; (try first | exact ⟨rfl, _, World.drewN_drewN _ _ _⟩ | exact ⟨rfl, _, Eq.trans (World.drewN_drewN _ _ _) (congrArg (World.drewN _) (Nat.add_assoc _ _ _))⟩)))
      repeat (go_quiet (first | (go_at_call 22; (with_reducible refine (thalwegref04_Same.calls k1 _ _ ((rd_T48 l0 x5_1).f1) _ _ ((rd_T48 l1 x5_1).f1) false _ ?side1 ?side2 ?side3 ?side4 A8.out).mono ?_); (case side1 => repeat (first | exact HR105_1.out | (with_reducible refine Kd.C_alloc ?_ _) | (with_reducible refine Kd.C_drewN ?_ _) | (with_reducible refine Kd.C_drew ?_))); (case side2 => exact HC105_1.out); (case side3 => repeat (first | exact HR106_1.out | (with_reducible refine Kd.C_alloc ?_ _) | (with_reducible refine Kd.C_drewN ?_ _) | (with_reducible refine Kd.C_drew ?_))); (case side4 => exact HC106_1.out); rintro e w' ⟨rfl, ⟨nd, rfl⟩⟩; (try first | exact ⟨rfl, _, World.drewN_drewN _ _ _⟩ | exact ⟨rfl, _, Eq.trans (World.drewN_drewN _ _ _) (congrArg (World.drewN _) (Nat.add_assoc _ _ _))⟩))); try go_wp2_with (first | (go_at_call 22; (with_reducible refine (thalwegref04_Same.calls k1 _ _ ((rd_T48 l0 x5_1).f1) _ _ ((rd_T48 l1 x5_1).f1) false _ ?side1 ?side2 ?side3 ?side4 A8.out).mono ?_); (case side1 => repeat (first | exact HR105_1.out | (with_reducible refine Kd.C_alloc ?_ _) | (with_reducible refine Kd.C_drewN ?_ _) | (with_reducible refine Kd.C_drew ?_))); (case side2 => exact HC105_1.out); (case side3 => repeat (first | exact HR106_1.out | (with_reducible refine Kd.C_alloc ?_ _) | (with_reducible refine Kd.C_drewN ?_ _) | (with_reducible refine Kd.C_drew ?_))); (case side4 => exact HC106_1.out); rintro e w' ⟨rfl, ⟨nd, rfl⟩⟩; (try first | exact ⟨rfl, _, World.drewN_drewN _ _ _⟩ | exact ⟨rfl, _, Eq.trans (World.drewN_drewN _ _ _) (congrArg (World.drewN _) (Nat.add_assoc _ _ _))⟩))))
      go_ret
      exact ⟨by first | rfl | (simp; done) | (simp [*]; done), by repeat (first | exact Drawn0.refl _ | apply Drawn0.step)⟩
     rw [if_neg c7] at H
     have c7b0 : (((rd_T48 l0 x5_1).f0) == ((rd_T48 l1 x5_1).f0)) = false := beq_eq_false_iff_ne.mpr c7
     have c7b1 : (((rd_T48 l0 x5_1).f0) != ((rd_T48 l1 x5_1).f0)) = true := bne_iff_ne.mpr c7
     obtain rfl := Option.some.inj H
     have p103 : 0 ≤ (x5_1 : Int) := of_decide_eq_true (by first | (with_reducible assumption) | assumption)
     have q103 : x5_1 < (l0.length : Int) := of_decide_eq_true (by first | (with_reducible assumption) | assumption)
     obtain ⟨ad103, A103_1, c103_1, e103, hx103_0, hx103_1, hl103_1, hi103_1⟩ := at_T48 HR0.out x5_1 p103 q103
     cases e103
     have HR103_1 := YA hi103_1; have HC103_1 := YA hl103_1; clear hi103_1 hl103_1
     replace p103 := eq_true p103
     replace q103 := eq_true q103
     have p104 : 0 ≤ (x5_1 : Int) := of_decide_eq_true (by first | (with_reducible assumption) | assumption)
     have q104 : x5_1 < (l1.length : Int) := of_decide_eq_true (by first | (with_reducible assumption) | assumption)
     obtain ⟨ad104, A104_1, c104_1, e104, hx104_0, hx104_1, hl104_1, hi104_1⟩ := at_T48 HR1.out x5_1 p104 q104
     cases e104
     have HR104_1 := YA hi104_1; have HC104_1 := YA hl104_1; clear hi104_1 hl104_1
     replace p104 := eq_true p104
     replace q104 := eq_true q104
     go_wp2
     repeat (go_quiet (fail); try go_wp2)
     go_ret
     exact ⟨by first | rfl | (simp; done) | (simp [*]; done), by repeat (first | exact Drawn0.refl _ | apply Drawn0.step)⟩
    rw [if_neg c4] at H
    have c4b0 : decide (x5_1 < (l0.length : Int)) = false := decide_eq_false c4
    clear c4
    obtain rfl := Option.some.inj H
    go_wp2
    repeat (go_quiet (fail); try go_wp2)
    go_ret
    exact ⟨by first | rfl | (simp; done) | (simp [*]; done), by repeat (first | exact Drawn0.refl _ | apply Drawn0.step)⟩
 rw [if_neg c3] at H
 have c3b0 : ((l0.length : Int) == (l1.length : Int)) = false := beq_eq_false_iff_ne.mpr c3
 have c3b1 : ((l0.length : Int) != (l1.length : Int)) = true := bne_iff_ne.mpr c3
 have c3b2 : (l0.length == l1.length) = false := by first | simpa using c3 | (simp at c3 ⊢; omega)
 obtain rfl := Option.some.inj H
 go_enter Try.func16, Try.ntmps16
 go_wp2
 repeat (go_quiet (fail); try go_wp2)
 go_ret
 exact ⟨by first | rfl | (simp; done) | (simp [*]; done), by repeat (first | exact Drawn0.refl _ | apply Drawn0.step)⟩
end Go.Proofs.Ytclbempnhelmoaa.P
namespace Go.Proofs.Ytclbempnhelmoaa.P
open Go.RowKit YtclbempnhelmoaaW.PrintWords YtclbempnhelmoaaW.PrintLast YtclbempnhelmoaaW.PrintMore
open Classical
theorem Rf_ok {w : World} {b : Nat} {ok ok' : Nat → Prop} {v : Value} {X : List S34} (h : k34.R 34 w b ok v X) (h2 : ∀ k, v.ownBlock = some k → ok' k) : k34.R 34 w b ok' v X :=
 ⟨h2, h.2.imp_ (fun x cs hp => by rw [k34_openM hp]; exact k34_mkM w b _ x)⟩
theorem Rf_move {w w' : World} {b : Nat} {ok : Nat → Prop} {v : Value} {X : List S34} (h : k34.R 34 w b ok v X) (hm : ∀ k, v.ownBlock = some k → w'.heap[k]? = w.heap[k]?) : k34.R 34 w' b ok v X :=
 Rf_ok (Kd.R_move (Rf_ok h (ok' := fun k => v.ownBlock = some k) (fun k hk => hk)) hm) h.1
structure Od (w wr : World) (F : Nat → Prop) (v9 v10 : Value) (P Q : List S34) : Prop where
 r9 : k34.R 34 wr w.heap.size (fun _ => True) v9 P
 r10 : k34.R 34 wr w.heap.size (fun _ => True) v10 Q
 o9 : ∀ k, v9.ownBlock = some k → ¬ F k
 o10 : ∀ k, v10.ownBlock = some k → ¬ F k
 ap : ∀ k, v9.ownBlock = some k → v10.ownBlock ≠ some k
section
variable {w wr w' : World} {F F' R R' : Nat → Prop} {v9 v10 v2 : Value} {P Q P2 Q2 : List S34}
theorem Od.below (h : Od w wr F v9 v10 P Q) (hb : Below wr.heap.size wr w') : Od w w' F v9 v10 P Q := ⟨Kd.R_below h.r9 hb, Kd.R_below h.r10 hb, h.o9, h.o10, h.ap⟩
theorem Od.step (h : Od w wr F v9 v10 P Q) (hs : SX wr F R w' F' R') (hrf : ∀ k, R k → F k) : Od w w' F' v9 v10 P Q := by
 have key : ∀ k, k < wr.heap.size → ¬ F k → w'.heap[k]? = wr.heap[k]? ∧ ¬ F' k := fun k hl hF => ⟨hs.fr k hl (fun hR => hF (hrf k hR)), fun h2 => by
  rcases hs.fp k h2 with e | e
  ·exact hF e
  ·omega⟩
 exact ⟨Rf_move h.r9 (fun k hk => (key k (Kd.R_lt h.r9 k hk) (h.o9 k hk)).1), Rf_move h.r10 (fun k hk => (key k (Kd.R_lt h.r10 k hk) (h.o10 k hk)).1), fun k hk => (key k (Kd.R_lt h.r9 k hk) (h.o9 k hk)).2, fun k hk => (key k (Kd.R_lt h.r10 k hk) (h.o10 k hk)).2, h.ap⟩
end
section
variable {w0 w : World} {F R : Nat → Prop} {g : Nat} {wn tr : Int} {s : AS} {n m : Nat}
end
structure InO (w wq : World) (F R : Nat → Prop) (g : Nat) (a0 a1 : Int) (s : AS) (v9 v10 : Value) (P Q : List S34) (lo hi : Nat) (Al : Option Addr) (nl cl : Nat) (X : List S48) : Prop where
 sn : Sn w wq F R g a0 a1 s
 od : Od w wq F v9 v10 P Q
 row : k48.R 48 wq w.heap.size (fun k => lo ≤ k ∧ k < hi) (.slice Al nl cl) X
 own : ∀ k, v10.ownBlock = some k → k < lo ∨ hi ≤ k
 sz : hi ≤ wq.heap.size
section
variable {w wq w' : World} {F R : Nat → Prop} {g : Nat} {a0 a1 : Int} {s : AS} {v9 v10 v2 : Value} {P Q Q2 : List S34} {lo hi nl cl : Nat} {Al : Option Addr} {X : List S48}
theorem InO.below (h : InO w wq F R g a0 a1 s v9 v10 P Q lo hi Al nl cl X) (hb : Below wq.heap.size wq w') : InO w w' F R g a0 a1 s v9 v10 P Q lo hi Al nl cl X :=
 ⟨h.sn.below hb, h.od.below hb, Kd.R_below h.row hb, h.own, Nat.le_trans h.sz hb.size⟩
end
theorem flat_take (wn : Int) (s : AS) : (XA wn s).flatMap (fun b => b.f1) ++ s.W.drop (goneL (XA wn s)) = s.W := by
 obtain ⟨R, hR⟩ : XA wn s <+: packA s := List.takeWhile_prefix _
 have h1 : (packA s).flatMap (fun b => b.f1) = s.W := by unfold packA; rw [pack_flat]; rfl
 rw [← hR, List.flatMap_append] at h1
 rw [flat_sum]
 conv => lhs; rw [← h1]
 rw [List.drop_left' rfl, h1]
theorem XA_gone (wn : Int) (s : AS) : goneL (XA wn s) ≤ s.W.length := by
 have h := congrArg List.length (flat_take wn s)
 rw [List.length_append, ← flat_sum] at h
 omega
theorem len_gone (X : List S48) (i : Nat) (h : i < X.length) : (X[i]).f1.length ≤ goneL X := by
 have h1 := take_goneL i h
 have h2 := goneL_le X (i + 1)
 omega
def neO (a b : S34) : Bool := (!((a.f0) == (b.f0)) || (!((a.f1) == (b.f1)) || ((!((a.f2.f0) == (b.f2.f0)) || (!((a.f2.f1) == (b.f2.f1)) || (!((a.f2.f2) == (b.f2.f2)) || (!((a.f2.f3) == (b.f2.f3)) || (!((a.f2.f4) == (b.f2.f4)) || (!((a.f2.f5) == (b.f2.f5)))))))) || ((!((a.f3.f0) == (b.f3.f0)) || (!((a.f3.f1) == (b.f3.f1)) || (!((a.f3.f2) == (b.f3.f2))))) || (!((a.f4) == (b.f4)))))))
theorem neO_self (a : S34) : neO a a = false := by unfold neO; simp
theorem neO_ne {a b : S34} (h : a ≠ b) : neO a b = true := by
 cases hx : neO a b with
 | true => rfl
 | false =>
  exfalso
  apply h
  unfold neO at hx
  simp only [Bool.or_eq_false_iff, Bool.not_eq_false', beq_iff_eq] at hx
  obtain ⟨h0, h1, ⟨h2, h3, h4, h5, h6, h7⟩, ⟨h8, h9, h10⟩, h11⟩ := hx
  obtain ⟨a0, a1, ⟨a2, a3, a4, a5, a6, a7⟩, ⟨a8, a9, a10⟩, a11⟩ := a
  obtain ⟨b0, b1, ⟨b2, b3, b4, b5, b6, b7⟩, ⟨b8, b9, b10⟩, b11⟩ := b
  simp only at h0 h1 h2 h3 h4 h5 h6 h7 h8 h9 h10 h11
  subst h0 h1 h2 h3 h4 h5 h6 h7 h8 h9 h10 h11
  rfl
theorem sameG_l0 (l m : List S34) (h : l.length ≤ 100000) (hm : l.length = m.length) : ∀ (d : Nat) (i : Int), 0 ≤ i → (l.length : Int) - i = d → Ev (fun k => thalwegref04_Same.l0 k l m i) (decide (l.drop i.toNat = m.drop i.toNat)) := by
 intro d
 induction d with
 | zero =>
  intro i h0 hd
  rw [List.drop_eq_nil_of_le (show l.length ≤ i.toNat by omega), List.drop_eq_nil_of_le (show m.length ≤ i.toNat by omega)]
  refine Ev.from 1 fun k => ?_
  simp only [thalwegref04_Same.l0]
  rw [if_neg (by omega)]
  simp
 | succ d ih =>
  intro i h0 hd
  have h1 : i < (l.length : Int) := by omega
  rw [obs_get l i h0 h1, obs_get m i h0 (by omega)]
  refine Ev.step (f := fun k => _) (fun k => by simp only [thalwegref04_Same.l0]; rfl) ?_
  simp only [if_pos h1, if_pos h0, if_pos (show i < (m.length : Int) by omega), w64 (x := i + 1) (by omega) (by omega)]
  by_cases e : rd_T34 l i = rd_T34 m i
  ·have hz : neO (rd_T34 l i) (rd_T34 m i) = false := by rw [e]; exact neO_self _
   unfold neO at hz
   rw [hz]
   simp only [Bool.false_eq_true, if_false]
   have := ih (i + 1) (by omega) (by omega)
   rw [e]
   simp only [List.cons.injEq, true_and]
   exact this
  ·have hz := neO_ne e
   unfold neO at hz
   rw [hz]
   simp only [if_true]
   rw [decide_eq_false (fun hc => e (List.cons.inj hc).1)]
   exact Ev.now _
theorem sameG_ev (l m : List S34) (h : l.length ≤ 100000) (h2 : m.length ≤ 100000) : Ev (fun k => thalwegref04_Same.f k l m) (decide (l = m)) := by
 unfold thalwegref04_Same.f
 by_cases hm : l.length = m.length
 ·simp only [if_pos (show (l.length : Int) = (m.length : Int) by omega)]
  exact sameG_l0 l m h hm l.length 0 (by omega) (by omega)
 ·simp only [if_neg (show ¬ (l.length : Int) = (m.length : Int) by omega)]
  rw [decide_eq_false (fun e => hm (by rw [e]))]
  exact Ev.now _
theorem sameB_ev (a b : S48) (h : a.f1.length ≤ 100000) (h2 : b.f1.length ≤ 100000) : Ev (fun k => thalwegref05_Same.f k [a] [b]) (decide (a = b)) := by
 unfold thalwegref05_Same.f
 simp only [List.length_cons, List.length_nil, if_true]
 refine Ev.step (f := fun k => _) (fun k => by simp only [thalwegref05_Same.l0]; rfl) ?_
 have r1 : rd_T48 [a] 0 = a := rfl
 have r2 : rd_T48 [b] 0 = b := rfl
 have hw : wrap64 (0 + 1) = 1 := by unfold wrap64; decide
 simp only [List.length_cons, List.length_nil, r1, r2, hw]
 by_cases e0 : a.f0 = b.f0
 ·simp only [if_pos e0]
  refine Ev.bind (sameG_ev a.f1 b.f1 h h2) ?_
  by_cases e1 : a.f1 = b.f1
  ·have he : a = b := by
    obtain ⟨x, y⟩ := a
    obtain ⟨z, u⟩ := b
    simp only at e0 e1
    subst e0 e1
    rfl
   rw [decide_eq_true e1, decide_eq_true he]
   refine Ev.from 1 fun k => ?_
   simp [thalwegref05_Same.l0]
  ·rw [decide_eq_false e1, decide_eq_false (fun e => e1 (by rw [e]))]
   exact Ev.from 0 fun k => by simp
 ·rw [decide_eq_false (fun e => e0 (by rw [e]))]
  exact Ev.from 0 fun k => by simp [e0]
section
variable {α : Type}
theorem sub_skip {x y : α} {xs ys : List α} (h : (x :: xs).Sublist (y :: ys)) (hn : y ≠ x) : (x :: xs).Sublist ys := by
 cases h with
 | cons _ h => exact h
 | cons_cons _ h => exact absurd rfl hn
theorem sub_take {x y : α} {xs ys : List α} (h : (x :: xs).Sublist (y :: ys)) : xs.Sublist ys := by
 cases h with
 | cons _ h => exact (List.sublist_cons_self x xs).trans h
 | cons_cons _ h => exact h
theorem sub_none {x : α} {xs : List α} (h : (x :: xs).Sublist []) : False := by cases h
end
theorem take_all {α : Type} {p : α → Bool} : ∀ (l : List α), ∀ b ∈ l.takeWhile p, p b = true := by
 intro l
 induction l with
 | nil => intro b hb; cases hb
 | cons x l ih =>
  intro b hb
  rw [List.takeWhile_cons] at hb
  split at hb
  ·rename_i hx
   rcases List.mem_cons.1 hb with rfl | hb
   ·exact hx
   ·exact ih b hb
  ·cases hb
theorem sub_send {wn : Int} {s : AS} {T : List S48} (h : (s.D.map Prod.fst).Sublist T) : ((sendA wn s).D.map Prod.fst).Sublist (T ++ XA wn s) := by
 show ((s.D ++ (XA wn s).map (fun b => (b, (1 : Int)))).map Prod.fst).Sublist _
 rw [List.map_append, List.map_map]
 have : (XA wn s).map (Prod.fst ∘ fun b => (b, (1 : Int))) = XA wn s := by
  rw [show (Prod.fst ∘ fun b : S48 => (b, (1 : Int))) = id from rfl, List.map_id]
 rw [this]
 exact h.append (List.Sublist.refl _)
theorem sub_again {tr : Int} {s : AS} {T : List S48} (h : (s.D.map Prod.fst).Sublist T) : ((againA tr s).D.map Prod.fst).Sublist T := by
 unfold againA
 split
 ·exact h
 ·show ((s.D.map (fun d => (d.1, d.2 + 1))).map Prod.fst).Sublist T
  rw [List.map_map]
  exact h
theorem sub_got {a : S36} {s : AS} {T : List S48} (h : (s.D.map Prod.fst).Sublist T) : ((gotA a s).D.map Prod.fst).Sublist T := by
 unfold gotA
 split
 ·exact (List.filter_sublist.map _).trans h
 ·exact h
def Win (wn : Int) (s : AS) : Prop := far (fstA s) s.nx ≤ wn ∧ s.D.Pairwise (fun a b => far (fstA s) a.1.f0 < far (fstA s) b.1.f0) ∧ ∀ d ∈ s.D, far (fstA s) d.1.f0 < far (fstA s) s.nx
theorem Win.nil {wn : Int} (h : 1 ≤ wn) : Win wn ⟨[], [], 0⟩ := ⟨by show far 0 0 ≤ wn; unfold far; omega, List.Pairwise.nil, fun d hd => by cases hd⟩
theorem rise (f wn : Int) (hw : wn ≤ 16) : ∀ (X : List S48) (n : Int), 0 ≤ n ∧ n ≤ 65535 → Nums n X → (∀ b ∈ X, far f b.f0 < wn) → far f n ≤ wn →
  X.Pairwise (fun a b => far f a.f0 < far f b.f0) ∧ (∀ b ∈ X, far f n ≤ far f b.f0 ∧ far f b.f0 < far f (nextL n X)) ∧ far f n ≤ far f (nextL n X) ∧ far f (nextL n X) ≤ wn := by
 intro X
 induction X with
 | nil => intro n _ _ _ he; exact ⟨List.Pairwise.nil, (fun b hb => by cases hb), Int.le_refl _, he⟩
 | cons b X ih =>
  intro n hn hN hlt he
  obtain ⟨h1, h2⟩ := hN
  have hb := hlt b List.mem_cons_self
  rw [h1] at hb
  have e1 : nextN b.f0 = nx n := by rw [h1]; exact nextN_eq n (by omega)
  have e2 : far f (nx n) = far f n + 1 := by
   have := far_range f n
   unfold far nx at *
   omega
  obtain ⟨i1, i2, i3, i4⟩ := ih (nx n) (by unfold nx; omega) h2 (fun c hc => hlt c (List.mem_cons_of_mem _ hc)) (by omega)
  have hl : nextL n (b :: X) = nextL (nx n) X := by show nextL (nextN b.f0) X = _; rw [e1]
  rw [hl]
  refine ⟨List.Pairwise.cons (fun c hc => ?_) i1, fun c hc => ?_, by omega, i4⟩
  ·have := (i2 c hc).1
   rw [h1]
   omega
  ·rcases List.mem_cons.1 hc with rfl | hc
   ·rw [h1]
    exact ⟨Int.le_refl _, by omega⟩
   ·have := i2 c hc
    exact ⟨by omega, this.2⟩
theorem Win.send {wn : Int} {s : AS} (hw : 1 ≤ wn ∧ wn ≤ 16) (hx : 0 ≤ s.nx ∧ s.nx ≤ 65535) (h : Win wn s) : Win wn (sendA wn s) := by
 obtain ⟨h1, h2, h3⟩ := h
 have hm : s.nx % 65536 = s.nx := by omega
 have hp : Nums s.nx (packA s) := by have := pack_nums 512 s.W (s.nx % 65536) []; unfold packA; rw [hm] at this ⊢; exact this
 have hpre : ∀ (Y Z : List S48) (n : Int), Nums n (Y ++ Z) → Nums n Y := by
  intro Y
  induction Y with
  | nil => intro _ _ _; trivial
  | cons y Y ih => intro Z n hh; exact ⟨hh.1, ih Z _ hh.2⟩
 have hX : Nums s.nx (XA wn s) := by
  obtain ⟨R, hR⟩ : XA wn s <+: packA s := List.takeWhile_prefix _
  rw [← hR] at hp
  exact hpre _ _ _ hp
 have hlt : ∀ b ∈ XA wn s, far (fstA s) b.f0 < wn := fun b hb => by
  have := take_all _ b hb
  simpa using this
 obtain ⟨r1, r2, r3, r4⟩ := rise (fstA s) wn hw.2 (XA wn s) s.nx hx hX hlt h1
 unfold Win
 rw [fst_send hx]
 refine ⟨r4, ?_, fun d hd => ?_⟩
 ·show (s.D ++ (XA wn s).map (fun b => (b, (1 : Int)))).Pairwise _
  refine List.pairwise_append.2 ⟨h2, List.pairwise_map.2 r1, fun a ha b hb => ?_⟩
  obtain ⟨c, hc, rfl⟩ := List.mem_map.1 hb
  have e1 := h3 a ha
  have e2 := (r2 c hc).1
  show far (fstA s) a.1.f0 < far (fstA s) c.f0
  omega
 ·rcases List.mem_append.1 (show d ∈ s.D ++ (XA wn s).map (fun b => (b, (1 : Int))) from hd) with hd | hd
  ·have e1 := h3 d hd
   show far (fstA s) d.1.f0 < far (fstA s) (nextL s.nx (XA wn s))
   omega
  ·obtain ⟨c, hc, rfl⟩ := List.mem_map.1 hd
   exact (r2 c hc).2
theorem Win.push {wn : Int} {s : AS} (h : Win wn s) (o : S34) : Win wn (pushA o s) := by
 unfold pushA
 split
 ·exact h
 ·exact h
theorem Win.again {wn tr : Int} {s : AS} (h : Win wn s) : Win wn (againA tr s) := by
 unfold againA
 split
 ·exact h
 ·have hf : fstA ⟨s.W, s.D.map (fun d => (d.1, d.2 + 1)), s.nx⟩ = fstA s := by
   unfold fstA
   cases s.D <;> rfl
  unfold Win
  rw [hf]
  refine ⟨h.1, List.pairwise_map.2 h.2.1, fun d hd => ?_⟩
  obtain ⟨c, hc, rfl⟩ := List.mem_map.1 hd
  exact h.2.2 c hc
theorem far_less {f g x : Int} (h : far f g ≤ far f x) : far g x = far f x - far f g := by
 unfold far at *
 omega
theorem Win.got {wn : Int} {s : AS} (hw : 1 ≤ wn) (h : Win wn s) (a : S36) : Win wn (gotA a s) := by
 by_cases ht : takesA a s
 ·rw [gotA_yes ht]
  obtain ⟨h1, h2, h3⟩ := h
  have hsub : (s.D.filter (fun d => !hasA' a d)).Sublist s.D := List.filter_sublist
  generalize s.D.filter (fun d => !hasA' a d) = E at hsub
  have p2 := h2.sublist hsub
  cases E with
  | nil => exact ⟨by show far s.nx s.nx ≤ wn; unfold far; omega, List.Pairwise.nil, fun d hd => by cases hd⟩
  | cons e E =>
   obtain ⟨q1, q2⟩ := List.pairwise_cons.1 p2
   have he := h3 e (hsub.subset List.mem_cons_self)
   have ge : ∀ d ∈ e :: E, far (fstA s) e.1.f0 ≤ far (fstA s) d.1.f0 := fun d hd => by
    rcases List.mem_cons.1 hd with rfl | hd
    ·exact Int.le_refl _
    ·exact Int.le_of_lt (q1 d hd)
   have hfe : fstA ⟨s.W, e :: E, s.nx⟩ = e.1.f0 := rfl
   unfold Win
   rw [hfe]
   have k0 := far_range (fstA s) e.1.f0
   refine ⟨?_, ?_, fun d hd => ?_⟩
   ·show far e.1.f0 s.nx ≤ wn
    rw [far_less (f := fstA s) (by omega)]
    omega
   ·refine List.Pairwise.imp_of_mem (fun {x y} hx hy hxy => ?_) p2
    rw [far_less (f := fstA s) (ge x hx), far_less (f := fstA s) (ge y hy)]
    omega
   ·have := h3 d (hsub.subset hd)
    show far e.1.f0 d.1.f0 < far e.1.f0 s.nx
    rw [far_less (f := fstA s) (ge d hd), far_less (f := fstA s) (show far (fstA s) e.1.f0 ≤ far (fstA s) s.nx by omega)]
    omega
 ·rw [gotA_no ht]
  exact h
theorem rise_len {α : Type} (v : α → Int) : ∀ (D : List α) (lo m : Int), D.Pairwise (fun a b => v a < v b) → (∀ d ∈ D, lo ≤ v d ∧ v d < m) → lo ≤ m → (D.length : Int) ≤ m - lo := by
 intro D
 induction D with
 | nil => intro lo m _ _ h; simp; omega
 | cons d D ih =>
  intro lo m hp hb hm
  obtain ⟨p1, p2⟩ := List.pairwise_cons.1 hp
  have hd := hb d List.mem_cons_self
  have := ih (v d + 1) m p2 (fun c hc => ⟨by have := p1 c hc; omega, (hb c (List.mem_cons_of_mem _ hc)).2⟩) (by omega)
  rw [List.length_cons]
  push_cast
  omega
theorem Win.len {wn : Int} {s : AS} (h : Win wn s) : (s.D.length : Int) ≤ wn := by
 have h0 := far_range (fstA s) s.nx
 have := rise_len (fun d : S48 × Int => far (fstA s) d.1.f0) s.D 0 (far (fstA s) s.nx) h.2.1 (fun d hd => ⟨(far_range _ _).1, h.2.2 d hd⟩) h0.1
 have := h.1
 omega
theorem Win.near {wn : Int} {s : AS} (h : Win wn s) (d : S48 × Int) (hd : d ∈ s.D) : far (fstA s) d.1.f0 < wn := by
 have := h.1
 have := h.2.2 d hd
 omega
theorem Hr.lt {α : Type} {d : Kd α} {e : Nat} {w0 w : World} {F R : Nat → Prop} {v : Value} {xs : List α} (h : Hr d e w0 w F R v xs) : ∀ k, v.ownBlock = some k → k < w.heap.size := Kd.R_lt h.1
theorem R_readsM {w : World} {base n c : Nat} {ok : Nat → Prop} {A : Option Addr} {X : List S48} (h : k48.R 48 w base ok (.slice A n c) X) : ReadsRow (k48.M w base ok) k48.sz w A n X := by
 obtain ⟨hn, hnc, hC⟩ := Kd.R_reads' h
 refine ⟨hn.symm, by rw [hn]; exact hC.2.1, fun hp => ?_⟩
 obtain ⟨gq, cap, ev, _, _⟩ := Kd.R_form h (by omega)
 injection ev with ea en ec
 subst ea
 refine ⟨_, rfl, fun j p hj => ?_⟩
 obtain ⟨hjl, hp2⟩ := List.getElem?_eq_some_iff.1 hj
 obtain ⟨cs, hl, hM, hcs, _⟩ := Kd.R_elem h z48 (j : Int) (by omega) (by omega)
 rw [Int.toNat_natCast, List.getD_eq_getElem?_getD, hj] at hM
 refine ⟨cs, hl, k48.M_mono (fun k hk => hk.1) hM, fun i u hu => ?_⟩
 rw [add_plain]
 have := hcs i u hu
 rw [Int.toNat_natCast] at this
 exact this
theorem Hr.grownH {w0 w w' : World} {F R : Nat → Prop} {v v2 : Value} {T T2 : List S48} (h : Hr k48 48 w0 w F R v T) (ho : k48.R 48 w' w0.heap.size (fun k => ¬ R k) v2 T2) (hat : v2.ownBlock = v.ownBlock ∨ ∃ b, v2.ownBlock = some b ∧ w.heap.size ≤ b) (hF : ∀ k, F k → k < w.heap.size) : Hr k48 48 w0 w' F R v2 T2 := by
 refine ⟨ho, fun k hk => ?_⟩
 rcases hat with e | ⟨b, e, hb⟩
 ·exact h.2 k (e ▸ hk)
 ·obtain rfl := Option.some.inj (e.symm.trans hk)
  exact fun h2 => by have := hF _ h2; omega
theorem send_w {w0 w : World} {F R : Nat → Prop} {g : Nat} {wn tr : Int} {s : AS} {n nX : Nat} {X : List S48} (h : Sn w0 w F R g wn tr s) (hk : OkA tr n s) (hn : n ≤ 900000) (hX : X = XA wn s) (hnX : nX = X.length) : Calls Try.prog 12 #[.pointer (some ⟨g, 0, none⟩)] w fun e w' => ∃ A c F' R', e = .returned (.slice A nX c) ∧ Sn w0 w' F' R' g wn tr (sendA wn s) ∧ SX w F R w' F' R' ∧ k48.R 48 w' w0.heap.size (fun k => w.heap.size ≤ k ∧ ¬ R' k) (.slice A nX c) X := by
 subst hX
 subst hnX
 refine (send_a h hk hn).mono ?_
 rintro e w' ⟨v, F', R', rfl, hs, hx, _, _, hr⟩
 obtain ⟨A, c, rfl⟩ := Kd.R_slice hr
 exact ⟨A, c, F', R', rfl, hs, hx, hr⟩
theorem out_l {w0 w : World} {F R : Nat → Prop} {g : Nat} {wn tr : Int} {s : AS} {n nl : Nat} (h : Sn w0 w F R g wn tr s) (hk : OkA tr n s) (hn : n ≤ 900000) (hl : nl = (s.D.map Prod.fst).length) : Calls Try.prog 15 #[.pointer (some ⟨g, 0, none⟩)] w fun e w' => ∃ A c, e = .returned (.slice A nl c) ∧ Below w.heap.size w w' ∧ Hr k48 48 w0 w' F R (.slice A nl c) (s.D.map Prod.fst) := by
 subst hl
 refine (out_a h hk hn).mono ?_
 rintro e w' ⟨v, rfl, hb, hr, _⟩
 obtain ⟨A, c, rfl⟩ := Kd.R_slice hr.1
 exact ⟨A, c, rfl, hb, hr⟩
theorem sameB_w {w : World} {A A' : Option Addr} {c c' : Nat} {a b : S48} (h1 : k48.C w A 1 [a] ∧ 1 ≤ c) (h2 : k48.C w A' 1 [b] ∧ 1 ≤ c') (ha : a.f1.length ≤ 100000) (hb : b.f1.length ≤ 100000) (r : Bool) (hr : decide (a = b) = r) :
  Calls Try.prog 16 #[.slice A 1 c, .slice A' 1 c'] w fun e w' => e = .returned (.bool r) ∧ Below w.heap.size w w' := by
 subst hr
 obtain ⟨K, hK⟩ := sameB_ev a b ha hb
 exact (thalwegref05_Same.calls K A c [a] A' c' [b] _ w h1.1 h1.2 h2.1 h2.2 (hK K (Nat.le_refl _))).mono (fun _ _ h => ⟨h.1, h.2.below⟩)
theorem cut_one {w : World} {base n c : Nat} {ok : Nat → Prop} {A : Option Addr} {X : List S48} (h : k48.R 48 w base ok (.slice A n c) X) (i : Int) (h0 : 0 ≤ i) (h1 : i < n) : ∃ A1 c1, (∀ W : World, (Instr.slice 28 (.slice A n c) (some (.int .i64 i)) (some (.int .i64 (i + 1))) none).run Try.prog W = .ok (.slice A1 1 c1) W) ∧ k48.C w A1 1 [rd_T48 X i] ∧ 1 ≤ c1 := by
 obtain ⟨hn, hnc, hC⟩ := Kd.R_reads' h
 obtain ⟨i0, hi0, _, hsz, _⟩ := info_parts info48
 have hm := cut_mid (P := Try.prog) 28 48 .i64 .i64 Try.underlying28 hi0 2 hsz A n c i (i + 1) h0 (by omega) (by omega) hnc
 have hc := Kd.C_mid (lo := i.toNat) (hi := i.toNat + 1) hC (by omega) (by omega) (by omega : X.length ≤ c)
 have hxl : i.toNat < X.length := by omega
 have hg : rd_T48 X i = X[i.toNat]'hxl := by
  unfold rd_T48
  rw [List.getD_eq_getElem?_getD, List.getElem?_eq_getElem hxl]
  rfl
 have he : (X.take (i.toNat + 1)).drop i.toNat = [rd_T48 X i] := by
  rw [hg, List.take_succ_eq_append_getElem hxl, List.drop_left' (by rw [List.length_take]; omega)]
 rw [he] at hc
 have hz : k48.sz = 2 := rfl
 rw [hz] at hc
 refine ⟨if c = i.toNat then A else A.map (·.add (i.toNat * 2)), c - i.toNat, fun W => ?_, hc, by omega⟩
 have h3 := hm W
 rw [show (i + 1).toNat - i.toNat = 1 by omega] at h3
 exact h3
end Go.Proofs.Ytclbempnhelmoaa.P
