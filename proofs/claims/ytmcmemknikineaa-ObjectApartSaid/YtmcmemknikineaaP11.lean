-- WRITTEN BY xprint.py, a program of this session that drives the kit's printer.
import Derived.Test.YtmcmemknikineaaP0
import Derived.Test.YtmcmemknikineaaP10
namespace Go.Proofs.Ytmcmemknikineaa.P
open Go.RowKit Go.Proofs.YtmcmemknikineaaW.PrintWords Go.Proofs.YtmcmemknikineaaW.PrintLast Go.Proofs.YtmcmemknikineaaW.PrintMore
attribute [local go_sem] max2_int min2_int max_two min_two max_three min_three max_four min_four   -- for this text's walks alone
set_option linter.unusedVariables false
set_option linter.unusedSimpArgs false

/-! ### thalweglaw04_awake: function 8 -/
def thalweglaw04_awake.f (k : Nat)  : Option (Bool) := (object_Bytes.f k 1 5 false 0 0 0 0 0 0 0 0 0).bind fun bt201 => ((object_Bytes.f k 2 5 true 0 0 0 0 2 0 0 0 0).bind fun bt205 => (if (strOfNums bt201.1).toList = ([1, 5] : List UInt8) then (if bt201.2 = 0 then (if (strOfNums bt205.1).toList = ([2, 5, 0, 2] : List UInt8) then (some (bt205.2 == bt201.2)) else (none)) else (none)) else (none)))
theorem thalweglaw04_awake.mono : ∀ k, LeO (thalweglaw04_awake.f k ) (thalweglaw04_awake.f (k + 1) ) := by
  intro  k
  unfold thalweglaw04_awake.f
  repeat' first
      | (with_reducible exact object_Bytes.mono _ _ _ _ _ _ _ _ _ _ _ _ _)
      | (with_reducible exact LeO.refl _)
      | (with_reducible exact LeO.none _)
      | (with_reducible refine LeO.ite ?_ ?_)
      | (with_reducible refine LeO.bind ?_ (fun _ => ?_))
      | exact object_Bytes.mono _ _ _ _ _ _ _ _ _ _ _ _ _
      | exact LeO.none _
      | refine LeO.ite ?_ ?_
      | refine LeO.bind ?_ (fun _ => ?_)
set_option maxHeartbeats 8000000 in
set_option maxRecDepth 100000 in
theorem thalweglaw04_awake.calls (k : Nat)  (r : Bool) (w : World) (h : thalweglaw04_awake.f k  = some r) :
    Calls Try.prog 8 #[] w fun e w' => e = .returned (.bool r) ∧ Below w.heap.size w w' := by
  have hu27 := Try.underlying27
  have hu23 := Try.underlying23
  have HB := Aside0.mk (Below.refl w.heap.size w)
  have H : ((object_Bytes.f k 1 5 false 0 0 0 0 0 0 0 0 0).bind fun bt201 => ((object_Bytes.f k 2 5 true 0 0 0 0 2 0 0 0 0).bind fun bt205 => (if (strOfNums bt201.1).toList = ([1, 5] : List UInt8) then (if bt201.2 = 0 then (if (strOfNums bt205.1).toList = ([2, 5, 0, 2] : List UInt8) then (some (bt205.2 == bt201.2)) else (none)) else (none)) else (none)))) = some r := h
  clear h
  replace H := Option.bind_eq_some_iff.mp H
  obtain ⟨⟨t201, t204⟩, A10, H⟩ := H
  replace H : ((object_Bytes.f k 2 5 true 0 0 0 0 2 0 0 0 0).bind fun bt205 => (if (strOfNums t201).toList = ([1, 5] : List UInt8) then (if t204 = 0 then (if (strOfNums bt205.1).toList = ([2, 5, 0, 2] : List UInt8) then (some (bt205.2 == t204)) else (none)) else (none)) else (none))) = some r := H
  have A1 := Aside0.mk A10
  clear A10
  replace H := Option.bind_eq_some_iff.mp H
  obtain ⟨⟨t205, t208⟩, A20, H⟩ := H
  replace H : (if (strOfNums t201).toList = ([1, 5] : List UInt8) then (if t204 = 0 then (if (strOfNums t205).toList = ([2, 5, 0, 2] : List UInt8) then (some (t208 == t204)) else (none)) else (none)) else (none)) = some r := H
  have A2 := Aside0.mk A20
  clear A20
  by_cases c3 : (strOfNums t201).toList = ([1, 5] : List UInt8)
  rotate_left
  · rw [if_neg c3] at H
    exact absurd H (by simp)
  rw [if_pos c3] at H
  have c3b0 : ((strOfNums t201).toList == ([1, 5] : List UInt8)) = true := beq_iff_eq.mpr c3
  have c3b1 : ((strOfNums t201).toList != ([1, 5] : List UInt8)) = false := bne_eq_false_iff_eq.mpr c3
  clear c3
  by_cases c4 : t204 = 0
  rotate_left
  · rw [if_neg c4] at H
    exact absurd H (by simp)
  rw [if_pos c4] at H
  have c4b0 : (t204 == 0) = true := beq_iff_eq.mpr c4
  have c4b1 : (t204 != 0) = false := bne_eq_false_iff_eq.mpr c4
  clear c4
  by_cases c5 : (strOfNums t205).toList = ([2, 5, 0, 2] : List UInt8)
  rotate_left
  · rw [if_neg c5] at H
    exact absurd H (by simp)
  rw [if_pos c5] at H
  have c5b0 : ((strOfNums t205).toList == ([2, 5, 0, 2] : List UInt8)) = true := beq_iff_eq.mpr c5
  have c5b1 : ((strOfNums t205).toList != ([2, 5, 0, 2] : List UInt8)) = false := bne_eq_false_iff_eq.mpr c5
  clear c5
  obtain rfl := Option.some.inj H
  go_enter Try.func8, Try.ntmps8
  go_wp2_with (first | ((with_reducible refine gate_callee (f := 7) rfl ?_); refine goesL_ (some 7) rfl rfl Try.func7 (by kernel_rfl) rfl #[.agg #[.int .i64 1, .int .i64 5, .bool false, .int .i64 0, .int .i64 0, .int .i64 0, .int .i64 0, .int .i64 0, .int .i64 0, .int .i64 0, .int .i64 0, .int .i64 0]] rfl (by (try simp only [List.map_toArray, List.map_cons, List.map_nil]); first | done | rfl | (simp only [List.length_drop, List.length_take]; rfl)) ?_; (with_reducible refine (object_Bytes.calls k 1 5 false 0 0 0 0 0 0 0 0 0 t201 t204 _ A1.out).mono ?_); rintro e w6 ⟨v202, rfl, ho0, hb⟩; refine ⟨_, rfl, ?_⟩; have n0_ := Aside0.mk (Kd.R_lower ho0 (below_size (by repeat (first | (with_reducible first | exact HB.out | apply below_alloc | apply pw_below_drewN | apply below_drew1) | exact HB.out)))); have n1_ := Aside0.mk (below_step (by repeat (first | (with_reducible first | exact HB.out | apply below_alloc | apply pw_below_drewN | apply below_drew1) | exact HB.out)) hb); clear HB; have HO203 := n0_; have HB := n1_; clear n0_ n1_; (try clear hb); (try clear hb2); (try clear hk); (try clear hi); (try clear ho0)) | ((with_reducible refine gate_callee (f := 7) rfl ?_); refine goesL_ (some 13) rfl rfl Try.func7 (by kernel_rfl) rfl #[.agg #[.int .i64 2, .int .i64 5, .bool true, .int .i64 0, .int .i64 0, .int .i64 0, .int .i64 0, .int .i64 2, .int .i64 0, .int .i64 0, .int .i64 0, .int .i64 0]] rfl (by (try simp only [List.map_toArray, List.map_cons, List.map_nil]); first | done | rfl | (simp only [List.length_drop, List.length_take]; rfl)) ?_; (with_reducible refine (object_Bytes.calls k 2 5 true 0 0 0 0 2 0 0 0 0 t205 t208 _ A2.out).mono ?_); rintro e w7 ⟨v206, rfl, ho0, hb⟩; refine ⟨_, rfl, ?_⟩; have n0_ := Aside0.mk (Kd.R_elder' (by (with_reducible repeat (first | apply Kd.R_alloc | apply Kd.R_drewN | apply Kd.R_drew)); exact HO203.out) (Kd.R_base ho0) hb); have n1_ := Aside0.mk (Kd.R_lower (Kd.R_new' ho0 (Kd.R_lt (by (with_reducible repeat (first | apply Kd.R_alloc | apply Kd.R_drewN | apply Kd.R_drew)); exact HO203.out))) (below_size (by repeat (first | (with_reducible first | exact HB.out | apply below_alloc | apply pw_below_drewN | apply below_drew1) | exact HB.out)))); have n2_ := Aside0.mk (below_step (by repeat (first | (with_reducible first | exact HB.out | apply below_alloc | apply pw_below_drewN | apply below_drew1) | exact HB.out)) hb); clear HO203; clear HB; have HO203 := n0_; have HO207 := n1_; have HB := n2_; clear n0_ n1_ n2_; (try clear hb); (try clear hb2); (try clear hk); (try clear hi); (try clear ho0); have hcv8 := own_string (P := Try.prog) Try.underlying28 Try.underlying5 Try.underlying9 (Kd.own_of_R HO203.out); have hcv9 := own_string (P := Try.prog) Try.underlying28 Try.underlying5 Try.underlying9 (Kd.own_of_R HO207.out)))
  go_ret
  exact ⟨by first | rfl | (simp [errW_none, errW_some] <;> rfl) | (simp [*, errW_none, errW_some] <;> rfl), by repeat (first | (with_reducible first | exact HB.out | apply below_alloc | apply pw_below_drewN | apply below_drew1) | exact HB.out)⟩

end Go.Proofs.Ytmcmemknikineaa.P
