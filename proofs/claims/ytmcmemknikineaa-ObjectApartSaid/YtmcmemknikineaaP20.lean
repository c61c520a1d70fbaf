-- WRITTEN BY xprint.py, a program of this session that drives the kit's printer.
import Derived.Test.YtmcmemknikineaaP0
import Derived.Test.YtmcmemknikineaaP10
namespace Go.Proofs.Ytmcmemknikineaa.P
open Go.RowKit Go.Proofs.YtmcmemknikineaaW.PrintWords Go.Proofs.YtmcmemknikineaaW.PrintLast Go.Proofs.YtmcmemknikineaaW.PrintMore
attribute [local go_sem] max2_int min2_int max_two min_two max_three min_three max_four min_four   -- for this text's walks alone
set_option linter.unusedVariables false
set_option linter.unusedSimpArgs false

/-! ### object_Size: function 12 -/
def object_Size.f (k : Nat) (a0_0 : Int) (a0_1 : Int) (a0_2 : Bool) (a0_3 : Int) (a0_4 : Int) (a0_5 : Int) (a0_6 : Int) (a0_7 : Int) (a0_8 : Int) (a0_9 : Int) (a0_10 : Int) (a0_11 : Int) : Option (Int) := (object_Bytes.f k a0_0 a0_1 a0_2 a0_3 a0_4 a0_5 a0_6 a0_7 a0_8 a0_9 a0_10 a0_11).bind fun bt302 => (some (bt302.1.length : Int))
theorem object_Size.mono : ∀ a0 a1 a2 a3 a4 a5 a6 a7 a8 a9 a10 a11 k, LeO (object_Size.f k a0 a1 a2 a3 a4 a5 a6 a7 a8 a9 a10 a11) (object_Size.f (k + 1) a0 a1 a2 a3 a4 a5 a6 a7 a8 a9 a10 a11) := by
  intro a0 a1 a2 a3 a4 a5 a6 a7 a8 a9 a10 a11 k
  unfold object_Size.f
  repeat' first
      | (with_reducible exact object_Bytes.mono _ _ _ _ _ _ _ _ _ _ _ _ _)
      | (with_reducible exact LeO.refl _)
      | (with_reducible exact LeO.none _)
      | (with_reducible refine LeO.ite ?_ ?_)
      | (with_reducible refine LeO.bind ?_ (fun _ => ?_))
      | exact object_Bytes.mono _ _ _ _ _ _ _ _ _ _ _ _ _
      | exact LeO.none _
      | refine LeO.ite ?_ ?_
      | refine LeO.bind ?_ (fun _ => ?_)
set_option maxHeartbeats 8000000 in
set_option maxRecDepth 100000 in
theorem object_Size.calls (k : Nat) (a0_0 : Int) (a0_1 : Int) (a0_2 : Bool) (a0_3 : Int) (a0_4 : Int) (a0_5 : Int) (a0_6 : Int) (a0_7 : Int) (a0_8 : Int) (a0_9 : Int) (a0_10 : Int) (a0_11 : Int) (r : Int) (w : World) (h : object_Size.f k a0_0 a0_1 a0_2 a0_3 a0_4 a0_5 a0_6 a0_7 a0_8 a0_9 a0_10 a0_11 = some r) :
    Calls Try.prog 12 #[.agg #[.int .i64 a0_0, .int .i64 a0_1, .bool a0_2, .int .i64 a0_3, .int .i64 a0_4, .int .i64 a0_5, .int .i64 a0_6, .int .i64 a0_7, .int .i64 a0_8, .int .i64 a0_9, .int .i64 a0_10, .int .i64 a0_11]] w fun e w' => e = .returned (.int .i64 r) ∧ Below w.heap.size w w' := by
  have hu27 := Try.underlying27
  have HB := Aside0.mk (Below.refl w.heap.size w)
  have H : ((object_Bytes.f k a0_0 a0_1 a0_2 a0_3 a0_4 a0_5 a0_6 a0_7 a0_8 a0_9 a0_10 a0_11).bind fun bt302 => (some (bt302.1.length : Int))) = some r := h
  clear h
  replace H := Option.bind_eq_some_iff.mp H
  obtain ⟨⟨t302, t305⟩, A20, H⟩ := H
  replace H : (some (t302.length : Int)) = some r := H
  have A2 := Aside0.mk A20
  clear A20
  obtain rfl := Option.some.inj H
  go_enter Try.func12, Try.ntmps12
  go_wp2_with (first | ((with_reducible refine gate_dst (N := 1) rfl ?_); refine box_event ?hg (N := 1) ?hd (cs := #[.int .i64 a0_0, .int .i64 a0_1, .bool a0_2, .int .i64 a0_3, .int .i64 a0_4, .int .i64 a0_5, .int .i64 a0_6, .int .i64 a0_7, .int .i64 a0_8, .int .i64 a0_9, .int .i64 a0_10, .int .i64 a0_11]) (t := 27) ?hr ?_; (case hd => rfl); (case hg => rfl); (case hr => first | (go_simp; done) | (go_simp; rfl)); intro gb301 hg w3 hbox hb; have n0_ := Aside0.mk (below_step (by repeat (first | (with_reducible first | exact HB.out | apply below_alloc | apply pw_below_drewN | apply below_drew1) | exact HB.out)) hb); have n1_ := Aside0.mk (hbox); have n2_ := Aside0.mk ((by rw [hg]; exact (below_size (by repeat (first | (with_reducible first | exact HB.out | apply below_alloc | apply pw_below_drewN | apply below_drew1) | exact HB.out))) : w.heap.size ≤ gb301)); have n3_ := Aside0.mk ((by rw [hg]; exact (below_size (by repeat (first | (with_reducible first | exact HB.out | apply below_alloc | apply pw_below_drewN | apply below_drew1) | exact HB.out))) : w.heap.size ≤ gb301)); clear HB; have HB := n0_; have BK301 := n1_; have GW301 := n2_; have GE301 := n3_; clear n0_ n1_ n2_ n3_; clear hb hbox hg; have hcz4_0 : w3.cell? ⟨gb301, 0, none⟩ = some (.int .i64 a0_0) := (blk_cell BK301.out 0).trans rfl; have hcz4_1 : w3.cell? ⟨gb301, 1, none⟩ = some (.int .i64 a0_1) := (blk_cell BK301.out 1).trans rfl; have hcz4_2 : w3.cell? ⟨gb301, 2, none⟩ = some (.bool a0_2) := (blk_cell BK301.out 2).trans rfl; have hcz4_3 : w3.cell? ⟨gb301, 3, none⟩ = some (.int .i64 a0_3) := (blk_cell BK301.out 3).trans rfl; have hcz4_4 : w3.cell? ⟨gb301, 4, none⟩ = some (.int .i64 a0_4) := (blk_cell BK301.out 4).trans rfl; have hcz4_5 : w3.cell? ⟨gb301, 5, none⟩ = some (.int .i64 a0_5) := (blk_cell BK301.out 5).trans rfl; have hcz4_6 : w3.cell? ⟨gb301, 6, none⟩ = some (.int .i64 a0_6) := (blk_cell BK301.out 6).trans rfl; have hcz4_7 : w3.cell? ⟨gb301, 7, none⟩ = some (.int .i64 a0_7) := (blk_cell BK301.out 7).trans rfl; have hcz4_8 : w3.cell? ⟨gb301, 8, none⟩ = some (.int .i64 a0_8) := (blk_cell BK301.out 8).trans rfl; have hcz4_9 : w3.cell? ⟨gb301, 9, none⟩ = some (.int .i64 a0_9) := (blk_cell BK301.out 9).trans rfl; have hcz4_10 : w3.cell? ⟨gb301, 10, none⟩ = some (.int .i64 a0_10) := (blk_cell BK301.out 10).trans rfl; have hcz4_11 : w3.cell? ⟨gb301, 11, none⟩ = some (.int .i64 a0_11) := (blk_cell BK301.out 11).trans rfl; have hfz4_0 := blk_frozen BK301.out 0; have hfz4_1 := blk_frozen BK301.out 1; have hfz4_2 := blk_frozen BK301.out 2; have hfz4_3 := blk_frozen BK301.out 3; have hfz4_4 := blk_frozen BK301.out 4; have hfz4_5 := blk_frozen BK301.out 5; have hfz4_6 := blk_frozen BK301.out 6; have hfz4_7 := blk_frozen BK301.out 7; have hfz4_8 := blk_frozen BK301.out 8; have hfz4_9 := blk_frozen BK301.out 9; have hfz4_10 := blk_frozen BK301.out 10; have hfz4_11 := blk_frozen BK301.out 11) | ((with_reducible refine gate_callee (f := 7) rfl ?_); refine goesL_ (some 7) rfl rfl Try.func7 (by kernel_rfl) rfl #[.agg #[.int .i64 a0_0, .int .i64 a0_1, .bool a0_2, .int .i64 a0_3, .int .i64 a0_4, .int .i64 a0_5, .int .i64 a0_6, .int .i64 a0_7, .int .i64 a0_8, .int .i64 a0_9, .int .i64 a0_10, .int .i64 a0_11]] rfl (by (try simp only [List.map_toArray, List.map_cons, List.map_nil]); first | done | rfl | (simp only [List.length_drop, List.length_take]; rfl)) ?_; (with_reducible refine (object_Bytes.calls k a0_0 a0_1 a0_2 a0_3 a0_4 a0_5 a0_6 a0_7 a0_8 a0_9 a0_10 a0_11 t302 t305 _ A2.out).mono ?_); rintro e w5 ⟨v303, rfl, ho0, hb⟩; refine ⟨_, rfl, ?_⟩; have n0_ := Aside0.mk (Kd.R_lower ho0 (below_size (by repeat (first | (with_reducible first | exact HB.out | apply below_alloc | apply pw_below_drewN | apply below_drew1 | refine below_set ?_ GE301.out) | exact HB.out)))); have n1_ := Aside0.mk (blk_below (g := gb301) (o := .cells #[.int .i64 a0_0, .int .i64 a0_1, .bool a0_2, .int .i64 a0_3, .int .i64 a0_4, .int .i64 a0_5, .int .i64 a0_6, .int .i64 a0_7, .int .i64 a0_8, .int .i64 a0_9, .int .i64 a0_10, .int .i64 a0_11] 27 (0, 0)) (by (with_reducible repeat (first | refine blk_drewN ?_ _ | refine blk_drew ?_ | refine blk_alloc ?_ _)); exact BK301.out) hb); have n2_ := Aside0.mk (below_step (by repeat (first | (with_reducible first | exact HB.out | apply below_alloc | apply pw_below_drewN | apply below_drew1 | refine below_set ?_ GE301.out) | exact HB.out)) hb); clear BK301; clear HB; have HO304 := n0_; have BK301 := n1_; have HB := n2_; clear n0_ n1_ n2_; (try clear hb); (try clear hb2); (try clear hk); (try clear hi); (try clear ho0); obtain ⟨Ao6, co6, eo6⟩ := Kd.R_slice HO304.out; subst eo6))
  go_ret
  exact ⟨by first | rfl | (simp [errW_none, errW_some] <;> rfl) | (simp [*, errW_none, errW_some] <;> rfl), by repeat (first | (with_reducible first | exact HB.out | apply below_alloc | apply pw_below_drewN | apply below_drew1 | refine below_set ?_ GE301.out) | exact HB.out)⟩

end Go.Proofs.Ytmcmemknikineaa.P
