-- WRITTEN BY xprint.py, a program of this session that drives the kit's printer.
import Derived.Test.YtjeahmlahkngaaaP0
namespace Go.Proofs.Ytjeahmlahkngaaa.P
open Go.RowKit Go.Proofs.YtjeahmlahkngaaaW.PrintWords Go.Proofs.YtjeahmlahkngaaaW.PrintLast Go.Proofs.YtjeahmlahkngaaaW.PrintMore
open Go.Proofs.YtjeahmlahkngaaaW.PrintWords renaming below_alloc → YA, pw_below_drewN → YB, below_drew1 → YC, blk_drewN → YD, blk_drew → YE, blk_alloc → YF, blk_cell → YG, blk_frozen → YH
open Go.Proofs.YtjeahmlahkngaaaW.PrintWords.Aside0 renaming mk → YI
attribute [local go_sem] max2_int min2_int max_two min_two max_three min_three max_four min_four   -- for this text's walks alone
set_option linter.unusedVariables false
set_option linter.unusedSimpArgs false

/-! ### height_Null: function 21 -/
def height_Null.f (a0 : Int) : Option (Bool × Int × Int × Int × Int × Int) := some (true, 0, 0, 0, 0, a0)
set_option maxHeartbeats 8000000 in
set_option maxRecDepth 100000 in
theorem height_Null.calls (a0 : Int) (r1 : Bool) (r2 : Int) (r3 : Int) (r4 : Int) (r5 : Int) (r6 : Int) (w : World) (h : height_Null.f a0 = some (r1, r2, r3, r4, r5, r6)) :
    Calls Try.prog 21 #[.int .i64 a0] w fun e w' => e = .returned (.agg #[.bool r1, .int .i64 r2, .int .i64 r3, .int .i64 r4, .int .i64 r5, .int .i64 r6]) ∧ Below w.heap.size w w' := by
  have hu23 := Try.underlying23
  have HB := YI (Below.refl w.heap.size w)
  have H : (some (true, 0, 0, 0, 0, a0)) = some (r1, r2, r3, r4, r5, r6) := h
  clear h
  simp only [Option.some.injEq, Prod.mk.injEq] at H
  obtain ⟨rfl, rfl, rfl, rfl, rfl, rfl⟩ := H
  go_enter Try.func21, Try.ntmps21
  go_wp2_with (first | ((with_reducible refine gate_dst (N := 2) rfl ?_); refine box_event ?hg (N := 2) ?hd (cs := #[.bool false, .int .i64 0, .int .i64 0, .int .i64 0, .int .i64 0, .int .i64 0]) (t := 23) ?hr ?_; (case hd => rfl); (case hg => rfl); (case hr => first | (go_simp; done) | (go_simp; rfl)); intro gb101 hg w2 hbox hb; have n0_ := YI (below_step (by repeat (first | (with_reducible first | exact HB.out | apply YA | apply YB | apply YC) | exact HB.out)) hb); have n1_ := YI (hbox); have n2_ := YI ((by rw [hg]; exact (below_size (by repeat (first | (with_reducible first | exact HB.out | apply YA | apply YB | apply YC) | exact HB.out))) : w.heap.size ≤ gb101)); have n3_ := YI ((by rw [hg]; exact (below_size (by repeat (first | (with_reducible first | exact HB.out | apply YA | apply YB | apply YC) | exact HB.out))) : w.heap.size ≤ gb101)); clear HB; have HB := n0_; have BK101 := n1_; have GW101 := n2_; have GE101 := n3_; clear n0_ n1_ n2_ n3_; clear hb hbox hg; have hcz3_0 : w2.cell? ⟨gb101, 0, none⟩ = some (.bool false) := (YG BK101.out 0).trans rfl; have hcz3_1 : w2.cell? ⟨gb101, 1, none⟩ = some (.int .i64 0) := (YG BK101.out 1).trans rfl; have hcz3_2 : w2.cell? ⟨gb101, 2, none⟩ = some (.int .i64 0) := (YG BK101.out 2).trans rfl; have hcz3_3 : w2.cell? ⟨gb101, 3, none⟩ = some (.int .i64 0) := (YG BK101.out 3).trans rfl; have hcz3_4 : w2.cell? ⟨gb101, 4, none⟩ = some (.int .i64 0) := (YG BK101.out 4).trans rfl; have hcz3_5 : w2.cell? ⟨gb101, 5, none⟩ = some (.int .i64 0) := (YG BK101.out 5).trans rfl; have hfz3_0 := YH BK101.out 0; have hfz3_1 := YH BK101.out 1; have hfz3_2 := YH BK101.out 2; have hfz3_3 := YH BK101.out 3; have hfz3_4 := YH BK101.out 4; have hfz3_5 := YH BK101.out 5))
  refine bodyPost_ret (results_cell_row rfl _ _ gb101 23 #[.bool true, .int .i64 0, .int .i64 0, .int .i64 0, .int .i64 0, .int .i64 a0] (0, 0) _ rfl (by (with_reducible repeat (first | refine YD ?_ _ | refine YE ?_ | refine YF ?_ _)); refine blk_put (cs := #[.bool true, .int .i64 0, .int .i64 0, .int .i64 0, .int .i64 0, .int .i64 0]) ?_ 5 _ rfl; (with_reducible repeat (first | refine YD ?_ _ | refine YE ?_ | refine YF ?_ _)); refine blk_put (cs := #[.bool true, .int .i64 0, .int .i64 0, .int .i64 0, .int .i64 0, .int .i64 0]) ?_ 4 _ rfl; (with_reducible repeat (first | refine YD ?_ _ | refine YE ?_ | refine YF ?_ _)); refine blk_put (cs := #[.bool true, .int .i64 0, .int .i64 0, .int .i64 0, .int .i64 0, .int .i64 0]) ?_ 3 _ rfl; (with_reducible repeat (first | refine YD ?_ _ | refine YE ?_ | refine YF ?_ _)); refine blk_put (cs := #[.bool true, .int .i64 0, .int .i64 0, .int .i64 0, .int .i64 0, .int .i64 0]) ?_ 2 _ rfl; (with_reducible repeat (first | refine YD ?_ _ | refine YE ?_ | refine YF ?_ _)); refine blk_put (cs := #[.bool true, .int .i64 0, .int .i64 0, .int .i64 0, .int .i64 0, .int .i64 0]) ?_ 1 _ rfl; (with_reducible repeat (first | refine YD ?_ _ | refine YE ?_ | refine YF ?_ _)); refine blk_put (cs := #[.bool false, .int .i64 0, .int .i64 0, .int .i64 0, .int .i64 0, .int .i64 0]) ?_ 0 _ rfl; (with_reducible repeat (first | refine YD ?_ _ | refine YE ?_ | refine YF ?_ _)); exact BK101.out) Try.underlying23 rfl (by kernel_rfl)) rfl ?_
  exact ⟨by first | rfl | (simp [errW_none, errW_some] <;> rfl) | (simp [*, errW_none, errW_some] <;> rfl), by repeat (first | (with_reducible first | exact HB.out | apply YA | apply YB | apply YC | refine below_set ?_ GE101.out) | exact HB.out)⟩

end Go.Proofs.Ytjeahmlahkngaaa.P
