-- WRITTEN BY xprint.py, a program of this session that drives the kit's printer.
import Derived.ChangeKeysEq
import Derived.Test.YtbejdbgcfgllhaaP0
namespace Go.Proofs.Ytbejdbgcfgllhaa.P
open Go.RowKit Go.Proofs.YtbejdbgcfgllhaaW.PrintWords Go.Proofs.YtbejdbgcfgllhaaW.PrintLast Go.Proofs.YtbejdbgcfgllhaaW.PrintMore
attribute [local go_sem] max2_int min2_int max_two min_two max_three min_three max_four min_four   -- for this text's walks alone
set_option linter.unusedVariables false
set_option linter.unusedSimpArgs false

theorem eqA36 (d : Nat) (w : World) (x0 y0 : Int) (x1 y1 : Int) :
    (Op.equalIn (d + 2) 36 (.agg #[.int .i64 x0, .int .i64 x1]) (.agg #[.int .i64 y0, .int .i64 y1])).run Try.prog w = .ok (x0 == y0 && (x1 == y1)) w := by
  obtain ⟨i3, hi3, _⟩ := Option.map_eq_some_iff.mp info3
  have hp : Try.prog.plainKey 3 = true := by kernel_rfl
  have hc3 : Try.prog.cellsOf 3 = 1 := by kernel_rfl
  rw [run_equalIn_array (P := Try.prog) w (d + 1) _ _ Try.underlying36 hi3, hc3]
  have e0 : ∀ (a b : Int) (w' : World), (part 3 #[Value.int .i64 a, Value.int .i64 b] (0 * 1)).run Try.prog w' = .ok (.int .i64 a) w' := fun a b w' => run_part_plain w' hp rfl
  have e1 : ∀ (a b : Int) (w' : World), (part 3 #[Value.int .i64 a, Value.int .i64 b] (1 * 1)).run Try.prog w' = .ok (.int .i64 b) w' := fun a b w' => run_part_plain w' hp rfl
  have q : ∀ (a b : Int) (w' : World), (Op.equalIn (d + 1) 3 (.int .i64 a) (.int .i64 b)).run Try.prog w' = .ok (a == b) w' := fun a b w' => run_equalIn_int w' d 3 .i64 .i64 a b Try.underlying3
  show (Op.eqItems (d + 1) 3 1 _ _ [0, 1]).run _ _ = _
  simp only [Op.eqItems, Sem.run_bind, e0, e1, q, Result.andThen_ok]
  by_cases h0 : x0 = y0
  · subst h0
    by_cases h1 : x1 = y1
    · subst h1
      simp only [beq_self_eq_true, Bool.not_true, Bool.false_eq_true, if_false, Sem.run_bind, e1, q, Result.andThen_ok]; rfl
    · simp only [beq_self_eq_true, Bool.not_true, Bool.false_eq_true, if_false, Sem.run_bind, e1, q, Result.andThen_ok, show (x1 == y1) = false from by simp [h1], Bool.not_false, if_true]; rfl
  · simp only [show (x0 == y0) = false from by simp [h0], Bool.not_false, if_true]; rfl
end Go.Proofs.Ytbejdbgcfgllhaa.P
