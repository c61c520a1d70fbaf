/- The reference's Both, plain: rows, one behind the other. -/
import Derived.Test.YthfbnlimoagihaaEev
import Derived.Test.YthfbnlimoagihaaP4
namespace Go.Proofs.Ythfbnlimoagihaa.P
set_option linter.unusedSimpArgs false
set_option linter.unusedVariables false
open Go.RowKit Go.Proofs.YthfbnlimoagihaaW.PrintWords Go.Proofs.YthfbnlimoagihaaW.PrintLast Go.Proofs.YthfbnlimoagihaaW.PrintMore
theorem rows_get (rows : List (List Int)) (i : Int) (h0 : 0 ≤ i) (h1 : i < rows.length) : rows.drop i.toNat = rd_L3 rows i :: rows.drop (i + 1).toNat := by
  have hi : i.toNat < rows.length := by omega
  rw [List.drop_eq_getElem_cons hi, show (i + 1).toNat = i.toNat + 1 by omega]
  congr 1
  unfold rd_L3
  rw [List.getD_eq_getElem?_getD, List.getElem?_eq_getElem hi]
  rfl
theorem both_l0 (rows : List (List Int)) (hr : rows.length ≤ 1000) : ∀ (d : Nat) (i : Int) (acc : List Int), 0 ≤ i → (rows.length : Int) - i = d → acc.length + (rows.drop i.toNat).flatten.length < 140737488355328 →
    Ev (fun k => thalwegref01_Both.l0 k rows acc i) (acc ++ (rows.drop i.toNat).flatten) := by
  intro d
  induction d with
  | zero =>
    intro i acc h0 hd hl
    refine Ev.from 1 fun k => ?_
    simp only [thalwegref01_Both.l0]
    rw [if_neg (by omega), List.drop_eq_nil_of_le (by omega)]
    simp
  | succ d ih =>
    intro i acc h0 hd hl
    have h1 : i < (rows.length : Int) := by omega
    refine Ev.step (f := fun k => _) (fun k => by simp only [thalwegref01_Both.l0]; rfl) ?_
    rw [rows_get rows i h0 h1] at hl ⊢
    simp only [List.flatten_cons, List.length_append] at hl ⊢
    have hc : acc.length + (rd_L3 rows i).length < 140737488355328 := by omega
    simp only [if_pos h1, if_pos h0, if_pos hc, w64 (x := i + 1) (by omega) (by omega)]
    have := ih (i + 1) (acc ++ rd_L3 rows i) (by omega) (by omega) (by rw [List.length_append]; omega)
    rw [← List.append_assoc]
    exact this
theorem both_ev (rows : List (List Int)) (hr : rows.length ≤ 1000) (hl : rows.flatten.length < 140737488355328) : Ev (fun k => thalwegref01_Both.f k rows) rows.flatten := by
  unfold thalwegref01_Both.f
  have := both_l0 rows hr rows.length 0 [] (by omega) (by omega) (by simpa using hl)
  simpa using this
end Go.Proofs.Ythfbnlimoagihaa.P
