/- wire.Sum, plain. -/
import Derived.Test.YtfhhjoblfnbnkaaEsum
import Derived.Test.YtfhhjoblfnbnkaaP4
namespace Go.Proofs.Ytfhhjoblfnbnkaa.P
set_option linter.unusedSimpArgs false
set_option linter.unusedVariables false
open Go.RowKit Go.Proofs.YtfhhjoblfnbnkaaW.PrintWords Go.Proofs.YtfhhjoblfnbnkaaW.PrintLast Go.Proofs.YtfhhjoblfnbnkaaW.PrintMore
theorem or_i64_byte (y x : Int) (h0 : 0 ≤ y) (h1 : y ≤ 250) (x0 : 0 ≤ x) (x1 : x ≤ 250) : Go.bits .or .i64 (wrap64 (y * 256)) x = 256 * y + x := by
  rw [w64 (by omega) (by omega)]
  obtain ⟨p, rfl⟩ := Int.eq_ofNat_of_zero_le h0
  obtain ⟨q, rfl⟩ := Int.eq_ofNat_of_zero_le x0
  rw [show ((p : Int) * 256) = ((p * 256 : Nat) : Int) by omega, bits_or_i64 _ _ (by omega) (by omega), nat_join 8 _ _ (by omega) (by omega)]
  omega
theorem wire_Sum_l0 (l : List Int) (hB : Bytes l) (hl : l.length ≤ 1000000000000) : ∀ (d : Nat) (i : Int) (x y : Int), 0 ≤ i → (l.length : Int) - i = d → (0 ≤ x ∧ x ≤ 250) → (0 ≤ y ∧ y ≤ 250) →
    Ev (fun k => wire_Sum.l0 k x y l l.length i) (sumEnd ((l.drop i.toNat).foldl sumStep (x, y))) := by
  intro d
  induction d with
  | zero =>
    intro i x y h0 hd hx hy
    refine Ev.from 1 fun k => ?_
    simp only [wire_Sum.l0]
    rw [if_neg (by omega), List.drop_eq_nil_of_le (by omega), or_i64_byte y x hy.1 hy.2 hx.1 hx.2]
    rfl
  | succ d ih =>
    intro i x y h0 hd hx hy
    have h1 : i < (l.length : Int) := by omega
    have hw : wrap64 (i + 1) = i + 1 := w64 (by omega) (by omega)
    have hb := rd_byte l hB i
    obtain ⟨e1, e2, hx', hy'⟩ := sum_step x y (rd l i) hx hy hb
    have hn := ih (i + 1) _ _ (by omega) (by omega) hx' hy'
    rw [rd_get l i h0 h1, List.foldl_cons]
    refine Ev.step (f := fun k => _) (fun k => by simp only [wire_Sum.l0]; rfl) ?_
    simp only [if_pos h1, if_pos h0, hw, e1, e2]
    exact hn
theorem wire_Sum_ev (l : List Int) (hB : Bytes l) (hl : l.length ≤ 1000000000000) : Ev (fun k => wire_Sum.f k l) (sumSpec l) := by
  unfold wire_Sum.f
  exact wire_Sum_l0 l hB hl l.length 0 1 0 (by omega) (by omega) (by omega) (by omega)
end Go.Proofs.Ytfhhjoblfnbnkaa.P
