/- The reference's Int, plain. -/
import Derived.Test.YtfhhjoblfnbnkaaEev
import Derived.Test.YtfhhjoblfnbnkaaP6
namespace Go.Proofs.Ytfhhjoblfnbnkaa.P
set_option linter.unusedSimpArgs false
set_option linter.unusedVariables false
open Go.RowKit Go.Proofs.YtfhhjoblfnbnkaaW.PrintWords Go.Proofs.YtfhhjoblfnbnkaaW.PrintLast Go.Proofs.YtfhhjoblfnbnkaaW.PrintMore
theorem intSpec_be (v : Int) : intSpec v = be 8 v := by
  unfold intSpec
  have h := be_add 8 (v % 18446744073709551616) (v / 18446744073709551616)
  rw [show (256 : Int) ^ 8 = 18446744073709551616 by decide] at h
  rw [← h]
  congr 1
  omega
/-- What is written, and what is left, where the number is below 0 or not. -/
theorem int_left (v : Int) (h0 : -9223372036854775808 ≤ v) (h1 : v ≤ 9223372036854775807) :
    (Int.tmod v 256 < 0 → (wrap64 (Int.tmod v 256 + 256)) % 256 = v % 256 ∧ wrap64 (Int.tdiv (wrap64 (v - wrap64 (Int.tmod v 256 + 256))) 256) = v / 256) ∧
    (¬ Int.tmod v 256 < 0 → Int.tmod v 256 % 256 = v % 256 ∧ wrap64 (Int.tdiv (wrap64 (v - Int.tmod v 256)) 256) = v / 256) := by
  have hm : Int.tmod v 256 = v % 256 ∨ (Int.tmod v 256 = v % 256 - 256 ∧ v < 0 ∧ v % 256 ≠ 0) := by
    rw [Int.tmod_eq_emod]
    split
    · left; omega
    · rename_i hc
      rw [not_or] at hc
      by_cases hz : v % 256 = 0
      · exact absurd (Int.dvd_of_emod_eq_zero hz) hc.2
      · right; refine ⟨by simp, by omega, hz⟩
  have hdiv : ∀ a q : Int, a = 256 * q → Int.tdiv a 256 = q := fun a q h => by rw [h, Int.mul_tdiv_cancel_left _ (by decide)]
  constructor
  · intro hneg
    rcases hm with hm | ⟨hm, hv, hz⟩
    · omega
    · rw [hm, w64 (x := v % 256 - 256 + 256) (by omega) (by omega)]
      refine ⟨by omega, ?_⟩
      by_cases hlow : -9223372036854775808 ≤ v - (v % 256 - 256 + 256)
      · rw [w64 (x := v - _) (by omega) (by omega), hdiv _ (v / 256) (by omega), w64 (by omega) (by omega)]
      · exact absurd (show v % 256 = 0 by omega) hz
  · intro hpos
    rcases hm with hm | ⟨hm, hv, hz⟩
    · rw [hm]
      refine ⟨by omega, ?_⟩
      rw [w64 (x := v - _) (by omega) (by omega), hdiv _ (v / 256) (by omega), w64 (by omega) (by omega)]
    · omega
theorem refInt_l0 (v : Int) (h0 : -9223372036854775808 ≤ v) (h1 : v ≤ 9223372036854775807) : ∀ (d i : Nat), i + d = 7 →
    Ev (fun k => thalwegref01_Int.l0 k (v / 256 ^ i) (List.replicate (8 - i) 0 ++ be i v) (7 - (i : Int))) (be 8 v) := by
  have fin : ∀ (x : Int) (l : List Int), Ev (fun k => thalwegref01_Int.l0 k x l (-1)) l := fun x l => Ev.from 1 fun k => by
    simp only [thalwegref01_Int.l0]
    rw [if_neg (by decide)]
  have lo : ∀ i : Nat, -9223372036854775808 ≤ v / 256 ^ i ∧ v / 256 ^ i ≤ 9223372036854775807 := by
    intro i
    have hp := pow256_pos i
    generalize (256 : Int) ^ i = p at *
    have h2 := Int.emod_add_mul_ediv v p
    have h3 := Int.emod_nonneg v (show p ≠ 0 by omega)
    have h4 := Int.emod_lt_of_pos v hp
    have hup : v ≤ 0 → v / p ≤ 0 := by
      intro hv
      rcases Int.le_total (v / p) 0 with hq | hq
      · exact hq
      · rcases Int.lt_or_le 0 (v / p) with hq2 | hq2
        · have h5 : p * 1 ≤ p * (v / p) := Int.mul_le_mul_of_nonneg_left (by omega) (by omega)
          omega
        · exact hq2
    have hlo : v ≤ 0 → v ≤ v / p := by
      intro hv
      rcases Int.lt_or_le (v / p) v with hq | hq
      · have h5 : p * (v / p + 1) ≤ 1 * (v / p + 1) := Int.mul_le_mul_of_nonpos_right (by omega) (by omega)
        rw [Int.mul_add] at h5
        omega
      · exact hq
    constructor
    · rcases Int.le_total 0 v with hv | hv
      · have := Int.ediv_nonneg hv (Int.le_of_lt hp); omega
      · have := hlo hv; omega
    · rcases Int.le_total 0 v with hv | hv
      · have := Int.ediv_le_self p hv; omega
      · have := hup hv; omega
  intro d
  induction d with
  | zero =>
    intro i hi
    obtain rfl : i = 7 := by omega
    obtain ⟨hneg, hpos⟩ := int_left (v / 256 ^ 7) (lo 7).1 (lo 7).2
    have hs : ∀ x : Int, x = v / 256 ^ 7 % 256 → (List.replicate (8 - 7) (0 : Int) ++ be 7 v).set 0 x = be 8 v := by
      intro x hx
      rw [hx, show be 8 v = (v / 256 ^ 7 % 256) :: be 7 v from be_cons 7 v]
      exact be_set 0 _ _
    have hlen : (List.replicate (8 - 7) (0 : Int) ++ be 7 v).length = 8 := by rw [List.length_append, List.length_replicate, be_length]
    have t3 : (0 : Int) < ((List.replicate (8 - 7) (0 : Int) ++ be 7 v).length : Int) := by rw [hlen]; decide
    have hw : wrap64 ((0 : Int) - 1) = -1 := by unfold wrap64; omega
    have e0 : (7 : Int) - ((7 : Nat) : Int) = 0 := by decide
    refine Ev.step (f := fun k => _) (fun k => by simp only [thalwegref01_Int.l0]; rfl) ?_
    simp only [e0, if_pos (show (0 : Int) ≥ 0 by decide), if_pos (show (0 : Int) ≤ 0 by decide), if_pos t3, hw, if_true, Option.bind_some, Int.toNat_zero]
    by_cases c : Int.tmod (v / 256 ^ 7) 256 < 0
    · simp only [if_pos c, hs _ (hneg c).1]
      exact fin _ _
    · simp only [if_neg c, hs _ (hpos c).1]
      exact fin _ _
  | succ d ih =>
    intro i hi
    have hn2 := ih (i + 1) (by omega)
    obtain ⟨hneg, hpos⟩ := int_left (v / 256 ^ i) (lo i).1 (lo i).2
    have hs : ∀ x : Int, x = v / 256 ^ i % 256 → (List.replicate (8 - i) (0 : Int) ++ be i v).set (7 - (i : Int)).toNat x = List.replicate (8 - (i + 1)) 0 ++ be (i + 1) v := by
      intro x hx
      rw [hx, be_cons, show (7 - (i : Int)).toNat = 8 - (i + 1) by omega, show 8 - i = (8 - (i + 1)) + 1 by omega]
      exact be_set _ _ _
    have hlen : (List.replicate (8 - i) (0 : Int) ++ be i v).length = 8 := by rw [List.length_append, List.length_replicate, be_length]; omega
    have t1 : (7 : Int) - i ≥ 0 := by omega
    have t2 : 0 ≤ (7 : Int) - i := t1
    have t3 : (7 : Int) - i < ((List.replicate (8 - i) (0 : Int) ++ be i v).length : Int) := by rw [hlen]; omega
    have t4 : ¬ (7 : Int) - i = 0 := by omega
    have hw : wrap64 ((7 : Int) - i - 1) = 7 - ((i + 1 : Nat) : Int) := by rw [w64 (by omega) (by omega)]; omega
    have hdd : v / 256 ^ i / 256 = v / 256 ^ (i + 1) := by rw [Int.ediv_ediv_of_nonneg (Int.le_of_lt (pow256_pos i)), ← Int.pow_succ]
    refine Ev.step (f := fun k => _) (fun k => by simp only [thalwegref01_Int.l0]; rfl) ?_
    simp only [if_pos t1, if_pos t2, if_pos t3, hw, if_neg t4, Option.bind_some]
    by_cases c : Int.tmod (v / 256 ^ i) 256 < 0
    · simp only [if_pos c, hs _ (hneg c).1, (hneg c).2, hdd]
      exact hn2
    · simp only [if_neg c, hs _ (hpos c).1, (hpos c).2, hdd]
      exact hn2
theorem refInt_ev (v : Int) (hv : (Lit.int .i64 v).wf = true) : Ev (fun k => thalwegref01_Int.f k v) (intSpec v) := by
  have hb := bnd64 hv
  unfold thalwegref01_Int.f
  simp only [if_pos (show 8 ≤ 281474976710656 by decide)]
  rw [intSpec_be]
  have h := refInt_l0 v hb.1 hb.2 7 0 (by omega)
  simpa [be] using h
end Go.Proofs.Ytfhhjoblfnbnkaa.P
