/- AckTells: of what came an ack has those that are 1 to 16 behind next, and of numbers behind it none that did not come; the plain law. -/
import Derived.Test.YtolfbnkdmafomaaEp07
import Derived.Test.YtolfbnkdmafomaaP6
namespace Go.Proofs.Ytolfbnkdmafomaa.Pure
open Go.RowKit Go.Proofs.Ytolfbnkdmafomaa.P Go.Proofs.YtolfbnkdmafomaaW.PrintWords Go.Proofs.YtolfbnkdmafomaaW.PrintLast Go.Proofs.YtolfbnkdmafomaaW.PrintMore

theorem hasB_self (nx : Int) (m : Nat) : hasB nx m nx = false := by
  unfold hasB
  rw [show far nx nx = 0 by unfold far; omega]
  simp
theorem hasB_far (nx : Int) (m : Nat) (n : Int) (h : 32768 ≤ far nx n) : hasB nx m n = true := by
  unfold hasB
  rw [decide_eq_true h, Bool.true_or]
theorem hasB_came (nx : Int) (came : List Int) (n : Int) (h1 : 1 ≤ far nx n) (h2 : far nx n ≤ 16) (hm : n ∈ came) : hasB nx (msk nx came) n = true := by
  unfold hasB
  rw [decide_eq_true h1, decide_eq_true h2, msk_bit nx came _ (by omega)]
  have : came.any (fun c => decide (far nx c = ((far nx n - 1).toNat : Int) + 1)) = true := by
    rw [List.any_eq_true]
    exact ⟨n, hm, decide_eq_true (by omega)⟩
  rw [this]
  simp
theorem hasB_only (nx : Int) (came : List Int) (n : Int) (h : far nx n < 32768) (hh : hasB nx (msk nx came) n = true) : came.any (fun c => far c n == 0) = true := by
  unfold hasB at hh
  rw [decide_eq_false (show ¬ 32768 ≤ far nx n by omega), Bool.false_or, Bool.and_eq_true, Bool.and_eq_true, decide_eq_true_eq, decide_eq_true_eq] at hh
  obtain ⟨h1, h2, h3⟩ := hh
  rw [msk_bit nx came _ (by omega), List.any_eq_true] at h3
  obtain ⟨c, hc, h4⟩ := h3
  rw [List.any_eq_true]
  refine ⟨c, hc, ?_⟩
  have h5 := of_decide_eq_true h4
  rw [beq_iff_eq]
  unfold far at *
  omega
theorem take_any (came : List Int) (i : Int) (h0 : 0 ≤ i) (h1 : i < came.length) (p : Int → Bool) : (came.take (i + 1).toNat).any p = ((came.take i.toNat).any p || p (rd came i)) := by
  rw [show (i + 1).toNat = i.toNat + 1 by omega, List.take_succ_eq_append_getElem (by omega), List.any_append]
  have hi : i.toNat < came.length := by omega
  have : rd came i = came[i.toNat] := by
    unfold rd
    rw [List.getD_eq_getElem?_getD, List.getElem?_eq_getElem hi]
    rfl
  rw [this]
  simp
theorem tells_j1 (nx : Int) (m : Nat) (h0 : 0 ≤ nx) (h1 : nx ≤ 65535) (hm : m < 65536) : Ev (fun k => thalweglaw07_AckTells.j1 k nx false 0 0 nx m) true := by
  refine Ev.step (f := fun k => _) (fun k => by simp only [thalweglaw07_AckTells.j1]; rfl) ?_
  simp only [Bool.false_eq_true, if_false]
  refine Ev.bind awake07 ?_
  simp only [if_true]
  refine Ev.bind (ack_Has_ev nx m nx h0 h1 hm) ?_
  rw [hasB_self]
  exact Ev.now _
theorem tells_l0 (nx : Int) (came : List Int) (n : Int) (hl : came.length ≤ 100) (h0 : 0 ≤ nx) (h1 : nx ≤ 65535) : ∀ (d : Nat) (i : Int) (b : Bool), 0 ≤ i → (came.length : Int) - i = d → b = (came.take i.toNat).any (fun c => far c n == 0) →
    Ev (fun k => thalweglaw07_AckTells.l0 k nx came n b i 0 0 nx (msk nx came)) true := by
  have hm := msk_lt nx came
  intro d
  induction d with
  | zero =>
    intro i b hi hd hb
    rw [List.take_of_length_le (by omega)] at hb
    refine Ev.step (f := fun k => _) (fun k => by simp only [thalweglaw07_AckTells.l0]; rfl) ?_
    simp only [if_neg (show ¬ i < (came.length : Int) by omega)]
    refine Ev.bind (serial_Far_ev _ _) ?_
    have hj := tells_j1 nx (msk nx came) h0 h1 hm
    by_cases c : far nx n < 32768
    · simp only [if_pos c, if_neg (show ¬ far nx n > 32768 by omega)]
      refine Ev.bind (ack_Has_ev nx _ n h0 h1 hm) ?_
      by_cases hh : hasB nx (msk nx came) n = true
      · have hb1 : b = true := by rw [hb]; exact hasB_only nx came n c hh
        simp only [if_pos hh, if_pos hb1]
        exact hj
      · simp only [if_neg hh]
        exact hj
    · simp only [if_neg c]
      by_cases c2 : far nx n > 32768
      · simp only [if_pos c2]
        refine Ev.bind (ack_Has_ev nx _ n h0 h1 hm) ?_
        rw [hasB_far nx _ n (by omega)]
        exact hj
      · simp only [if_neg c2]
        exact hj
  | succ d ih =>
    intro i b hi hd hb
    have hlt : i < (came.length : Int) := by omega
    have hw : wrap64 (i + 1) = i + 1 := w64 (by omega) (by omega)
    have ht := take_any came i hi hlt (fun c => far c n == 0)
    refine Ev.step (f := fun k => _) (fun k => by simp only [thalweglaw07_AckTells.l0]; rfl) ?_
    simp only [if_pos hlt, if_pos hi, hw]
    refine Ev.bind (serial_Far_ev _ _) ?_
    have tail : Ev (fun k => if b = true then thalweglaw07_AckTells.l0 k nx came n true (i + 1) 0 0 nx (msk nx came) else (serial_Far.f k (rd came i) n).bind fun t => thalweglaw07_AckTells.l0 k nx came n (t == 0) (i + 1) 0 0 nx (msk nx came)) true := by
      by_cases cb : b = true
      · simp only [if_pos cb]
        refine ih (i + 1) true (by omega) (by omega) ?_
        rw [ht, ← hb, cb, Bool.true_or]
      · simp only [if_neg cb]
        refine Ev.bind (serial_Far_ev _ _) ?_
        refine ih (i + 1) _ (by omega) (by omega) ?_
        rw [ht, ← hb, Bool.eq_false_iff.mpr cb, Bool.false_or]
    by_cases c1 : far nx (rd came i) ≥ 1
    · by_cases c2 : far nx (rd came i) ≤ 16
      · simp only [if_pos c1, if_pos c2]
        refine Ev.bind (ack_Has_ev nx _ _ h0 h1 hm) ?_
        rw [hasB_came nx came _ c1 c2 (rd_mem came i hi hlt)]
        simp only [if_true]
        exact tail
      · simp only [if_pos c1, if_neg c2]
        exact tail
    · simp only [if_neg c1]
      exact tail

theorem AckTells : thalweglaw07_AckTells.Pure := by
  intro nx came n _ _ _ _ _
  apply Ev.rounds
  unfold thalweglaw07_AckTells.f
  by_cases c : (came.length : Int) > 100
  · simp only [if_pos c]
    exact Ev.now _
  simp only [if_neg c]
  by_cases h : nx < 0 ∨ nx > 65535
  · refine Ev.bind (ack_Of_bad nx came h) ?_
    simp only [if_neg (show ¬ (1 : Int) = 0 by decide)]
    refine Ev.bind awake07 ?_
    simp only [if_true]
    by_cases c1 : nx < 0
    · simp only [if_pos c1]
      exact Ev.now _
    · simp only [if_neg c1, decide_eq_true (show nx > 65535 by omega)]
      exact Ev.now _
  · refine Ev.bind (ack_Of_ok nx came (by omega) (by omega) (by omega)) ?_
    simp only [if_true]
    exact tells_l0 nx came n (by omega) (by omega) (by omega) came.length 0 false (by omega) (by omega) (by simp)
end Go.Proofs.Ytolfbnkdmafomaa.Pure
