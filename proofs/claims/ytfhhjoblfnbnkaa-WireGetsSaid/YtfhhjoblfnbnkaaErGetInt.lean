/- The reference's GetInt, plain. -/
import Derived.Test.YtfhhjoblfnbnkaaEev
import Derived.Test.YtfhhjoblfnbnkaaP9
namespace Go.Proofs.Ytfhhjoblfnbnkaa.P
set_option linter.unusedSimpArgs false
set_option linter.unusedVariables false
open Go.RowKit Go.Proofs.YtfhhjoblfnbnkaaW.PrintWords Go.Proofs.YtfhhjoblfnbnkaaW.PrintLast Go.Proofs.YtfhhjoblfnbnkaaW.PrintMore
/-- What is taken off: where the first byte says 'below 0'. -/
def off256 (x : Int) (n : Nat) : Int := if x > 127 then 256 ^ n else 0
theorem refGetInt_l0 (l : List Int) (a : Int) (hB : Bytes l) (hl : l.length ≤ 1000000000000) (ha : 0 ≤ a) (hal : a + 8 ≤ l.length) : ∀ (d : Nat) (i : Nat), i + d = 8 → 1 ≤ i →
    Ev (fun k => thalwegref01_GetInt.l0 k l a (bev (((l.drop a.toNat).take 8).take i) - off256 (rd l a) i) i) (bev ((l.drop a.toNat).take 8) - off256 (rd l a) 8, a + 8, 0) := by
  have hlen : ((l.drop a.toNat).take 8).length = 8 := by rw [List.length_take, List.length_drop]; omega
  intro d
  induction d with
  | zero =>
    intro i hi h1
    refine Ev.from 1 fun k => ?_
    simp only [thalwegref01_GetInt.l0]
    obtain rfl : i = 8 := by omega
    rw [if_neg (by omega), List.take_of_length_le (l := (l.drop a.toNat).take 8) (by omega), w64 (by omega) (by omega)]
  | succ d ih =>
    intro i hi h1
    refine Ev.step (f := fun k => _) (fun k => by simp only [thalwegref01_GetInt.l0]; rfl) ?_
    have hBm : Bytes ((l.drop a.toNat).take 8) := (hB.drop _).take _
    have hb := rd_byte l hB (a + i)
    have ht := take_bev ((l.drop a.toNat).take 8) i (by omega)
    rw [rd_drop_take l a.toNat 8 i (by omega), show ((a.toNat : Int) + i) = a + i by omega] at ht
    have hw1 : wrap64 (a + i) = a + i := w64 (by omega) (by omega)
    have hw2 : wrap64 ((i : Int) + 1) = i + 1 := w64 (by omega) (by omega)
    -- the number so far lies between -2^(8i-1) and 2^(8i-1)
    obtain ⟨j, rfl⟩ : ∃ j, i = j + 1 := ⟨i - 1, by omega⟩
    have hd : (l.drop a.toNat).take 8 = rd l a :: ((l.drop (a + 1).toNat).take 7) := by
      rw [rd_get l a ha (by omega), List.take_succ_cons]
    have hb0 := rd_byte l hB a
    have hm : ((l.drop a.toNat).take 8).take (j + 1) = rd l a :: (((l.drop (a + 1).toNat).take 7).take j) := by rw [hd, List.take_succ_cons]
    have hr := bev_range (((l.drop (a + 1).toNat).take 7).take j) (((hB.drop _).take _).take j)
    have hjl : (((l.drop (a + 1).toNat).take 7).take j).length = j := by rw [List.length_take, List.length_take, List.length_drop]; omega
    rw [hjl] at hr
    have hbv : bev (((l.drop a.toNat).take 8).take (j + 1)) = rd l a * 256 ^ j + bev (((l.drop (a + 1).toNat).take 7).take j) := by rw [hm, bev_cons, hjl]
    have hp := pow256_le j 6 (by omega)
    rw [show (256 : Int) ^ 6 = 281474976710656 by decide] at hp
    have hp0 := pow256_pos j
    have ho : off256 (rd l a) (j + 1 + 1) = 256 * off256 (rd l a) (j + 1) := by
      unfold off256
      split
      · rw [Int.pow_succ, Int.mul_comm]
      · simp
    have hv : -128 * 256 ^ j ≤ bev (((l.drop a.toNat).take 8).take (j + 1)) - off256 (rd l a) (j + 1) ∧ bev (((l.drop a.toNat).take 8).take (j + 1)) - off256 (rd l a) (j + 1) < 128 * 256 ^ j := by
      rw [hbv]
      unfold off256
      have h255 : rd l a * 256 ^ j ≤ 255 * 256 ^ j := Int.mul_le_mul_of_nonneg_right hb0.2 (by omega)
      split
      · rename_i hc
        have h128 : 128 * 256 ^ j ≤ rd l a * 256 ^ j := Int.mul_le_mul_of_nonneg_right (by omega) (by omega)
        rw [Int.pow_succ]
        omega
      · have h127 : rd l a * 256 ^ j ≤ 127 * 256 ^ j := Int.mul_le_mul_of_nonneg_right (by omega) (by omega)
        have h00 : 0 ≤ rd l a * 256 ^ j := Int.mul_nonneg hb0.1 (by omega)
        omega
    have hw3 : wrap64 ((wrap64 (256 * (bev (((l.drop a.toNat).take 8).take (j + 1)) - off256 (rd l a) (j + 1)))) + wrap64 (rd l (a + ((j + 1 : Nat) : Int)))) = bev (((l.drop a.toNat).take 8).take (j + 1 + 1)) - off256 (rd l a) (j + 1 + 1) := by
      rw [ht, ho]
      clear hbv hm hd ht
      generalize bev (((l.drop a.toNat).take 8).take (j + 1)) = B at *
      generalize off256 (rd l a) (j + 1) = O at *
      generalize rd l (a + ((j + 1 : Nat) : Int)) = R at *
      generalize (256 : Int) ^ j = P at *
      rw [w64 (x := 256 * (B - O)) (by omega) (by omega), w64 (x := R) (by omega) (by omega), w64 (by omega) (by omega)]
      omega
    simp only [if_pos (show ((j + 1 : Nat) : Int) < 8 by omega), hw1, if_pos (show 0 ≤ a + ((j + 1 : Nat) : Int) by omega), if_pos (show a + ((j + 1 : Nat) : Int) < (l.length : Int) by omega), hw2, hw3]
    exact ih (j + 1 + 1) (by omega) (by omega)
theorem off_wrap (l : List Int) (hB : Bytes l) (h8 : l.length = 8) : bev l - off256 (rd l 0) 8 = wrap64 (bev l) := by
  obtain ⟨x, m, rfl⟩ : ∃ x m, l = x :: m := by
    cases l with
    | nil => simp at h8
    | cons x m => exact ⟨x, m, rfl⟩
  obtain ⟨hx, hm⟩ := hB.cons
  have hr := bev_range m hm
  have h7 : m.length = 7 := by simpa using h8
  have e7 : (256 : Int) ^ 7 = 72057594037927936 := by decide
  have e8 : (256 : Int) ^ 8 = 18446744073709551616 := by decide
  rw [h7, e7] at hr
  rw [bev_cons, h7, e7, rd_cons0]
  unfold off256 wrap64
  rw [e8]
  split <;> omega
theorem refGetInt_ev (l : List Int) (a : Int) (hB : Bytes l) (hl : l.length ≤ 1000000000000) : Ev (fun k => thalwegref01_GetInt.f k l a) (getIntSpec l a) := by
  have done : Ev (fun k => thalwegref01_GetInt.j0 k l a true) (0, 0, 1) := Ev.from 1 fun k => by simp only [thalwegref01_GetInt.j0, if_true]
  have w0 := wrap64_zero
  unfold thalwegref01_GetInt.f getIntSpec numSpec
  by_cases c2 : a < 0 ∨ (l.length : Int) < a
  · rw [if_pos c2]
    by_cases c3 : a < 0
    · simp only [if_pos c3, w0]; exact done
    · simp only [if_neg c3, decide_eq_true (show a > (l.length : Int) by omega), w0]; exact done
  rw [if_neg c2]
  simp only [if_neg (show ¬ a < 0 by omega), decide_eq_false (show ¬ a > (l.length : Int) by omega)]
  refine Ev.step (f := fun k => _) (fun k => by simp only [thalwegref01_GetInt.j0]; rfl) ?_
  simp only [Bool.false_eq_true, if_false, w64 (x := (l.length : Int) - a) (by omega) (by omega)]
  by_cases c4 : (l.length : Int) - a < 8
  · simp only [if_pos c4, w0]; exact Ev.now _
  · simp only [if_neg c4, if_pos (show 0 ≤ a by omega), if_pos (show a < (l.length : Int) by omega)]
    have hb := rd_byte l hB a
    have hm := refGetInt_l0 l a hB hl (by omega) (by omega) 7 1 (by omega) (by omega)
    have hlen : ((l.drop a.toNat).take 8).length = 8 := by rw [List.length_take, List.length_drop]; omega
    have h0 : rd ((l.drop a.toNat).take 8) 0 = rd l a := by
      have := rd_drop_take l a.toNat 8 0 (by omega)
      rw [show ((a.toNat : Int) + ((0 : Nat) : Int)) = a by omega] at this
      exact this
    have hw := off_wrap ((l.drop a.toNat).take 8) ((hB.drop _).take _) hlen
    rw [h0] at hw
    have h1 : bev (((l.drop a.toNat).take 8).take 1) = rd l a := by
      have := take_bev ((l.drop a.toNat).take 8) 0 (by omega)
      rw [List.take_zero, bev_nil] at this
      rw [show ((0 : Nat) : Int) = 0 from rfl, h0] at this
      simpa using this
    rw [hw, h1] at hm
    rw [show (8 : Int).toNat = 8 from rfl]
    have hx : wrap64 (rd l a) = rd l a := w64 (by omega) (by omega)
    have step : ∀ v : Int, v = rd l a - off256 (rd l a) 1 → Ev (fun k => thalwegref01_GetInt.j1 k l a v) (wrap64 (bev ((l.drop a.toNat).take 8)), a + 8, 0) := by
      intro v hv
      refine Ev.step (f := fun k => _) (fun k => by simp only [thalwegref01_GetInt.j1]; rfl) ?_
      rw [hv]
      exact hm
    by_cases c5 : rd l a > 127
    · simp only [hx, if_pos c5]
      refine step _ ?_
      rw [w64 (by omega) (by omega)]
      unfold off256
      rw [if_pos c5]
      rfl
    · simp only [hx, if_neg c5]
      refine step _ ?_
      unfold off256
      rw [if_neg c5]
      omega
end Go.Proofs.Ytfhhjoblfnbnkaa.P
