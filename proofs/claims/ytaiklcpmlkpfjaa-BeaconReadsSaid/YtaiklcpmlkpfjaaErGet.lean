/- The reference's Get, plain. -/
import Derived.Test.YtaiklcpmlkpfjaaEev
import Derived.Test.YtaiklcpmlkpfjaaP6
namespace Go.Proofs.Ytaiklcpmlkpfjaa.P
set_option linter.unusedSimpArgs false
set_option linter.unusedVariables false
open Go.RowKit Go.Proofs.YtaiklcpmlkpfjaaW.PrintWords Go.Proofs.YtaiklcpmlkpfjaaW.PrintLast Go.Proofs.YtaiklcpmlkpfjaaW.PrintMore
theorem refGet_l0 (l : List Int) (a : Int) (n : Nat) (hB : Bytes l) (hl : l.length ≤ 1000000000000) (ha : 0 ≤ a) (hn : n ≤ 7) (hal : a + n ≤ l.length) : ∀ (d : Nat) (i : Nat), i + d = n →
    Ev (fun k => thalwegref01_Get.l0 k l a n (bev (((l.drop a.toNat).take n).take i)) i) (bev ((l.drop a.toNat).take n), a + n, 0) := by
  have hlen : ((l.drop a.toNat).take n).length = n := by rw [List.length_take, List.length_drop]; omega
  intro d
  induction d with
  | zero =>
    intro i hi
    refine Ev.from 1 fun k => ?_
    simp only [thalwegref01_Get.l0]
    rw [if_neg (by omega), List.take_of_length_le (l := (l.drop a.toNat).take n) (by omega), w64 (by omega) (by omega)]
  | succ d ih =>
    intro i hi
    refine Ev.step (f := fun k => _) (fun k => by simp only [thalwegref01_Get.l0]; rfl) ?_
    have t1 : (i : Int) < (n : Int) := by omega
    have t2 : 0 ≤ a + (i : Int) := by omega
    have t3 : a + (i : Int) < (l.length : Int) := by omega
    have hw1 : wrap64 (a + i) = a + i := w64 (by omega) (by omega)
    have hw2 : wrap64 ((i : Int) + 1) = i + 1 := w64 (by omega) (by omega)
    have hnext := ih (i + 1) (by omega)
    have hBm : Bytes ((l.drop a.toNat).take n) := (hB.drop _).take _
    have hr := bev_le6 (((l.drop a.toNat).take n).take i) (hBm.take i) (by rw [List.length_take]; omega)
    have hb := rd_byte l hB (a + i)
    have ht := take_bev ((l.drop a.toNat).take n) i (by omega)
    rw [rd_drop_take l a.toNat n i (by omega), show ((a.toNat : Int) + i) = a + i by omega] at ht
    have hw3 : wrap64 ((wrap64 (256 * bev (((l.drop a.toNat).take n).take i))) + wrap64 (rd l (a + i))) = bev (((l.drop a.toNat).take n).take (i + 1)) := by
      rw [ht]
      generalize bev (((l.drop a.toNat).take n).take i) = B at *
      generalize rd l (a + i) = R at *
      rw [w64 (x := 256 * B) (by omega) (by omega), w64 (x := R) (by omega) (by omega), w64 (x := 256 * B + R) (by omega) (by omega)]
    simp only [if_pos t1, hw1, if_pos t2, if_pos t3, hw2, hw3]
    exact hnext
theorem refGet_ev (l : List Int) (a n : Int) (hB : Bytes l) (hl : l.length ≤ 1000000000000) : Ev (fun k => thalwegref01_Get.f k l a n) (getSpec l a n) := by
  have done : Ev (fun k => thalwegref01_Get.j0 k l a n true) (0, 0, 1) := Ev.from 1 fun k => by simp only [thalwegref01_Get.j0, if_true]
  unfold thalwegref01_Get.f getSpec
  by_cases c : n < 1 ∨ 7 < n
  · rw [if_pos c]
    by_cases c1 : n < 1
    · simp only [if_pos c1]; exact done
    · simp only [if_neg c1, if_pos (show n > 7 by omega)]; exact done
  rw [if_neg c]
  simp only [if_neg (show ¬ n < 1 by omega), if_neg (show ¬ n > 7 by omega)]
  unfold numSpec
  by_cases c2 : a < 0 ∨ (l.length : Int) < a
  · rw [if_pos c2]
    by_cases c3 : a < 0
    · simp only [if_pos c3]; exact done
    · simp only [if_neg c3, decide_eq_true (show a > (l.length : Int) by omega)]; exact done
  rw [if_neg c2]
  simp only [if_neg (show ¬ a < 0 by omega), decide_eq_false (show ¬ a > (l.length : Int) by omega)]
  refine Ev.step (f := fun k => _) (fun k => by simp only [thalwegref01_Get.j0]; rfl) ?_
  simp only [Bool.false_eq_true, if_false, w64 (x := (l.length : Int) - a) (by omega) (by omega)]
  by_cases c4 : (l.length : Int) - a < n
  · simp only [if_pos c4]; exact Ev.now _
  · simp only [if_neg c4]
    obtain ⟨m, rfl⟩ := Int.eq_ofNat_of_zero_le (show 0 ≤ n by omega)
    exact refGet_l0 l a m hB hl (by omega) (by omega) (by omega) m 0 (by omega)
end Go.Proofs.Ytaiklcpmlkpfjaa.P
