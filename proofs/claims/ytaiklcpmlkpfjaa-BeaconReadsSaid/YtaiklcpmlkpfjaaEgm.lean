/- Plain: a number put in the midst of bytes, and got there; what was got, and where it stood. -/
import Derived.Test.YtaiklcpmlkpfjaaEev
namespace Go.Proofs.Ytaiklcpmlkpfjaa.P
set_option linter.unusedSimpArgs false
set_option linter.unusedVariables false
open Go.RowKit Go.Proofs.YtaiklcpmlkpfjaaW.PrintWords Go.Proofs.YtaiklcpmlkpfjaaW.PrintLast Go.Proofs.YtaiklcpmlkpfjaaW.PrintMore
theorem num_in (A B C : List Int) (n : Nat) (hn : B.length = n) : numSpec (A ++ (B ++ C)) (A.length : Int) (n : Int) = (bev B, (A.length : Int) + n, 0) := by
  unfold numSpec
  rw [if_neg (by simp only [List.length_append]; omega), if_neg (by simp only [List.length_append]; omega)]
  simp only [Int.toNat_natCast, List.drop_left]
  rw [List.take_append_of_le_length (by omega), List.take_of_length_le (by omega)]
theorem get_in_mid (A C : List Int) (v : Int) (n : Nat) (h1 : 1 ≤ n) (h7 : n ≤ 7) (v0 : 0 ≤ v) (v1 : v < 256 ^ n) : getSpec (A ++ (be n v ++ C)) (A.length : Int) (n : Int) = (v, (A.length : Int) + n, 0) := by
  unfold getSpec
  rw [if_neg (by omega), num_in A (be n v) C n (be_length _ _), bev_be n v v0 v1]
theorem num_ok (l : List Int) (at_ : Int) (n : Nat) (h : (numSpec l at_ n).2.2 = 0) : (0 ≤ at_ ∧ at_ + n ≤ l.length) ∧ numSpec l at_ n = (bev ((l.drop at_.toNat).take n), at_ + n, 0) := by
  unfold numSpec at h ⊢
  split at h
  · exact absurd h (by decide)
  rename_i g1
  rw [if_neg g1]
  split at h
  · exact absurd h (by decide)
  rename_i g2
  rw [if_neg g2]
  exact ⟨⟨by omega, by omega⟩, by rw [Int.toNat_natCast]⟩
theorem get_was (l : List Int) (hB : Bytes l) (at_ : Int) (n : Nat) (h1 : 1 ≤ n) (h7 : n ≤ 7) (h : (getSpec l at_ n).2.2 = 0) :
    (0 ≤ at_ ∧ at_ + n ≤ l.length) ∧ (getSpec l at_ n).2.1 = at_ + n ∧ be n (getSpec l at_ n).1 = (l.drop at_.toNat).take n ∧ 0 ≤ (getSpec l at_ n).1 ∧ (getSpec l at_ n).1 < 256 ^ n := by
  unfold getSpec at h ⊢
  rw [if_neg (by omega)] at h ⊢
  obtain ⟨hr, he⟩ := num_ok l at_ n h
  rw [he]
  have hl : ((l.drop at_.toNat).take n).length = n := by rw [List.length_take, List.length_drop]; omega
  have hb := be_bev ((l.drop at_.toNat).take n) ((hB.drop _).take _)
  have hv := bev_range ((l.drop at_.toNat).take n) ((hB.drop _).take _)
  rw [hl] at hb hv
  exact ⟨hr, rfl, hb, hv⟩
theorem seg_add (l : List Int) (a m n : Nat) : (l.drop a).take (m + n) = (l.drop a).take m ++ (l.drop (a + m)).take n := by
  rw [List.take_add, List.drop_drop]
end Go.Proofs.Ytaiklcpmlkpfjaa.P
