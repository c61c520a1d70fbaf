/- wire.number, wire.Get, plain: from a place on so many bytes' number stands, or it is told why not. -/
import Derived.Test.YtaiklcpmlkpfjaaEev
import Derived.Test.YtaiklcpmlkpfjaaEwire
import Derived.Test.YtaiklcpmlkpfjaaP4
namespace Go.Proofs.Ytaiklcpmlkpfjaa.P
set_option linter.unusedSimpArgs false
set_option linter.unusedVariables false
open Go.RowKit Go.Proofs.YtaiklcpmlkpfjaaW.PrintWords Go.Proofs.YtaiklcpmlkpfjaaW.PrintLast Go.Proofs.YtaiklcpmlkpfjaaW.PrintMore
theorem wire_number_eq (l : List Int) (a n : Int) (hB : Bytes l) (hl : l.length ≤ 1000000000000) (h0 : 0 ≤ n) (h8 : n ≤ 8) : wire_number.f l a n = some (numSpec l a n) := by
  unfold wire_number.f
  rw [if_pos ⟨hl, h0, h8, hB⟩]
theorem numSpec_small (l : List Int) (a n : Int) (hB : Bytes l) (h7 : n ≤ 7) : 0 ≤ (numSpec l a n).1 ∧ (numSpec l a n).1 < 72057594037927936 := by
  unfold numSpec
  split
  · simp
  · split
    · simp
    · have hr := bev_range _ ((hB.drop a.toNat).take n.toNat)
      have hp : (256 : Int) ^ ((l.drop a.toNat).take n.toNat).length ≤ 256 ^ 7 := pow256_le _ _ (by rw [List.length_take]; omega)
      have e7 : (256 : Int) ^ 7 = 72057594037927936 := by decide
      exact ⟨hr.1, by show bev _ < _; omega⟩
theorem wire_Get_eq (l : List Int) (a n : Int) (hB : Bytes l) (hl : l.length ≤ 1000000000000) : wire_Get.f l a n = some (getSpec l a n) := by
  unfold wire_Get.f getSpec
  by_cases c : n < 1 ∨ 7 < n
  · rw [if_pos c]
    by_cases c1 : n < 1
    · rw [if_pos c1]
    · rw [if_neg c1, if_pos (show n > 7 by omega)]
  · rw [if_neg c]
    rw [if_neg (show ¬ n < 1 by omega), if_neg (show ¬ n > 7 by omega), wire_number_eq l a n hB hl (by omega) (by omega)]
    have hs := numSpec_small l a n hB (by omega)
    rw [Option.bind_some, w64 (by omega) (by omega)]
end Go.Proofs.Ytaiklcpmlkpfjaa.P
