/- wire.Put, plain: a number's bytes, or none. -/
import Derived.Test.YthfbnlimoagihaaEev
import Derived.Test.YthfbnlimoagihaaP2
namespace Go.Proofs.Ythfbnlimoagihaa.P
set_option linter.unusedSimpArgs false
set_option linter.unusedVariables false
open Go.RowKit Go.Proofs.YthfbnlimoagihaaW.PrintWords Go.Proofs.YthfbnlimoagihaaW.PrintLast Go.Proofs.YthfbnlimoagihaaW.PrintMore
theorem two256 (n : Nat) : (2 : Int) ^ (8 * n) = 256 ^ n := by rw [Int.pow_mul]; rfl
theorem wire_Put_eq (v n : Int) (hv : (Lit.int .i64 v).wf = true) : wire_Put.f v n = some (putSpec v n) := by
  have hb := bnd64 hv
  unfold wire_Put.f putSpec
  by_cases c1 : n < 1
  · rw [if_pos c1, if_neg (by omega)]
  rw [if_neg c1]
  by_cases c2 : n > 7
  · rw [if_pos c2, if_neg (by omega)]
  rw [if_neg c2]
  by_cases c3 : v < 0
  · rw [if_pos c3, if_neg (by omega)]
  rw [if_neg c3, w64 (x := 8 * n) (by omega) (by omega), if_pos (by omega)]
  obtain ⟨m, rfl⟩ := Int.eq_ofNat_of_zero_le (show 0 ≤ n by omega)
  have hs : shr .i64 v (8 * (m : Int)) = v / 256 ^ m := by
    unfold shr
    rw [Nat.min_eq_left (by simp [IntKind.bits]; omega), show (8 * (m : Int)).toNat = 8 * m by omega, two256]
  have hp := pow256_pos m
  rw [hs, Int.toNat_natCast]
  by_cases c4 : v < 256 ^ m
  · rw [if_pos (Int.ediv_eq_zero_of_lt (by omega) c4), if_pos ⟨by omega, by omega, by omega, c4⟩]
    unfold wire_bytes.f
    rw [wrap_u64, Int.emod_eq_of_lt (by omega) (by omega), if_pos (by omega)]
    rfl
  · rw [if_neg (fun e => c4 (by have h5 := Int.emod_def v (256 ^ m); rw [e, Int.mul_zero] at h5; have h6 := Int.emod_lt_of_pos v hp; omega)), if_neg (by omega)]
end Go.Proofs.Ythfbnlimoagihaa.P
