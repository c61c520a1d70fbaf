/- The reference's Put, plain. -/
import Derived.Test.YtfhhjoblfnbnkaaEev
import Derived.Test.YtfhhjoblfnbnkaaP2
import Derived.Test.YtfhhjoblfnbnkaaP3
namespace Go.Proofs.Ytfhhjoblfnbnkaa.P
set_option linter.unusedSimpArgs false
set_option linter.unusedVariables false
open Go.RowKit Go.Proofs.YtfhhjoblfnbnkaaW.PrintWords Go.Proofs.YtfhhjoblfnbnkaaW.PrintLast Go.Proofs.YtfhhjoblfnbnkaaW.PrintMore
theorem refPower_l0 (n : Nat) (hn : n ≤ 7) : ∀ (d i : Nat), i + d = n → Ev (fun k => thalwegref01_power.l0 k n (256 ^ i) i) (256 ^ n) := by
  intro d
  induction d with
  | zero =>
    intro i hi
    refine Ev.from 1 fun k => ?_
    simp only [thalwegref01_power.l0]
    rw [if_neg (by omega), show i = n by omega]
  | succ d ih =>
    intro i hi
    have hn2 := ih (i + 1) (by omega)
    have h1 : (i : Int) < (n : Int) := by omega
    have hw : wrap64 ((i : Int) + 1) = ((i + 1 : Nat) : Int) := by rw [w64 (by omega) (by omega)]; simp
    have hp := pow256_le i 6 (by omega)
    rw [show (256 : Int) ^ 6 = 281474976710656 by decide] at hp
    have hp0 := pow256_pos i
    have hm : wrap64 (256 * 256 ^ i) = 256 ^ (i + 1) := by rw [Int.pow_succ, Int.mul_comm]; exact w64 (by omega) (by omega)
    refine Ev.step (f := fun k => _) (fun k => by simp only [thalwegref01_power.l0]; rfl) ?_
    simp only [if_pos h1, hw, hm]
    exact hn2
theorem refPut_l0 (n : Nat) (v : Int) (hn : n ≤ 7) (h0 : 0 ≤ v) (h1 : v < 9223372036854775808) : ∀ (d i : Nat), i + d = n →
    Ev (fun k => thalwegref01_Put.l0 k (v / 256 ^ i) (List.replicate (n - i) 0 ++ be i v) ((n : Int) - 1 - i)) (be n v, 0) := by
  intro d
  induction d with
  | zero =>
    intro i hi
    obtain rfl : i = n := by omega
    refine Ev.from 1 fun k => ?_
    simp only [thalwegref01_Put.l0]
    rw [if_neg (by omega), Nat.sub_self]
    rfl
  | succ d ih =>
    intro i hi
    have hn2 := ih (i + 1) (by omega)
    have t1 : (n : Int) - 1 - i ≥ 0 := by omega
    have t2 : 0 ≤ (n : Int) - 1 - i := t1
    have hlen : (List.replicate (n - i) (0 : Int) ++ be i v).length = n := by rw [List.length_append, List.length_replicate, be_length]; omega
    have t3 : (n : Int) - 1 - i < ((List.replicate (n - i) (0 : Int) ++ be i v).length : Int) := by rw [hlen]; omega
    have hw : wrap64 ((n : Int) - 1 - i - 1) = (n : Int) - 1 - ((i + 1 : Nat) : Int) := by rw [w64 (by omega) (by omega)]; omega
    have hv0 : 0 ≤ v / 256 ^ i := Int.ediv_nonneg h0 (Int.le_of_lt (pow256_pos i))
    have hv1 : v / 256 ^ i ≤ v := Int.ediv_le_self _ h0
    have hd : wrap64 (Int.tdiv (v / 256 ^ i) 256) = v / 256 ^ (i + 1) := by
      rw [Int.tdiv_eq_ediv_of_nonneg hv0, Int.ediv_ediv_of_nonneg (Int.le_of_lt (pow256_pos i)), show (256 : Int) ^ i * 256 = 256 ^ (i + 1) from (Int.pow_succ ..).symm]
      have h2 : 0 ≤ v / 256 ^ (i + 1) := Int.ediv_nonneg h0 (Int.le_of_lt (pow256_pos _))
      have h3 : v / 256 ^ (i + 1) ≤ v := Int.ediv_le_self _ h0
      exact w64 (by omega) (by omega)
    have hm : Int.tmod (v / 256 ^ i) 256 % 256 = v / 256 ^ i % 256 := by
      rw [Int.tmod_eq_emod_of_nonneg hv0]
      omega
    have hs : (List.replicate (n - i) (0 : Int) ++ be i v).set ((n : Int) - 1 - i).toNat (v / 256 ^ i % 256) = List.replicate (n - (i + 1)) 0 ++ be (i + 1) v := by
      rw [show ((n : Int) - 1 - i).toNat = n - (i + 1) by omega, show n - i = (n - (i + 1)) + 1 by omega, be_set, be_cons]
    refine Ev.step (f := fun k => _) (fun k => by simp only [thalwegref01_Put.l0]; rfl) ?_
    simp only [if_pos t1, if_pos t2, if_pos t3, hw, hd, hm, hs]
    exact hn2
theorem refPut_ev (v n : Int) (hv : (Lit.int .i64 v).wf = true) : Ev (fun k => thalwegref01_Put.f k v n) (putSpec v n) := by
  have hb := bnd64 hv
  have done : Ev (fun k => thalwegref01_Put.j0 k v n true) ([], 1) := Ev.from 1 fun k => by simp only [thalwegref01_Put.j0, if_true]
  unfold thalwegref01_Put.f putSpec
  by_cases c1 : n < 1
  · rw [if_neg (by omega)]; simp only [if_pos c1]; exact done
  by_cases c2 : n > 7
  · rw [if_neg (by omega)]; simp only [if_neg c1, if_pos c2]; exact done
  by_cases c3 : v < 0
  · rw [if_neg (by omega)]; simp only [if_neg c1, if_neg c2, if_pos c3]; exact done
  simp only [if_neg c1, if_neg c2, if_neg c3]
  obtain ⟨m, rfl⟩ := Int.eq_ofNat_of_zero_le (show 0 ≤ n by omega)
  have hm : m ≤ 7 := by omega
  refine Ev.bind (a := 256 ^ m) (by unfold thalwegref01_power.f; exact refPower_l0 m hm m 0 (by omega)) ?_
  simp only [Int.toNat_natCast]
  by_cases c4 : v < 256 ^ m
  · rw [if_pos ⟨by omega, by omega, by omega, c4⟩]
    have hp := refPut_l0 m v hm (by omega) (by omega) m 0 (by omega)
    simp only [decide_eq_false (show ¬ v ≥ 256 ^ m by omega)]
    refine Ev.step (f := fun k => _) (fun k => by simp only [thalwegref01_Put.j0]; rfl) ?_
    have t1 : (0 : Int) ≤ (m : Int) := by omega
    have t2 : m ≤ 281474976710656 := by omega
    have t3 : wrap64 ((m : Int) - 1) = (m : Int) - 1 - ((0 : Nat) : Int) := by rw [w64 (by omega) (by omega)]; simp
    simp only [Bool.false_eq_true, if_false, if_pos t1, Int.toNat_natCast, if_pos t2, t3]
    simpa [be] using hp
  · rw [if_neg (fun h => c4 h.2.2.2)]
    simp only [decide_eq_true (show v ≥ 256 ^ m by omega)]
    exact done
end Go.Proofs.Ytfhhjoblfnbnkaa.P
