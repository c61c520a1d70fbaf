/- Layer 7, plain: what the printed functions of acks come to. -/
import Derived.Test.YtolfbnkdmafomaaEev
import Derived.Test.YtolfbnkdmafomaaP2
import Derived.Test.YtolfbnkdmafomaaP3
import Derived.Test.YtolfbnkdmafomaaP4
import Derived.Test.YtolfbnkdmafomaaP5
namespace Go.Proofs.Ytolfbnkdmafomaa.P
set_option linter.unusedSimpArgs false
set_option linter.unusedVariables false
open Go.RowKit Go.Proofs.YtolfbnkdmafomaaW.PrintWords Go.Proofs.YtolfbnkdmafomaaW.PrintLast Go.Proofs.YtolfbnkdmafomaaW.PrintMore
/-- How far b is behind a, on a ring of 65536. -/
def far (a b : Int) : Int := (b - a) % 65536
theorem far_range (a b : Int) : 0 ≤ far a b ∧ far a b < 65536 := by unfold far; omega
theorem serial_Far_eq (k : Nat) (a b : Int) : serial_Far.f (k + 3) a b = some (far a b) := by
  unfold serial_Far.f serial_of.f
  simp only [serial_of.l0, List.length_cons, List.length_nil]
  simp [rd, wrap64, IntKind.wrap_u16, far]
  omega
theorem serial_Far_ev (a b : Int) : Ev (fun k => serial_Far.f k a b) (far a b) := Ev.from 3 (fun k => serial_Far_eq k a b)

def stepMask (nx : Int) (m : Nat) (n : Int) : Nat := if 1 ≤ far nx n ∧ far nx n ≤ 16 then m ||| 2 ^ (far nx n - 1).toNat else m
def mskFrom (nx : Int) (m : Nat) (came : List Int) : Nat := came.foldl (stepMask nx) m
def msk (nx : Int) (came : List Int) : Nat := mskFrom nx 0 came
theorem stepMask_lt {nx : Int} {m : Nat} (n : Int) (h : m < 65536) : stepMask nx m n < 65536 := by
  unfold stepMask
  split
  · rename_i hh
    exact Nat.or_lt_two_pow (n := 16) h (Nat.pow_lt_pow_right (by decide) (by omega))
  · exact h
theorem mskFrom_lt (nx : Int) (came : List Int) : ∀ m : Nat, m < 65536 → mskFrom nx m came < 65536 := by
  induction came with
  | nil => intro m h; exact h
  | cons n l ih => intro m h; exact ih _ (stepMask_lt n h)
theorem mskFrom_bit (nx : Int) (came : List Int) : ∀ (m : Nat) (j : Nat), j < 16 → (mskFrom nx m came).testBit j = (m.testBit j || came.any (fun n => decide (far nx n = j + 1))) := by
  induction came with
  | nil => intro m j hj; simp [mskFrom]
  | cons n l ih =>
    intro m j hj
    show (mskFrom nx (stepMask nx m n) l).testBit j = _
    rw [ih _ j hj, List.any_cons]
    unfold stepMask
    split
    · rename_i hh
      rw [Nat.testBit_or, Nat.testBit_two_pow]
      have : decide ((far nx n - 1).toNat = j) = decide (far nx n = j + 1) := by
        congr 1; apply propext; omega
      rw [this, Bool.or_assoc]
    · rename_i hh
      have : decide (far nx n = (j : Int) + 1) = false := by
        apply decide_eq_false; intro e; apply hh; omega
      rw [this, Bool.false_or]
theorem msk_lt (nx : Int) (came : List Int) : msk nx came < 65536 := mskFrom_lt nx came 0 (by decide)
theorem msk_bit (nx : Int) (came : List Int) (j : Nat) (hj : j < 16) : (msk nx came).testBit j = came.any (fun n => decide (far nx n = j + 1)) := by
  unfold msk; rw [mskFrom_bit nx came 0 j hj]; simp

theorem or_step (nx n : Int) (m : Nat) (hm : m < 65536) (h1 : 1 ≤ far nx n) (h2 : far nx n ≤ 16) : Go.bits .or .i64 (m : Int) (shl .i64 1 (wrap64 (far nx n - 1))) = ((stepMask nx m n : Nat) : Int) := by
  rw [w64 (by omega) (by omega)]
  have hp : 2 ^ (far nx n - 1).toNat ≤ 2 ^ 16 := Nat.pow_le_pow_right (by decide) (by omega)
  have e : shl .i64 1 (far nx n - 1) = ((2 ^ (far nx n - 1).toNat : Nat) : Int) := by
    unfold shl
    rw [Nat.min_eq_left (by simp [IntKind.bits]; omega), Int.one_mul, IntKind.wrap_i64]
    have hc : ((2 : Int) ^ (far nx n - 1).toNat) = ((2 ^ (far nx n - 1).toNat : Nat) : Int) := by simp
    rw [hc]
    generalize 2 ^ (far nx n - 1).toNat = q at *
    omega
  rw [e, bits_or_i64 _ _ (by omega) (by omega)]
  unfold stepMask
  rw [if_pos ⟨h1, h2⟩]

theorem ack_Of_l0 (nx : Int) (came : List Int) (hl : came.length ≤ 1000) (id ep nn : Int) : ∀ (d : Nat) (i : Int) (m : Nat), 0 ≤ i → (came.length : Int) - i = d → m < 65536 →
    Ev (fun k => ack_Of.l0 k nx came came.length i id ep nn m) (id, ep, nn, ((mskFrom nx m (came.drop i.toNat) : Nat) : Int), 0) := by
  intro d
  induction d with
  | zero =>
    intro i m h0 hd hm
    refine Ev.from 1 fun k => ?_
    simp only [ack_Of.l0]
    rw [if_neg (by omega), List.drop_eq_nil_of_le (by omega)]
    rfl
  | succ d ih =>
    intro i m h0 hd hm
    refine Ev.step (f := fun k => _) (fun k => by simp only [ack_Of.l0]; rfl) ?_
    have h1 : i < (came.length : Int) := by omega
    simp only [if_pos h0, if_pos h1]
    refine Ev.bind (serial_Far_ev _ _) ?_
    have hr := far_range nx (rd came i)
    have hw : wrap64 (i + 1) = i + 1 := w64 (by omega) (by omega)
    rw [rd_get came i h0 h1]
    show Ev _ (id, ep, nn, ((mskFrom nx (stepMask nx m (rd came i)) (came.drop (i + 1).toNat) : Nat) : Int), 0)
    by_cases c1 : far nx (rd came i) ≥ 1
    · by_cases c2 : far nx (rd came i) ≤ 16
      · have hn : 0 ≤ wrap64 (far nx (rd came i) - 1) := by rw [w64 (by omega) (by omega)]; omega
        simp only [if_pos c1, if_pos c2, if_pos hn, hw, or_step nx _ m hm c1 c2]
        exact ih (i + 1) _ (by omega) (by omega) (stepMask_lt _ hm)
      · simp only [if_pos c1, if_neg c2, hw]
        have : stepMask nx m (rd came i) = m := by unfold stepMask; rw [if_neg (by omega)]
        rw [this]
        exact ih (i + 1) _ (by omega) (by omega) hm
    · simp only [if_neg c1, hw]
      have : stepMask nx m (rd came i) = m := by unfold stepMask; rw [if_neg (by omega)]
      rw [this]
      exact ih (i + 1) _ (by omega) (by omega) hm

theorem ack_Of_bad (nx : Int) (came : List Int) (h : nx < 0 ∨ nx > 65535) : Ev (fun k => ack_Of.f k nx came) (0, 0, 0, 0, 1) := by
  refine Ev.from 1 fun k => ?_
  unfold ack_Of.f
  by_cases c : nx < 0
  · rw [if_pos c]; simp only [ack_Of.j0]; rfl
  · rw [if_neg c, decide_eq_true (show nx > 65535 by omega)]; simp only [ack_Of.j0]; rfl
theorem ack_Of_ok (nx : Int) (came : List Int) (hl : came.length ≤ 1000) (h0 : 0 ≤ nx) (h1 : nx ≤ 65535) : Ev (fun k => ack_Of.f k nx came) (0, 0, nx, ((msk nx came : Nat) : Int), 0) := by
  unfold ack_Of.f
  simp only [if_neg (show ¬ nx < 0 by omega), decide_eq_false (show ¬ nx > 65535 by omega)]
  refine Ev.step (f := fun k => _) (fun k => by simp only [ack_Of.j0]; rfl) ?_
  simp only [Bool.false_eq_true, if_false]
  exact ack_Of_l0 nx came hl 0 0 nx came.length 0 0 (by omega) (by omega) (by decide)

def hasB (nx : Int) (m : Nat) (n : Int) : Bool := decide (32768 ≤ far nx n) || (decide (1 ≤ far nx n) && (decide (far nx n ≤ 16) && m.testBit (far nx n - 1).toNat))
theorem mask_has_eq (m : Nat) (t : Int) (hm : m < 65536) (h1 : 1 ≤ t) (h2 : t ≤ 16) : ack_mask_has.f (m : Int) t = some (m.testBit (t - 1).toNat) := by
  unfold ack_mask_has.f
  rw [w64 (by omega) (by omega), if_pos (by omega)]
  congr 1
  unfold shr
  rw [Nat.min_eq_left (by simp [IntKind.bits]; omega)]
  rw [show ((m : Int) / 2 ^ (t - 1).toNat) = ((m / 2 ^ (t - 1).toNat : Nat) : Int) by simp]
  have hq : m / 2 ^ (t - 1).toNat ≤ m := Nat.div_le_self _ _
  have hb := bits_and_i64 (m / 2 ^ (t - 1).toNat) 1 (by omega) (by decide)
  rw [show ((1 : Nat) : Int) = 1 from rfl] at hb
  rw [hb, Nat.and_one_is_mod, Nat.testBit_eq_decide_div_mod_eq]
  rw [Bool.eq_iff_iff]
  simp only [beq_iff_eq, decide_eq_true_eq]
  omega
theorem ack_Has_ev (nx : Int) (m : Nat) (n : Int) (h0 : 0 ≤ nx) (h1 : nx ≤ 65535) (hm : m < 65536) : Ev (fun k => ack_Has.f k 0 0 nx m n) (hasB nx m n) := by
  have hr : ack_right.f 0 0 nx m = some true := by
    unfold ack_right.f
    simp only [if_pos (show (0 : Int) ≥ 0 by decide), if_pos (show (0 : Int) < 64 by decide), if_pos (show (0 : Int) ≤ 4294967295 by decide), if_pos (show nx ≥ 0 by omega), if_pos h1, if_pos (show (m : Int) ≥ 0 by omega)]
    rw [decide_eq_true (show (m : Int) ≤ 65535 by omega)]
  unfold ack_Has.f
  simp only [hr, Option.bind_some, if_true]
  refine Ev.bind (serial_Far_ev _ _) ?_
  have hf := far_range nx n
  unfold hasB
  by_cases c0 : far nx n ≥ 32768
  · simp only [if_pos c0]
    rw [decide_eq_true (show 32768 ≤ far nx n from c0)]
    exact Ev.now _
  · simp only [if_neg c0]
    rw [decide_eq_false (show ¬ 32768 ≤ far nx n from c0), Bool.false_or]
    by_cases c1 : far nx n ≥ 1
    · simp only [if_pos c1]
      rw [decide_eq_true (show 1 ≤ far nx n from c1), Bool.true_and]
      by_cases c2 : far nx n ≤ 16
      · simp only [if_pos c2, mask_has_eq m _ hm c1 c2, Option.bind_some]
        rw [decide_eq_true c2, Bool.true_and]
        exact Ev.now _
      · simp only [if_neg c2]
        rw [decide_eq_false c2, Bool.false_and]
        exact Ev.now _
    · simp only [if_neg c1]
      rw [decide_eq_false (show ¬ 1 ≤ far nx n from c1), Bool.false_and]
      exact Ev.now _
theorem has5 (n : Int) : Ev (fun k => ack_Has.f k 0 0 5 3 n) (hasB 5 3 n) := ack_Has_ev 5 3 n (by decide) (by decide) (by decide)
theorem awake07 : Ev (fun k => thalweglaw07_awake.f k) true := by
  unfold thalweglaw07_awake.f
  refine Ev.bind (ack_Of_ok 5 [7, 6, 30] (by decide) (by decide) (by decide)) ?_
  have hm : msk 5 [7, 6, 30] = 3 := by decide
  rw [hm]
  simp only [show ((3 : Nat) : Int) = 3 from rfl, if_true]
  refine Ev.bind (has5 4) ?_
  rw [show hasB 5 3 4 = true by decide]
  simp only [if_true]
  refine Ev.bind (has5 5) ?_
  rw [show hasB 5 3 5 = false by decide]
  simp only [Bool.false_eq_true, if_false]
  refine Ev.bind (has5 6) ?_
  rw [show hasB 5 3 6 = true by decide]
  simp only [if_true]
  refine Ev.bind (has5 8) ?_
  rw [show hasB 5 3 8 = false by decide]
  exact Ev.now _
end Go.Proofs.Ytolfbnkdmafomaa.P
