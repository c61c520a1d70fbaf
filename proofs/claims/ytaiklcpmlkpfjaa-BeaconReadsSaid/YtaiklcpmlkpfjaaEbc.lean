/- Layer 6, plain: the check of a beacon, and the reference's. -/
import Derived.Test.YtaiklcpmlkpfjaaEgm
import Derived.Test.YtaiklcpmlkpfjaaP3
import Derived.Test.YtaiklcpmlkpfjaaP2
import Derived.Test.YtaiklcpmlkpfjaaP5
import Derived.Test.YtaiklcpmlkpfjaaP4
namespace Go.Proofs.Ytaiklcpmlkpfjaa.P
set_option linter.unusedSimpArgs false
set_option linter.unusedVariables false
open Go.RowKit Go.Proofs.YtaiklcpmlkpfjaaW.PrintWords Go.Proofs.YtaiklcpmlkpfjaaW.PrintLast Go.Proofs.YtaiklcpmlkpfjaaW.PrintMore
open Classical
theorem boolq {p q : Prop} [Decidable p] [Decidable q] (h : p ↔ q) : (decide p) = (decide q) := by
  by_cases hp : p
  · rw [decide_eq_true hp, decide_eq_true (h.mp hp)]
  · rw [decide_eq_false hp, decide_eq_false (fun hq => hp (h.mpr hq))]
theorem evq {α : Type} {g : Nat → Option α} {a b : α} (h : Ev g a) (e : a = b) : Ev g b := e ▸ h
def EpR (n : Int) : Prop := 0 ≤ n ∧ n ≤ 4294967295
theorem bepoch_eq (n : Int) : beacon_epoch.f n = some (decide (EpR n)) := by
  unfold beacon_epoch.f
  by_cases h : n ≥ 0
  · rw [if_pos h]
    exact congrArg some (boolq (q := EpR n) ⟨fun g => ⟨h, g⟩, fun g => g.2⟩)
  · rw [if_neg h, decide_eq_false (p := EpR n) (fun g => h g.1)]
theorem repoch_eq (n : Int) : thalwegref06_Epoch.f n = some (decide (EpR n)) := by
  unfold thalwegref06_Epoch.f
  by_cases h : n ≥ 0
  · rw [if_pos h]
    exact congrArg some (boolq (q := EpR n) ⟨fun g => ⟨h, g⟩, fun g => g.2⟩)
  · rw [if_neg h, decide_eq_false (p := EpR n) (fun g => h g.1)]
/-- Echo i of a row is right, and behind the one ahead of it. -/
def AtR (Y : List S59) (i : Int) : Prop := 0 ≤ (rd_T59 Y i).f0 ∧ (rd_T59 Y i).f0 < 64 ∧ EpR (rd_T59 Y i).f1 ∧ (i = 0 ∨ (rd_T59 Y (i - 1)).f0 < (rd_T59 Y i).f0)
def RBn (n : Int) (Y : List S59) : Prop := EpR n ∧ ∀ i : Int, 0 ≤ i → i < Y.length → AtR Y i
def rbB (n : Int) (Y : List S59) : Bool := decide (0 ≤ n) && decide (n ≤ 4294967295) && (List.range Y.length).all fun i => decide (0 ≤ (rd_T59 Y i).f0) && decide ((rd_T59 Y i).f0 < 64) && decide (0 ≤ (rd_T59 Y i).f1) && decide ((rd_T59 Y i).f1 ≤ 4294967295) && (decide ((i : Int) = 0) || decide ((rd_T59 Y ((i : Int) - 1)).f0 < (rd_T59 Y i).f0))
theorem rbB_iff (n : Int) (Y : List S59) : rbB n Y = true ↔ RBn n Y := by
  unfold rbB RBn AtR EpR
  simp only [Bool.and_eq_true, Bool.or_eq_true, decide_eq_true_eq, List.all_eq_true, List.mem_range]
  constructor
  · rintro ⟨⟨h0, h1⟩, h⟩
    refine ⟨⟨h0, h1⟩, fun i hi hl => ?_⟩
    obtain ⟨k, rfl⟩ := Int.eq_ofNat_of_zero_le hi
    obtain ⟨⟨⟨⟨a, b⟩, c⟩, d⟩, e⟩ := h k (by omega)
    exact ⟨a, b, ⟨c, d⟩, e⟩
  · rintro ⟨⟨h0, h1⟩, h⟩
    refine ⟨⟨h0, h1⟩, fun k hk => ?_⟩
    obtain ⟨a, b, ⟨c, d⟩, e⟩ := h k (by omega) (by omega)
    exact ⟨⟨⟨⟨a, b⟩, c⟩, d⟩, e⟩
instance (n : Int) (Y : List S59) : Decidable (RBn n Y) := decidable_of_iff (rbB n Y = true) (rbB_iff n Y)
theorem from_next {Y : List S59} {i : Int} (h0 : 0 ≤ i) (hi : i < Y.length) : (∀ j : Int, i ≤ j → j < Y.length → AtR Y j) ↔ AtR Y i ∧ ∀ j : Int, i + 1 ≤ j → j < Y.length → AtR Y j := by
  constructor
  · intro h; exact ⟨h i (Int.le_refl _) hi, fun j h1 h2 => h j (by omega) h2⟩
  · rintro ⟨h, g⟩ j h1 h2
    by_cases e : j = i
    · rw [e]; exact h
    · exact g j (by omega) h2
def OkFrom (p : Prop) (Y : List S59) (i : Int) : Prop := p ∧ ∀ j : Int, i ≤ j → j < Y.length → AtR Y j
theorem bnc_l0 (n : Int) (Y : List S59) (hl : Y.length ≤ 1000000000000) : ∀ (m : Nat) (ok : Bool) (i : Int), 0 ≤ i → i + m = Y.length → Ev (fun k => beacon_Check.l0 k ok Y (Y.length : Int) i n Y) (if OkFrom (ok = true) Y i then 0 else 1) := by
  intro m
  induction m with
  | zero =>
    intro ok i h0 hi
    refine Ev.step (f := fun k => _) (fun k => by simp only [beacon_Check.l0]; rfl) ?_
    simp only [if_neg (show ¬ i < (Y.length : Int) by omega)]
    by_cases c : ok = true
    · simp only [if_pos c, if_pos (show OkFrom (ok = true) Y i from ⟨c, fun j h1 h2 => absurd h2 (by omega)⟩)]
      exact Ev.now _
    · simp only [if_neg c, if_neg (show ¬ OkFrom (ok = true) Y i from fun h => c h.1)]
      exact Ev.now _
  | succ m ih =>
    intro ok i h0 hi
    have hlt : i < (Y.length : Int) := by omega
    have key : ∀ b : Bool, (b = true ↔ ok = true ∧ AtR Y i) → Ev (fun k => beacon_Check.l0 k b Y (Y.length : Int) (i + 1) n Y) (if OkFrom (ok = true) Y i then 0 else 1) := by
      intro b hb
      have h := ih b (i + 1) (by omega) (by omega)
      have e : OkFrom (b = true) Y (i + 1) ↔ OkFrom (ok = true) Y i := by
        unfold OkFrom
        rw [hb, from_next h0 hlt, and_assoc]
      simp only [e] at h
      exact h
    have no : ¬ (ok = true ∧ AtR Y i) → Ev (fun k => beacon_Check.l0 k false Y (Y.length : Int) (i + 1) n Y) (if OkFrom (ok = true) Y i then 0 else 1) := fun h => key false ⟨fun g => (by simp at g), fun g => absurd g h⟩
    refine Ev.step (f := fun k => _) (fun k => by simp only [beacon_Check.l0]; rfl) ?_
    simp only [if_pos hlt, if_pos h0, bepoch_eq, Option.bind_some, w64 (x := i + 1) (by omega) (by omega), w64 (x := i - 1) (by omega) (by omega)]
    by_cases c : ok = true
    rotate_left
    · simp only [if_neg c]; exact no (fun g => c g.1)
    simp only [if_pos c]
    by_cases c1 : (rd_T59 Y i).f0 ≥ 0
    rotate_left
    · simp only [if_neg c1]; exact no (fun g => c1 g.2.1)
    simp only [if_pos c1]
    by_cases c2 : (rd_T59 Y i).f0 < 64
    rotate_left
    · simp only [if_neg c2]; exact no (fun g => c2 g.2.2.1)
    simp only [if_pos c2]
    by_cases c3 : EpR (rd_T59 Y i).f1
    rotate_left
    · simp only [decide_eq_false c3, Bool.false_eq_true, if_false]; exact no (fun g => c3 g.2.2.2.1)
    simp only [decide_eq_true c3, if_true]
    by_cases c4 : i = 0
    · simp only [if_pos c4]
      exact key true ⟨fun _ => ⟨c, c1, c2, c3, .inl c4⟩, fun _ => rfl⟩
    · simp only [if_neg c4, if_pos (show 0 ≤ i - 1 by omega), if_pos (show i - 1 < (Y.length : Int) by omega)]
      refine key _ ⟨fun g => ⟨c, c1, c2, c3, .inr (of_decide_eq_true g)⟩, fun g => decide_eq_true ?_⟩
      rcases g.2.2.2.2 with g | g
      · exact absurd g c4
      · exact g
theorem bncheck_ev (n : Int) (Y : List S59) (hl : Y.length ≤ 1000000000000) : Ev (fun k => beacon_Check.f k n Y) (if RBn n Y then 0 else 1) := by
  unfold beacon_Check.f
  simp only [bepoch_eq, Option.bind_some]
  have h := bnc_l0 n Y hl Y.length (decide (EpR n)) 0 (by omega) (by omega)
  have e : OkFrom (decide (EpR n) = true) Y 0 ↔ RBn n Y := by
    unfold OkFrom
    rw [decide_eq_true_iff]; rfl
  simp only [e] at h
  exact h
theorem rnc_l0 (n : Int) (Y : List S59) (hl : Y.length ≤ 1000000000000) : ∀ (m : Nat) (i : Int), 0 ≤ i → i + m = Y.length → Ev (fun k => thalwegref06_Right.l0 k i n Y) (decide (OkFrom (EpR n) Y i)) := by
  intro m
  induction m with
  | zero =>
    intro i h0 hi
    refine Ev.step (f := fun k => _) (fun k => by simp only [thalwegref06_Right.l0]; rfl) ?_
    simp only [if_neg (show ¬ i < (Y.length : Int) by omega), repoch_eq, Option.bind_some]
    refine evq (Ev.now _) (boolq ⟨fun g => ⟨g, fun j h1 h2 => absurd h2 (by omega)⟩, fun g => g.1⟩)
  | succ m ih =>
    intro i h0 hi
    have hlt : i < (Y.length : Int) := by omega
    have no : ¬ AtR Y i → Ev (fun _ : Nat => some false) (decide (OkFrom (EpR n) Y i)) := fun h => by
      rw [decide_eq_false (fun g => h (g.2 i (Int.le_refl _) hlt))]
      exact Ev.now _
    have yes : AtR Y i → Ev (fun k => thalwegref06_Right.l0 k (i + 1) n Y) (decide (OkFrom (EpR n) Y i)) := fun h => by
      refine evq (ih (i + 1) (by omega) (by omega)) (boolq ?_)
      unfold OkFrom
      rw [from_next h0 hlt]
      exact ⟨fun g => ⟨g.1, h, g.2⟩, fun g => ⟨g.1, g.2.2⟩⟩
    refine Ev.step (f := fun k => _) (fun k => by simp only [thalwegref06_Right.l0]; rfl) ?_
    simp only [if_pos hlt, if_pos h0, repoch_eq, Option.bind_some, w64 (x := i + 1) (by omega) (by omega), w64 (x := i - 1) (by omega) (by omega)]
    by_cases c1 : (rd_T59 Y i).f0 < 0
    · simp only [if_pos c1]; exact no (fun g => by have := g.1; omega)
    simp only [if_neg c1]
    by_cases c2 : (rd_T59 Y i).f0 ≥ 64
    · simp only [if_pos c2]; exact no (fun g => by have := g.2.1; omega)
    simp only [if_neg c2]
    by_cases c4 : i > 0
    · simp only [if_pos c4, if_pos (show 0 ≤ i - 1 by omega), if_pos (show i - 1 < (Y.length : Int) by omega)]
      by_cases c5 : (rd_T59 Y (i - 1)).f0 ≥ (rd_T59 Y i).f0
      · simp only [if_pos c5]; exact no (fun g => by have := g.2.2.2; omega)
      simp only [if_neg c5]
      by_cases c3 : EpR (rd_T59 Y i).f1
      · simp only [decide_eq_true c3, if_true]; exact yes ⟨by omega, by omega, c3, .inr (by omega)⟩
      · simp only [decide_eq_false c3, Bool.false_eq_true, if_false]; exact no (fun g => c3 g.2.2.1)
    · simp only [if_neg c4]
      by_cases c3 : EpR (rd_T59 Y i).f1
      · simp only [decide_eq_true c3, if_true]; exact yes ⟨by omega, by omega, c3, .inl (by omega)⟩
      · simp only [decide_eq_false c3, Bool.false_eq_true, if_false]; exact no (fun g => c3 g.2.2.1)
theorem rnright_ev (n : Int) (Y : List S59) (hl : Y.length ≤ 1000000000000) : Ev (fun k => thalwegref06_Right.f k n Y) (decide (RBn n Y)) := by
  unfold thalwegref06_Right.f
  exact evq (rnc_l0 n Y hl Y.length 0 (by omega) (by omega)) (boolq Iff.rfl)
end Go.Proofs.Ytaiklcpmlkpfjaa.P
