/- Layer 2, plain: the order of heights, by their numbers. -/
import Derived.Test.YtjeahmlahkngaaaEl02
namespace Go.Proofs.Ytjeahmlahkngaaa.P
set_option linter.unusedSimpArgs false
set_option linter.unusedVariables false
open Go.RowKit Go.Proofs.YtjeahmlahkngaaaW.PrintWords Go.Proofs.YtjeahmlahkngaaaW.PrintLast Go.Proofs.YtjeahmlahkngaaaW.PrintMore
theorem cmpS_cases (x y : Int) : (cmpS x y = -1 ∧ x < y) ∨ (cmpS x y = 0 ∧ x = y) ∨ (cmpS x y = 1 ∧ y < x) := by
  unfold cmpS
  by_cases h1 : x < y
  · rw [if_pos h1]; exact .inl ⟨rfl, h1⟩
  · by_cases h2 : x > y
    · rw [if_neg h1, if_pos h2]; exact .inr (.inr ⟨rfl, h2⟩)
    · rw [if_neg h1, if_neg h2]; exact .inr (.inl ⟨rfl, by omega⟩)
def L3 (a b c a' b' c' : Int) : Prop := a < a' ∨ (a = a' ∧ (b < b' ∨ (b = b' ∧ c < c')))
theorem ordS_cases (a b c a' b' c' : Int) : (ordS a b c a' b' c' = -1 ∧ L3 a b c a' b' c') ∨ (ordS a b c a' b' c' = 0 ∧ a = a' ∧ b = b' ∧ c = c') ∨ (ordS a b c a' b' c' = 1 ∧ L3 a' b' c' a b c) := by
  unfold ordS orS L3
  rcases cmpS_cases a a' with ⟨e1, h1⟩ | ⟨e1, h1⟩ | ⟨e1, h1⟩
  · rw [e1, if_neg (by decide)]; exact .inl ⟨rfl, .inl h1⟩
  · rw [e1, if_pos rfl]
    rcases cmpS_cases b b' with ⟨e2, h2⟩ | ⟨e2, h2⟩ | ⟨e2, h2⟩
    · rw [e2, if_neg (by decide)]; exact .inl ⟨rfl, .inr ⟨h1, .inl h2⟩⟩
    · rw [e2, if_pos rfl]
      rcases cmpS_cases c c' with ⟨e3, h3⟩ | ⟨e3, h3⟩ | ⟨e3, h3⟩
      · rw [e3]; exact .inl ⟨rfl, .inr ⟨h1, .inr ⟨h2, h3⟩⟩⟩
      · rw [e3]; exact .inr (.inl ⟨rfl, h1, h2, h3⟩)
      · rw [e3]; exact .inr (.inr ⟨rfl, .inr ⟨h1.symm, .inr ⟨h2.symm, h3⟩⟩⟩)
    · rw [e2, if_neg (by decide)]; exact .inr (.inr ⟨rfl, .inr ⟨h1.symm, .inl h2⟩⟩)
  · rw [e1, if_neg (by decide)]; exact .inr (.inr ⟨rfl, .inl h1⟩)
def ltS (a b c d e a' b' c' d' e' : Int) : Prop := orS (ordS a b c a' b' c') (cmpS d d') (cmpS e e') < 0
instance (a b c d e a' b' c' d' e' : Int) : Decidable (ltS a b c d e a' b' c' d' e') := inferInstanceAs (Decidable (orS (ordS a b c a' b' c') (cmpS d d') (cmpS e e') < 0))
theorem ltS_iff (a b c d e a' b' c' d' e' : Int) : ltS a b c d e a' b' c' d' e' ↔ L3 a b c a' b' c' ∨ ((a = a' ∧ b = b' ∧ c = c') ∧ (d < d' ∨ (d = d' ∧ e < e'))) := by
  unfold ltS
  rcases ordS_cases a b c a' b' c' with ⟨e1, h1⟩ | ⟨e1, h1⟩ | ⟨e1, h1⟩
  · rw [e1]; unfold orS; rw [if_neg (by decide)]
    exact ⟨fun _ => .inl h1, fun _ => by decide⟩
  · rw [e1]; unfold orS; rw [if_pos rfl]
    obtain ⟨u, v, w⟩ := h1
    unfold L3
    rcases cmpS_cases d d' with ⟨e2, h2⟩ | ⟨e2, h2⟩ | ⟨e2, h2⟩
    · rw [e2, if_neg (by decide)]; exact ⟨fun _ => .inr ⟨⟨u, v, w⟩, .inl h2⟩, fun _ => by decide⟩
    · rw [e2, if_pos rfl]
      rcases cmpS_cases e e' with ⟨e3, h3⟩ | ⟨e3, h3⟩ | ⟨e3, h3⟩ <;> rw [e3] <;> omega
    · rw [e2, if_neg (by decide)]; omega
  · rw [e1]; unfold orS; rw [if_neg (by decide)]
    unfold L3 at h1 ⊢
    omega
theorem ltS_irrefl (a b c d e : Int) : ¬ ltS a b c d e a b c d e := by
  rw [ltS_iff]; unfold L3; omega
theorem ltS_asymm {a b c d e a' b' c' d' e' : Int} (h : ltS a b c d e a' b' c' d' e') : ¬ ltS a' b' c' d' e' a b c d e := by
  rw [ltS_iff] at h ⊢; unfold L3 at h ⊢; omega
theorem ltS_trans {a b c d e a' b' c' d' e' a'' b'' c'' d'' e'' : Int} (h : ltS a b c d e a' b' c' d' e') (g : ltS a' b' c' d' e' a'' b'' c'' d'' e'') : ltS a b c d e a'' b'' c'' d'' e'' := by
  rw [ltS_iff] at h g ⊢; unfold L3 at h g ⊢; omega
theorem ltS_total {a b c d e a' b' c' d' e' : Int} (h : ¬ ltS a b c d e a' b' c' d' e') (g : ¬ ltS a' b' c' d' e' a b c d e) : a = a' ∧ b = b' ∧ c = c' ∧ d = d' ∧ e = e' := by
  rw [ltS_iff] at h g; unfold L3 at h g; omega
theorem ordS_anti (a b c a' b' c' : Int) : ordS a b c a' b' c' + ordS a' b' c' a b c = 0 := by
  rcases ordS_cases a b c a' b' c' with ⟨e1, h1⟩ | ⟨e1, h1⟩ | ⟨e1, h1⟩ <;> rcases ordS_cases a' b' c' a b c with ⟨e2, h2⟩ | ⟨e2, h2⟩ | ⟨e2, h2⟩ <;> rw [e1, e2] <;> first | rfl | (exfalso; simp only [L3] at h1 h2; omega)
theorem ltS_ord {a b c d e a' b' c' d' e' : Int} (h : ordS a b c a' b' c' ≠ 0) : ltS a b c d e a' b' c' d' e' ↔ ordS a b c a' b' c' < 0 := by
  unfold ltS orS
  rw [if_neg h]
end Go.Proofs.Ytjeahmlahkngaaa.P
