/- Layer 6, plain: the reference parses as the program does; the same beacon is the same. -/
import Derived.Test.YtaiklcpmlkpfjaaEbp
import Derived.Test.YtaiklcpmlkpfjaaErGet
import Derived.Test.YtaiklcpmlkpfjaaP7
import Derived.Test.YtaiklcpmlkpfjaaP10
import Derived.Test.YtaiklcpmlkpfjaaP9
namespace Go.Proofs.Ytaiklcpmlkpfjaa.P
set_option linter.unusedSimpArgs false
set_option linter.unusedVariables false
open Go.RowKit Go.Proofs.YtaiklcpmlkpfjaaW.PrintWords Go.Proofs.YtaiklcpmlkpfjaaW.PrintLast Go.Proofs.YtaiklcpmlkpfjaaW.PrintMore
open Classical
theorem awake06 : Ev (fun k => thalweglaw06_awake.f k) true := Ev.of (fun k => thalweglaw06_awake.mono k) (k := 30) (by decide +kernel)
theorem rbN_bad (l : List Int) (n a e : Int) (he : ¬ e = 0) : rbN l n a e = (0, a, e) := by unfold rbN; rw [if_neg he]
theorem blL_bad (l : List Int) (a e : Int) (he : ¬ e = 0) : ∀ (m : Nat) (Z : List S59), ∃ Y, blL l m Z a e = (Y, a, e) := by
  intro m
  induction m with
  | zero => intro Z; exact ⟨Z, rfl⟩
  | succ m ih =>
    intro Z
    simp only [blL, rbN_bad l 1 a e he, rbN_bad l 4 a e he]
    exact ih _
theorem bnFin_bad (l : List Int) (n a e : Int) (he : ¬ e = 0) (m : Nat) (Z : List S59) : bnFin n (blL l m Z a e).1 (blL l m Z a e).2.1 (blL l m Z a e).2.2 = (0, [], 0, e) := by
  obtain ⟨Y, hY⟩ := blL_bad l a e he m Z
  rw [hY]
  simp only [bnFin, if_neg he]
theorem rparse_l0 (l : List Int) (hB : Bytes l) (hl : l.length ≤ 1000000000000) (n : Int) (M : Nat) (hM : M ≤ 255) : ∀ (m : Nat) (i : Int) (Z : List S59) (a : Int), 0 ≤ i → i + m = M → (Z.length : Int) = i → Ev (fun k => thalwegref06_Parse.l0 k l a (M : Int) i n Z) (bnFin n (blL l m Z a 0).1 (blL l m Z a 0).2.1 (blL l m Z a 0).2.2) := by
  intro m
  induction m with
  | zero =>
    intro i Z a h0 hi hz
    refine Ev.step (f := fun k => _) (fun k => by simp only [thalwegref06_Parse.l0]; rfl) ?_
    simp only [if_neg (show ¬ i < (M : Int) by omega), blL, bnFin, if_true]
    refine Ev.bind (rnright_ev n Z (by omega)) ?_
    by_cases c : RBn n Z
    · simp only [decide_eq_true c, if_true]; exact evq (Ev.now _) (by simp [c])
    · simp only [decide_eq_false c, Bool.false_eq_true, if_false]; exact evq (Ev.now _) (by simp [c])
  | succ m ih =>
    intro i Z a h0 hi hz
    refine Ev.step (f := fun k => _) (fun k => by simp only [thalwegref06_Parse.l0]; rfl) ?_
    simp only [if_pos (show i < (M : Int) by omega), blL]
    refine Ev.bind (refGet_ev l a 1 hB hl) ?_
    by_cases c1 : (getSpec l a 1).2.2 = 0
    rotate_left
    · have e1 : rbN l 1 a 0 = (0, a, (getSpec l a 1).2.2) := by unfold rbN; rw [if_pos rfl, if_neg c1]
      rw [e1]
      simp only [if_neg c1, rbN_bad l 4 a _ c1]
      rw [bnFin_bad l n a _ c1]
      exact Ev.now _
    have e1 : rbN l 1 a 0 = ((getSpec l a 1).1, (getSpec l a 1).2.1, 0) := by unfold rbN; rw [if_pos rfl, if_pos c1]
    rw [e1]
    simp only [if_pos c1]
    refine Ev.bind (refGet_ev l _ 4 hB hl) ?_
    generalize hb : (getSpec l a 1).2.1 = b
    by_cases c2 : (getSpec l b 4).2.2 = 0
    rotate_left
    · have e2 : rbN l 4 b 0 = (0, b, (getSpec l b 4).2.2) := by unfold rbN; rw [if_pos rfl, if_neg c2]
      rw [e2]
      simp only [if_neg c2]
      rw [bnFin_bad l n b _ c2]
      exact Ev.now _
    have e2 : rbN l 4 b 0 = ((getSpec l b 4).1, (getSpec l b 4).2.1, 0) := by unfold rbN; rw [if_pos rfl, if_pos c2]
    rw [e2]
    simp only [if_pos c2, if_pos (show Z.length < 8796093022208 by omega), w64 (x := i + 1) (by omega) (by omega)]
    exact ih (i + 1) _ _ (by omega) (by omega) (by rw [List.length_append, List.length_singleton]; omega)
theorem rparse_ev (l : List Int) (a : Int) (hB : Bytes l) (hl : l.length ≤ 1000000000000) : Ev (fun k => thalwegref06_Parse.f k l a) (bnGo l a) := by
  unfold thalwegref06_Parse.f bnGo bnRest
  refine Ev.bind (refGet_ev l a 4 hB hl) ?_
  by_cases c1 : (getSpec l a 4).2.2 = 0
  rotate_left
  · have e1 : rbN l 4 a 0 = (0, a, (getSpec l a 4).2.2) := by unfold rbN; rw [if_pos rfl, if_neg c1]
    rw [e1]
    simp only [if_neg c1, rbN_bad l 1 a _ c1]
    rw [bnFin_bad l 0 a _ c1]
    exact Ev.now _
  have e1 : rbN l 4 a 0 = ((getSpec l a 4).1, (getSpec l a 4).2.1, 0) := by unfold rbN; rw [if_pos rfl, if_pos c1]
  rw [e1]
  simp only [if_pos c1]
  refine Ev.bind (refGet_ev l _ 1 hB hl) ?_
  generalize hb : (getSpec l a 4).2.1 = b
  by_cases c2 : (getSpec l b 1).2.2 = 0
  rotate_left
  · have e2 : rbN l 1 b 0 = (0, b, (getSpec l b 1).2.2) := by unfold rbN; rw [if_pos rfl, if_neg c2]
    rw [e2]
    simp only [if_neg c2]
    rw [bnFin_bad l _ b _ c2]
    exact Ev.now _
  have e2 : rbN l 1 b 0 = ((getSpec l b 1).1, (getSpec l b 1).2.1, 0) := by unfold rbN; rw [if_pos rfl, if_pos c2]
  have hm := rbN_one hB e2
  rw [e2]
  simp only [if_pos c2]
  obtain ⟨M, hM⟩ := Int.eq_ofNat_of_zero_le hm.1
  rw [hM] at hm ⊢
  rw [Int.toNat_natCast]
  exact rparse_l0 l hB hl _ M (by omega) M 0 [] _ (by omega) (by omega) rfl
theorem bsame_l0 (n : Int) (Y : List S59) (hl : Y.length ≤ 1000000000000) : ∀ (d : Nat) (i : Int), 0 ≤ i → (Y.length : Int) - i = d → Ev (fun k => thalwegref06_Same.l0 k i n Y n Y) true := by
  intro d
  induction d with
  | zero =>
    intro i h0 hd
    refine Ev.from 1 fun k => ?_
    simp only [thalwegref06_Same.l0]
    rw [if_neg (by omega)]
  | succ d ih =>
    intro i h0 hd
    refine Ev.step (f := fun k => _) (fun k => by simp only [thalwegref06_Same.l0]; rfl) ?_
    simp only [if_pos (show i < (Y.length : Int) by omega), if_pos h0, beq_self_eq_true, Bool.not_true, Bool.or_self, Bool.false_eq_true, if_false, w64 (x := i + 1) (by omega) (by omega)]
    exact ih (i + 1) (by omega) (by omega)
theorem bsame_ev (n : Int) (Y : List S59) (hl : Y.length ≤ 1000000000000) : Ev (fun k => thalwegref06_Same.f k n Y n Y) true := by
  unfold thalwegref06_Same.f
  simp only [if_true, bne_self_eq_false]
  refine Ev.step (f := fun k => _) (fun k => by simp only [thalwegref06_Same.j0]; rfl) ?_
  simp only [Bool.false_eq_true, if_false]
  exact bsame_l0 n Y hl Y.length 0 (by omega) (by omega)
theorem blL_length (l : List Int) : ∀ (m : Nat) (Z : List S59) (a e : Int), (blL l m Z a e).1.length = Z.length + m := by
  intro m
  induction m with
  | zero => intro Z a e; rfl
  | succ m ih =>
    intro Z a e
    simp only [blL]
    rw [ih, List.length_append, List.length_singleton]
    omega
theorem bnGo_length (l : List Int) (hB : Bytes l) (a : Int) : (bnGo l a).2.1.length ≤ 255 := by
  obtain ⟨m, p, e, h⟩ : ∃ m p e, rbN l 1 (rbN l 4 a 0).2.1 (rbN l 4 a 0).2.2 = (m, p, e) := ⟨_, _, _, rfl⟩
  have hm := rbN_one hB h
  unfold bnGo bnRest
  rw [h]
  unfold bnFin
  have hlen := blL_length l m.toNat [] p e
  simp only
  split
  · split
    · simp only [List.length_nil] at hlen ⊢; omega
    · simp
  · simp
end Go.Proofs.Ytaiklcpmlkpfjaa.P
