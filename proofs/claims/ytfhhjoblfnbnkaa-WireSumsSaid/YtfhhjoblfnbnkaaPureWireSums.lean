/- WireSums: one changed byte and two neighbours that change places are noticed by the sum; the plain law. -/
import Derived.Test.YtfhhjoblfnbnkaaEa01
import Derived.Test.YtfhhjoblfnbnkaaErBoth
import Derived.Test.YtfhhjoblfnbnkaaSWireSums
import Derived.Test.YtfhhjoblfnbnkaaP12
namespace Go.Proofs.Ytfhhjoblfnbnkaa.P
set_option linter.unusedSimpArgs false
set_option linter.unusedVariables false
open Go.RowKit Go.Proofs.YtfhhjoblfnbnkaaW.PrintWords Go.Proofs.YtfhhjoblfnbnkaaW.PrintLast Go.Proofs.YtfhhjoblfnbnkaaW.PrintMore
theorem sum_range (l : List Int) : ∀ s : Int × Int, (0 ≤ s.1 ∧ s.1 ≤ 250) → (0 ≤ s.2 ∧ s.2 ≤ 250) → (0 ≤ (l.foldl sumStep s).1 ∧ (l.foldl sumStep s).1 ≤ 250) ∧ (0 ≤ (l.foldl sumStep s).2 ∧ (l.foldl sumStep s).2 ≤ 250) := by
  induction l with
  | nil => intro s h1 h2; exact ⟨h1, h2⟩
  | cons c l ih =>
    intro s h1 h2
    rw [List.foldl_cons]
    exact ih _ (by show 0 ≤ (s.1 + c) % 251 ∧ (s.1 + c) % 251 ≤ 250; omega) (by show 0 ≤ (s.2 + (s.1 + c) % 251) % 251 ∧ (s.2 + (s.1 + c) % 251) % 251 ≤ 250; omega)
theorem sum_first (l : List Int) : ∀ s s' : Int × Int, ((l.foldl sumStep s).1 - (l.foldl sumStep s').1) % 251 = (s.1 - s'.1) % 251 := by
  induction l with
  | nil => intro s s'; rfl
  | cons c l ih =>
    intro s s'
    rw [List.foldl_cons, List.foldl_cons, ih]
    show ((s.1 + c) % 251 - (s'.1 + c) % 251) % 251 = _
    omega
theorem sum_second (l : List Int) : ∀ s s' : Int × Int, s.1 = s'.1 → (l.foldl sumStep s).1 = (l.foldl sumStep s').1 ∧ ((l.foldl sumStep s).2 - (l.foldl sumStep s').2) % 251 = (s.2 - s'.2) % 251 := by
  induction l with
  | nil => intro s s' h; exact ⟨h, rfl⟩
  | cons c l ih =>
    intro s s' h
    rw [List.foldl_cons, List.foldl_cons]
    have := ih (sumStep s c) (sumStep s' c) (by show (s.1 + c) % 251 = (s'.1 + c) % 251; rw [h])
    refine ⟨this.1, this.2.trans ?_⟩
    show ((s.2 + (s.1 + c) % 251) % 251 - (s'.2 + (s'.1 + c) % 251) % 251) % 251 = _
    rw [h]
    omega
theorem sumEnd_inj (s s' : Int × Int) (h1 : 0 ≤ s.1 ∧ s.1 ≤ 250) (h1' : 0 ≤ s'.1 ∧ s'.1 ≤ 250) : sumEnd s = sumEnd s' ↔ s.1 = s'.1 ∧ s.2 = s'.2 := by
  unfold sumEnd
  constructor
  · intro h; omega
  · rintro ⟨a, b⟩; rw [a, b]
theorem sum_one (pre t : List Int) (c x : Int) : sumSpec (pre ++ c :: t) = sumSpec (pre ++ x :: t) ↔ (x - c) % 251 = 0 := by
  unfold sumSpec
  rw [List.foldl_append, List.foldl_append, List.foldl_cons, List.foldl_cons]
  have hp := sum_range pre (1, 0) ⟨by decide, by decide⟩ ⟨by decide, by decide⟩
  generalize pre.foldl sumStep (1, 0) = s at hp
  have s0 : ∀ z, 0 ≤ (sumStep s z).1 ∧ (sumStep s z).1 ≤ 250 := fun z => by show 0 ≤ (s.1 + z) % 251 ∧ (s.1 + z) % 251 ≤ 250; omega
  have s1 : ∀ z, 0 ≤ (sumStep s z).2 ∧ (sumStep s z).2 ≤ 250 := fun z => by show 0 ≤ (s.2 + (s.1 + z) % 251) % 251 ∧ (s.2 + (s.1 + z) % 251) % 251 ≤ 250; omega
  have r1 := sum_range t (sumStep s c) (s0 c) (s1 c)
  have r2 := sum_range t (sumStep s x) (s0 x) (s1 x)
  rw [sumEnd_inj _ _ r1.1 r2.1]
  constructor
  · rintro ⟨h, _⟩
    have hf := sum_first t (sumStep s c) (sumStep s x)
    rw [h] at hf
    have : ((s.1 + c) % 251 - (s.1 + x) % 251) % 251 = 0 := by rw [Int.sub_self] at hf; exact hf.symm
    omega
  · intro h
    have e : (s.1 + c) % 251 = (s.1 + x) % 251 := by omega
    have : sumStep s c = sumStep s x := by unfold sumStep; rw [e]
    rw [this]
    exact ⟨rfl, rfl⟩
theorem sum_two (pre t : List Int) (c d : Int) : sumSpec (pre ++ c :: d :: t) = sumSpec (pre ++ d :: c :: t) ↔ (c - d) % 251 = 0 := by
  unfold sumSpec
  rw [List.foldl_append, List.foldl_append, List.foldl_cons, List.foldl_cons, List.foldl_cons, List.foldl_cons]
  generalize pre.foldl sumStep (1, 0) = s
  have s0 : ∀ (u : Int × Int) z, 0 ≤ (sumStep u z).1 ∧ (sumStep u z).1 ≤ 250 := fun u z => by show 0 ≤ (u.1 + z) % 251 ∧ (u.1 + z) % 251 ≤ 250; omega
  have s1 : ∀ (u : Int × Int) z, 0 ≤ (sumStep u z).2 ∧ (sumStep u z).2 ≤ 250 := fun u z => by show 0 ≤ (u.2 + (u.1 + z) % 251) % 251 ∧ (u.2 + (u.1 + z) % 251) % 251 ≤ 250; omega
  have r1 := sum_range t (sumStep (sumStep s c) d) (s0 _ _) (s1 _ _)
  have r2 := sum_range t (sumStep (sumStep s d) c) (s0 _ _) (s1 _ _)
  rw [sumEnd_inj _ _ r1.1 r2.1]
  have hx : (sumStep (sumStep s c) d).1 = (sumStep (sumStep s d) c).1 := by
    show ((s.1 + c) % 251 + d) % 251 = ((s.1 + d) % 251 + c) % 251
    omega
  have hs := sum_second t _ _ hx
  have hy : ((sumStep (sumStep s c) d).2 - (sumStep (sumStep s d) c).2) % 251 = (c - d) % 251 := by
    show (((s.2 + (s.1 + c) % 251) % 251 + ((s.1 + c) % 251 + d) % 251) % 251 - ((s.2 + (s.1 + d) % 251) % 251 + ((s.1 + d) % 251 + c) % 251) % 251) % 251 = _
    omega
  rw [hy] at hs
  constructor
  · rintro ⟨_, h⟩
    rw [h, Int.sub_self] at hs
    exact hs.2.symm
  · intro h
    refine ⟨hs.1, ?_⟩
    have := hs.2.trans h
    have q1 := r1.2
    have q2 := r2.2
    omega
theorem set_mid (pre : List Int) (c x : Int) (t : List Int) : (pre ++ c :: t).set pre.length x = pre ++ x :: t := by
  induction pre with
  | nil => rfl
  | cons a pre ih => rw [List.cons_append, List.length_cons, List.set_cons_succ, ih, List.cons_append]
theorem set_mid2 (pre : List Int) (c d x : Int) (t : List Int) : (pre ++ c :: d :: t).set (pre.length + 1) x = pre ++ c :: x :: t := by
  induction pre with
  | nil => rfl
  | cons a pre ih => rw [List.cons_append, List.length_cons, List.set_cons_succ, ih, List.cons_append]
theorem split1 (l : List Int) (i : Int) (h0 : 0 ≤ i) (h1 : i < l.length) : ∃ pre t, l = pre ++ rd l i :: t ∧ pre.length = i.toNat :=
  ⟨l.take i.toNat, l.drop (i + 1).toNat, by rw [← rd_get l i h0 h1, List.take_append_drop], by rw [List.length_take]; omega⟩
theorem split2 (l : List Int) (i : Int) (h0 : 0 ≤ i) (h1 : i + 1 < l.length) : ∃ pre t, l = pre ++ rd l i :: rd l (i + 1) :: t ∧ pre.length = i.toNat :=
  ⟨l.take i.toNat, l.drop (i + 1 + 1).toNat, by rw [← rd_get l (i + 1) (by omega) h1, ← rd_get l i h0 (by omega), List.take_append_drop], by rw [List.length_take]; omega⟩
theorem tmod_zero (d : Int) : (Int.tmod d 251 == 0) = (d % 251 == 0) := by
  rw [Bool.eq_iff_iff, beq_iff_eq, beq_iff_eq, ← Int.dvd_iff_tmod_eq_zero, Int.dvd_iff_emod_eq_zero]
theorem bytes_set (l : List Int) (hB : Bytes l) (n : Nat) (x : Int) (hx : 0 ≤ x ∧ x ≤ 255) : Bytes (l.set n x) := fun z hz => by
  rcases List.mem_or_eq_of_mem_set hz with h | rfl
  · exact hB z h
  · exact hx
theorem bool_same {p q : Prop} [Decidable p] [Decidable q] (h : p ↔ q) : (decide p) = (decide q) := by
  by_cases hp : p
  · rw [decide_eq_true hp, decide_eq_true (h.mp hp)]
  · rw [decide_eq_false hp, decide_eq_false (fun hq => hp (h.mpr hq))]
end Go.Proofs.Ytfhhjoblfnbnkaa.P
namespace Go.Proofs.Ytfhhjoblfnbnkaa.Pure
set_option linter.unusedSimpArgs false
set_option linter.unusedVariables false
open Go.RowKit Go.Proofs.Ytfhhjoblfnbnkaa.P Go.Proofs.YtfhhjoblfnbnkaaW.PrintWords Go.Proofs.YtfhhjoblfnbnkaaW.PrintLast Go.Proofs.YtfhhjoblfnbnkaaW.PrintMore
theorem sums_good (l : List Int) (i x : Int) (hB : Bytes l) (hl : l.length ≤ 500) (h0 : 0 ≤ i) (h1 : i < l.length) (hx : 0 ≤ x ∧ x ≤ 255) : Ev (fun k => thalweglaw01_WireSums.j0 k l i x false) true := by
  have hb := rd_byte l hB i
  have hboth : Ev (fun k => thalwegref01_Both.f k [l]) l := by
    have := both_ev [l] (by simp) (by simp; omega)
    simpa using this
  refine Ev.step (f := fun k => _) (fun k => by simp only [thalweglaw01_WireSums.j0]; rfl) ?_
  simp only [Bool.false_eq_true, if_false]
  refine Ev.bind hboth ?_
  simp only [if_pos h0, if_pos h1]
  refine Ev.bind (wire_Sum_ev l hB (by omega)) ?_
  refine Ev.bind (wire_Sum_ev (l.set i.toNat x) (bytes_set l hB _ _ hx) (by rw [List.length_set]; omega)) ?_
  have e1 : (sumSpec l == sumSpec (l.set i.toNat x)) = ((x - rd l i) % 251 == 0) := by
    obtain ⟨pre, t, hs, hp⟩ := split1 l i h0 h1
    have := sum_one pre t (rd l i) x
    rw [Bool.eq_iff_iff, beq_iff_eq, beq_iff_eq, ← this, ← hp]
    generalize rd l i = c at hs
    subst hs
    rw [set_mid]
  rw [w64 (x := x) (by omega) (by omega), w64 (x := rd l i) (by omega) (by omega), w64 (x := x - rd l i) (by omega) (by omega), tmod_zero, e1]
  simp only [bne_self_eq_false, Bool.false_eq_true, if_false]
  rw [w64 (x := i + 1) (by omega) (by omega)]
  by_cases c1 : i + 1 = (l.length : Int)
  · simp only [if_pos c1]
    exact Ev.bind awake01 (Ev.now _)
  simp only [if_neg c1]
  refine Ev.bind hboth ?_
  have h2 : i + 1 < (l.length : Int) := by omega
  have hb' := rd_byte l hB (i + 1)
  simp only [if_pos (show 0 ≤ i + 1 by omega), if_pos h2, if_pos h1]
  refine Ev.bind awake01 ?_
  simp only [if_true]
  refine Ev.bind (wire_Sum_ev l hB (by omega)) ?_
  refine Ev.bind (wire_Sum_ev ((l.set i.toNat (rd l (i + 1))).set (i + 1).toNat (rd l i)) (bytes_set _ (bytes_set l hB _ _ hb') _ _ hb) (by rw [List.length_set, List.length_set]; omega)) ?_
  have e2 : (sumSpec l == sumSpec ((l.set i.toNat (rd l (i + 1))).set (i + 1).toNat (rd l i))) = ((rd l i - rd l (i + 1)) % 251 == 0) := by
    obtain ⟨pre, t, hs, hp⟩ := split2 l i h0 h2
    have := sum_two pre t (rd l i) (rd l (i + 1))
    rw [Bool.eq_iff_iff, beq_iff_eq, beq_iff_eq, ← this, show (i + 1).toNat = i.toNat + 1 by omega, ← hp]
    generalize rd l i = c at hs
    generalize rd l (i + 1) = d at hs
    subst hs
    rw [set_mid, set_mid2]
  rw [w64 (x := rd l (i + 1)) (by omega) (by omega), w64 (x := rd l i - rd l (i + 1)) (by omega) (by omega), tmod_zero, e2]
  simp only [beq_self_eq_true]
  exact Ev.now _
theorem WireSums : thalweglaw01_WireSums.Pure := by
  intro l a x _ hB _ hx
  have hB : Bytes l := bytes_of hB
  have hx := Go.bounds_u8 hx
  apply Ev.rounds
  have bad : Ev (fun k => thalweglaw01_WireSums.j0 k l a x true) true := by
    refine Ev.step (f := fun k => _) (fun k => by simp only [thalweglaw01_WireSums.j0]; rfl) ?_
    simp only [if_true]
    exact Ev.bind awake01 (Ev.now _)
  unfold thalweglaw01_WireSums.f
  by_cases c1 : (l.length : Int) > 500
  · simp only [if_pos c1]; exact bad
  simp only [if_neg c1]
  by_cases c2 : a < 0
  · simp only [if_pos c2]; exact bad
  simp only [if_neg c2]
  by_cases c3 : a ≥ (l.length : Int)
  · rw [decide_eq_true c3]; exact bad
  rw [decide_eq_false c3]
  exact sums_good l a x hB (by omega) (by omega) (by omega) hx
end Go.Proofs.Ytfhhjoblfnbnkaa.Pure
