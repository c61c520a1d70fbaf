/- GraphWays: the paths, the cycle and the one end, as the law asks for them. -/
import Derived.Test.YtbejdbgcfgllhaaP11
import Derived.Test.YtbejdbgcfgllhaaGww
import Derived.Test.YtbejdbgcfgllhaaGaa
namespace Go.Proofs.Ytbejdbgcfgllhaa.Pure
set_option linter.unusedSimpArgs false
set_option linter.unusedVariables false
open Go.RowKit Go.Proofs.Ytbejdbgcfgllhaa.P Go.Proofs.YtbejdbgcfgllhaaW.PrintWords Go.Proofs.YtbejdbgcfgllhaaW.PrintLast
theorem l2_ev (next : List Int) (hl : next.length ≤ 60) (f e : Int) (l : List Int) (b : Int) (hf : InR next f) (hw : Wlk next f l b) (he : InR next e) (hq : ∀ k, (k ∈ l ∧ ¬ InR next (rd next k)) ↔ k = e) : ∀ (d i : Nat), i + d = next.length → Ev (fun k => thalweglaw25_GraphWays.l2 k next f (if e < (i : Int) then 1 else 0) (i : Int)) true := by
  intro d
  induction d with
  | zero =>
    intro i hi
    refine Ev.step (f := fun k => _) (fun k => by simp only [thalweglaw25_GraphWays.l2]; rfl) ?_
    simp only [if_neg (show ¬ (i : Int) < (next.length : Int) by omega), if_pos (show e < (i : Int) by have := he.2; omega)]
    exact Ev.bind awake_ev (by simp only [if_true]; exact Ev.now _)
  | succ d ih =>
    intro i hi
    have h1 : (i : Int) < (next.length : Int) := by omega
    have hn := ih (i + 1) (by omega)
    have hwi : wrap64 ((i : Int) + 1) = ((i + 1 : Nat) : Int) := by rw [w64 (by omega) (by omega)]; simp
    refine Ev.step (f := fun k => _) (fun k => by simp only [thalweglaw25_GraphWays.l2]; rfl) ?_
    simp only [if_pos h1]
    rcases way_ev next (by omega) f (i : Int) with ⟨hx, _⟩ | ⟨_, l2, b2, hw2, hev⟩
    · exact absurd hf hx
    · obtain ⟨rfl, rfl⟩ := hw.uniq hw2
      refine Ev.bind hev ?_
      have hcount : ¬ (i : Int) = e → (if e < ((i + 1 : Nat) : Int) then (1 : Int) else 0) = (if e < (i : Int) then 1 else 0) := fun hne => by
        by_cases c : e < (i : Int)
        · rw [if_pos c, if_pos (by omega)]
        · rw [if_neg c, if_neg (by omega)]
      by_cases cm : (i : Int) ∈ l
      · simp only [if_pos cm, if_true, if_pos (show (0 : Int) ≤ (i : Int) by omega)]
        by_cases cr : InR next (rd next (i : Int))
        · have hne : ¬ (i : Int) = e := fun e2 => ((hq _).2 e2).2 cr
          rw [hcount hne] at hn
          simp only [if_neg (show ¬ rd next (i : Int) < 0 by have := cr.1; omega), if_neg (show ¬ rd next (i : Int) ≥ (next.length : Int) by have := cr.2; omega), hwi]
          exact hn
        · have hie : (i : Int) = e := (hq _).1 ⟨cm, cr⟩
          have hc : (if e < ((i + 1 : Nat) : Int) then (1 : Int) else 0) = 1 := if_pos (by omega)
          rw [hc] at hn
          have hz : (if e < (i : Int) then (1 : Int) else 0) = 0 := if_neg (by omega)
          rw [hz]
          have hwo : wrap64 ((0 : Int) + 1) = 1 := (w64 (x := (0 : Int) + 1) (by omega) (by omega)).trans (by decide)
          by_cases c0 : rd next (i : Int) < 0
          · simp only [if_pos c0, hwi, hwo]
            exact hn
          · have c1 : rd next (i : Int) ≥ (next.length : Int) := by
              rcases Int.lt_or_le (rd next (i : Int)) (next.length : Int) with e2 | e2
              · exact absurd ⟨by omega, e2⟩ cr
              · exact e2
            simp only [if_neg c0, if_pos c1, hwi, hwo]
            exact hn
      · have hne : ¬ (i : Int) = e := fun e2 => cm ((hq _).2 e2).1
        rw [hcount hne] at hn
        simp only [if_neg cm, Bool.false_eq_true, if_false, hwi]
        exact hn
theorem j3_true (next : List Int) (f : Int) (c : List Int) (is : Bool) (h : is = decide ((c.length : Int) > 0)) : Ev (fun k => thalweglaw25_GraphWays.j3 k next f c is true) true := by
  refine Ev.step (f := fun k => _) (fun k => by simp only [thalweglaw25_GraphWays.j3]; rfl) ?_
  simp only [if_true, h, beq_self_eq_true]
  exact Ev.bind awake_ev (by simp only [if_true]; exact Ev.now _)
theorem l1_ev (next : List Int) (hl : next.length ≤ 60) (from_ f : Int) (c : List Int) (hw : Wlk next f c f) (hf : InR next f) (hm : ∀ x ∈ c, f ≤ x) : ∀ (d i : Nat), i + d = c.length → Ev (fun k => thalweglaw25_GraphWays.l1 k next from_ c true (i : Int)) true := by
  have hlen := hw.pth.len hw.nd
  have hpos : 0 < c.length := List.length_pos_iff.2 (hw.ne hf)
  intro d
  induction d with
  | zero =>
    intro i hi
    refine Ev.step (f := fun k => _) (fun k => by simp only [thalweglaw25_GraphWays.l1]; rfl) ?_
    simp only [if_neg (show ¬ (i : Int) < (c.length : Int) by omega), if_true]
    exact j3_true next from_ c true (by rw [decide_eq_true (show (c.length : Int) > 0 by omega)])
  | succ d ih =>
    intro i hi
    have hi1 : i < c.length := by omega
    have hn := ih (i + 1) (by omega)
    obtain ⟨hr, hx⟩ := cyc_next hw i hi1
    have hwi : wrap64 ((i : Int) + 1) = ((i + 1 : Nat) : Int) := by rw [w64 (by omega) (by omega)]; simp
    have hmod : Int.tmod ((i + 1 : Nat) : Int) (c.length : Int) = (((i + 1) % c.length : Nat) : Int) := by
      rw [Int.tmod_eq_emod_of_nonneg (by omega)]
      rfl
    have hml : (i + 1) % c.length < c.length := Nat.mod_lt _ hpos
    have h0 : rd c 0 = f := by
      have := rdg c 0 hpos
      rw [show ((0 : Nat) : Int) = 0 from rfl] at this
      rw [this]
      exact hw.head hpos
    refine Ev.step (f := fun k => _) (fun k => by simp only [thalweglaw25_GraphWays.l1]; rfl) ?_
    simp only [if_pos (show (i : Int) < (c.length : Int) by omega), if_pos (show (0 : Int) ≤ (i : Int) by omega), rdg c i hi1, if_neg (show ¬ c[i] < 0 by have := hr.1; omega), if_neg (show ¬ c[i] ≥ (next.length : Int) by have := hr.2; omega), if_pos (show 0 ≤ c[i] from hr.1), if_pos (show c[i] < (next.length : Int) from hr.2), if_neg (show ¬ (c.length : Int) = 0 by omega), hwi, hmod, if_pos (show (0 : Int) ≤ (((i + 1) % c.length : Nat) : Int) by omega), if_pos (show (((i + 1) % c.length : Nat) : Int) < (c.length : Int) by omega), rdg c _ hml, if_pos hx, if_pos (show (0 : Int) < (c.length : Int) by omega), h0, if_neg (show ¬ c[i] < f by have := hm _ (List.getElem_mem hi1); omega)]
    exact hn
theorem tail_ev (next : List Int) (hl : next.length ≤ 60) (f : Int) : Ev (fun k => (graph_Cycle.f k next).bind fun bt133 => (thalweglaw25_GraphWays.l1 k next f bt133.1 bt133.2 0)) true := by
  obtain ⟨c, is, he, hp⟩ := cyc_ev next (by omega)
  refine Ev.bind he ?_
  rcases hp with ⟨rfl, g, hg, hw, hmin⟩ | ⟨rfl, rfl, hno⟩
  · exact l1_ev next hl f g c hw hg (cyc_least hw hmin) c.length 0 (by omega)
  · refine Ev.step (f := fun k => _) (fun k => by simp only [thalweglaw25_GraphWays.l1]; rfl) ?_
    simp only [List.length_nil, if_neg (show ¬ (0 : Int) < ((0 : Nat) : Int) by omega), Bool.false_eq_true, if_false]
    by_cases c0 : f < 0
    · simp only [if_pos c0]
      exact j3_true next f [] false (by decide)
    · simp only [if_neg c0]
      by_cases c1 : f ≥ (next.length : Int)
      · simp only [decide_eq_true c1]
        exact j3_true next f [] false (by decide)
      · simp only [decide_eq_false c1]
        have hf : InR next f := ⟨by omega, by omega⟩
        refine Ev.step (f := fun k => _) (fun k => by simp only [thalweglaw25_GraphWays.j3]; rfl) ?_
        simp only [Bool.false_eq_true, if_false]
        obtain ⟨l, b, hw, _⟩ := walk_ev next (by omega) f
        obtain ⟨e, he2, hq⟩ := ends_one hw hf hno
        have := l2_ev next hl f e l b hf hw he2 hq next.length 0 (by omega)
        rw [if_neg (by have := he2.1; omega)] at this
        exact this
theorem l0_ev (next : List Int) (hl : next.length ≤ 60) (f g b : Int) (l : List Int) (hw : Wlk next g l b) (m : Nat) (hm : m ≤ l.length) : ∀ (d i : Nat), i + d = m → Ev (fun k => thalweglaw25_GraphWays.l0 k next f (l.take m) (i : Int)) true := by
  have hlen := hw.pth.len hw.nd
  have htl : (l.take m).length = m := by rw [List.length_take]; omega
  intro d
  induction d with
  | zero =>
    intro i hi
    refine Ev.step (f := fun k => _) (fun k => by simp only [thalweglaw25_GraphWays.l0]; rfl) ?_
    simp only [htl, w64 (x := (i : Int) + 1) (by omega) (by omega), if_neg (show ¬ (i : Int) + 1 < (m : Int) by omega)]
    exact tail_ev next hl f
  | succ d ih =>
    intro i hi
    have hn := ih (i + 1) (by omega)
    refine Ev.step (f := fun k => _) (fun k => by simp only [thalweglaw25_GraphWays.l0]; rfl) ?_
    have hwi : wrap64 ((i : Int) + 1) = ((i + 1 : Nat) : Int) := by rw [w64 (by omega) (by omega)]; simp
    by_cases c : i + 1 < m
    · have hi1 : i < (l.take m).length := by omega
      have hi2 : i + 1 < (l.take m).length := by omega
      obtain ⟨hr, hx⟩ := way_ok hw i (by omega)
      have g1 : (l.take m)[i] = l[i] := List.getElem_take ..
      have g2 : (l.take m)[i + 1] = l[i + 1] := List.getElem_take ..
      simp only [htl, hwi, if_pos (show ((i + 1 : Nat) : Int) < (m : Int) by omega), if_pos (show (0 : Int) ≤ (i : Int) by omega), if_pos (show (i : Int) < (m : Int) by omega), rdg _ i hi1, rdg _ (i + 1) hi2, g1, g2, if_neg (show ¬ l[i] < 0 by have := hr.1; omega), if_neg (show ¬ l[i] ≥ (next.length : Int) by have := hr.2; omega), if_pos (show 0 ≤ l[i] from hr.1), if_pos (show l[i] < (next.length : Int) from hr.2), if_pos (show (0 : Int) ≤ ((i + 1 : Nat) : Int) by omega), if_pos hx]
      exact hn
    · simp only [htl, hwi, if_neg (show ¬ ((i + 1 : Nat) : Int) < (m : Int) by omega)]
      exact tail_ev next hl f
theorem none_ev (next : List Int) (hl : next.length ≤ 60) (f : Int) : Ev (fun k => thalweglaw25_GraphWays.j0 k next f [] false) true := by
  refine Ev.step (f := fun k => _) (fun k => by simp only [thalweglaw25_GraphWays.j0]; rfl) ?_
  simp only [Bool.false_eq_true, if_false]
  refine Ev.step (f := fun k => _) (fun k => by simp only [thalweglaw25_GraphWays.l0]; rfl) ?_
  simp only [List.length_nil, w64 (x := (0 : Int) + 1) (by omega) (by omega), if_neg (show ¬ (0 : Int) + 1 < ((0 : Nat) : Int) by omega)]
  exact tail_ev next hl f
theorem GraphWays : thalweglaw25_GraphWays.Pure := by
  intro next f t _ _ _ _ _
  have key : Ev (fun k => thalweglaw25_GraphWays.f k next f t) true := by
    unfold thalweglaw25_GraphWays.f
    by_cases c : (next.length : Int) > 60
    · simp only [if_pos c]
      exact Ev.now _
    · simp only [if_neg c]
      have hl : next.length ≤ 60 := by omega
      rcases way_ev next (by omega) f t with ⟨hx, he⟩ | ⟨hf, l, b, hw, he⟩
      · refine Ev.bind he ?_
        exact none_ev next hl f
      · refine Ev.bind he ?_
        by_cases cm : t ∈ l
        · have hi := List.idxOf_lt_length_of_mem cm
          have hlen := hw.pth.len hw.nd
          have htl : (l.take (l.idxOf t + 1)).length = l.idxOf t + 1 := by rw [List.length_take]; omega
          have g0 : rd (l.take (l.idxOf t + 1)) 0 = f := by
            have := rdg (l.take (l.idxOf t + 1)) 0 (by omega)
            rw [show ((0 : Nat) : Int) = 0 from rfl] at this
            rw [this, List.getElem_take]
            exact hw.head (by omega)
          have g1 : rd (l.take (l.idxOf t + 1)) ((l.idxOf t : Nat) : Int) = t := by
            rw [rdg _ _ (by omega), List.getElem_take]
            exact List.getElem_idxOf hi
          simp only [if_pos cm, htl, decide_eq_true (show ((l.idxOf t + 1 : Nat) : Int) > 0 by omega), bne_self_eq_false, Bool.false_eq_true, if_false, if_true, if_pos (show (0 : Int) < ((l.idxOf t + 1 : Nat) : Int) by omega), g0,
            show wrap64 (((l.idxOf t + 1 : Nat) : Int) - 1) = ((l.idxOf t : Nat) : Int) by rw [w64 (by omega) (by omega)]; omega, if_pos (show (0 : Int) ≤ ((l.idxOf t : Nat) : Int) by omega), if_pos (show ((l.idxOf t : Nat) : Int) < ((l.idxOf t + 1 : Nat) : Int) by omega), g1, decide_eq_false (show ¬ ((l.idxOf t + 1 : Nat) : Int) > (next.length : Int) by omega)]
          refine Ev.step (f := fun k => _) (fun k => by simp only [thalweglaw25_GraphWays.j0]; rfl) ?_
          simp only [Bool.false_eq_true, if_false]
          exact l0_ev next hl f f b l hw (l.idxOf t + 1) (by omega) (l.idxOf t + 1) 0 (by omega)
        · simp only [if_neg cm]
          exact none_ev next hl f
  obtain ⟨K, hK⟩ := key
  exact ⟨K, hK K (Nat.le_refl _)⟩
end Go.Proofs.Ytbejdbgcfgllhaa.Pure
