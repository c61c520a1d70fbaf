/- GraphTells: the parts, the steps, the cycle and the way are the document's. -/
import Derived.Test.YtbejdbgcfgllhaaSGraphTells
import Derived.Test.YtbejdbgcfgllhaaGpt
import Derived.Test.YtbejdbgcfgllhaaGww
import Derived.Test.YtbejdbgcfgllhaaGrw
import Derived.Test.YtbejdbgcfgllhaaGaa
namespace Go.Proofs.Ytbejdbgcfgllhaa.Pure
set_option linter.unusedSimpArgs false
set_option linter.unusedVariables false
open Go.RowKit Go.Proofs.Ytbejdbgcfgllhaa.P Go.Proofs.YtbejdbgcfgllhaaW.PrintWords Go.Proofs.YtbejdbgcfgllhaaW.PrintLast
theorem tells_yes (n : Int) (l : List S36) (f : Int) (nx : List Int) (t : Int) : Ev (fun k => thalweglaw25_GraphTells.j0 k n l f nx t true) true := Ev.step (f := fun k => _) (fun k => by rw [thalweglaw25_GraphTells.j0, if_pos rfl]) (Ev.now _)
theorem both_parts (n : Int) (hn : n ≤ 20 ∨ n > 64) (l : List S36) (hl : l.length ≤ 40) : ∃ r : List Int × Int, r.1.length ≤ 1000 ∧ Ev (fun k => graph_Parts.f k n l) r ∧ Ev (fun k => thalwegref25_Parts.f k n l) r := by
  by_cases c : n < 0 ∨ n > 64
  · exact ⟨([], 1), by simp, parts_bad n l c, rparts_bad n l c⟩
  · obtain ⟨m, rfl⟩ : ∃ m : Nat, n = (m : Int) := ⟨n.toNat, by omega⟩
    obtain ⟨a, h1, h2, h3⟩ := parts_ev m (by omega) l (by omega)
    obtain ⟨b, g1, g2, g3⟩ := rparts_ev m (by omega) l (by omega)
    obtain rfl := POk.uniq h1 g1 h2 g2
    exact ⟨(a, 0), by simp only; omega, h3, g3⟩
theorem both_steps (n : Int) (hn : n ≤ 20 ∨ n > 64) (l : List S36) (hl : l.length ≤ 40) (s : Int) : ∃ r : List Int × Int, r.1.length ≤ 1000 ∧ Ev (fun k => graph_Steps.f k n l s) r ∧ Ev (fun k => thalwegref25_Steps.f k n l s) r := by
  by_cases c : n < 0 ∨ n > 64 ∨ s < 0 ∨ s ≥ n
  · exact ⟨([], 1), by simp, steps_bad n l s c, rsteps_bad n l s c⟩
  · obtain ⟨m, rfl⟩ : ∃ m : Nat, n = (m : Int) := ⟨n.toNat, by omega⟩
    obtain ⟨t, rfl⟩ : ∃ t : Nat, s = (t : Int) := ⟨s.toNat, by omega⟩
    obtain ⟨a, h1, h3⟩ := steps_ev m (by omega) l (by omega) t (by omega)
    obtain ⟨b, g1, g3⟩ := rsteps_ev m (by omega) l (by omega) t (by omega)
    obtain rfl := h1.uniq g1 (fun _ _ => Iff.rfl)
    have := h1.len
    exact ⟨(a, 0), by simp only; omega, h3, g3⟩
theorem both_cycle (nx : List Int) (hl : nx.length ≤ 60) : ∃ r : List Int × Bool, r.1.length ≤ 1000 ∧ Ev (fun k => graph_Cycle.f k nx) r ∧ Ev (fun k => thalwegref25_Cycle.f k nx) r := by
  obtain ⟨c, is, h1, h2⟩ := cyc_ev nx (by omega)
  obtain ⟨d, it, g1, g2⟩ := rcyc_ev nx hl
  obtain ⟨rfl, rfl⟩ := CycP.uniq h2 g2
  refine ⟨(c, is), ?_, h1, g1⟩
  rcases h2 with ⟨_, f, _, hw, _⟩ | ⟨_, rfl, _⟩
  · have := hw.pth.len hw.nd
    simp only; omega
  · simp
theorem both_way (nx : List Int) (hl : nx.length ≤ 60) (f t : Int) : ∃ r : List Int × Bool, r.1.length ≤ 1000 ∧ Ev (fun k => graph_Way.f k nx f t) r ∧ Ev (fun k => thalwegref25_Way.f k nx f t) r := by
  rcases way_ev nx (by omega) f t with ⟨h1, h2⟩ | ⟨h1, l, b, hw, h2⟩
  · rcases rway_ev nx hl f t with ⟨g1, g2⟩ | ⟨g1, g2⟩
    · exact ⟨_, by simp, h2, g2⟩
    · exact absurd g1 h1
  · rcases rway_ev nx hl f t with ⟨g1, g2⟩ | ⟨g1, g2⟩
    · exact absurd h1 g1
    · refine ⟨_, ?_, h2, g2 l b hw⟩
      have := hw.pth.len hw.nd
      split
      · simp only [List.length_take]; omega
      · simp
theorem GraphTells : thalweglaw25_GraphTells.Pure := by
  intro n l f nx t _ _ _ _ _ _
  have key : Ev (fun k => thalweglaw25_GraphTells.f k n l f nx t) true := by
    have go : (n ≤ 20 ∨ n > 64) → l.length ≤ 40 → nx.length ≤ 60 → Ev (fun k => thalweglaw25_GraphTells.j0 k n l f nx t false) true := by
      intro hn hl hx
      obtain ⟨a, a1, a2, a3⟩ := both_parts n hn l hl
      obtain ⟨b, b1, b2, b3⟩ := both_steps n hn l hl f
      obtain ⟨c, c1, c2, c3⟩ := both_cycle nx hx
      obtain ⟨d, d1, d2, d3⟩ := both_way nx hx f t
      refine Ev.step (f := fun k => _) (fun k => by rw [thalweglaw25_GraphTells.j0, if_neg Bool.false_ne_true]) ?_
      refine Ev.bind a2 (Ev.bind a3 (Ev.bind b2 (Ev.bind b3 (Ev.bind c2 (Ev.bind c3 (Ev.bind d2 (Ev.bind d3 (Ev.bind awake_ev ?_))))))))
      refine Ev.congr (f := fun m => _) (fun m => by rw [if_pos rfl]) (Ev.bind (ints_ev a.1 a1) ?_)
      refine Ev.congr (f := fun m => _) (fun m => by rw [if_pos rfl, if_pos rfl]) (Ev.bind (ints_ev b.1 b1) ?_)
      refine Ev.congr (f := fun m => _) (fun m => by rw [if_pos rfl, if_pos rfl]) (Ev.bind (ints_ev c.1 c1) ?_)
      refine Ev.congr (f := fun m => _) (fun m => by rw [if_pos rfl, if_pos (beq_self_eq_true _)]) (Ev.bind (ints_ev d.1 d1) ?_)
      exact Ev.congr (f := fun m => some true) (fun m => by rw [if_pos rfl, beq_self_eq_true]) (Ev.now _)
    unfold thalweglaw25_GraphTells.f
    by_cases c0 : n > 20
    · simp only [if_pos c0]
      by_cases c1 : n ≤ 64
      · simp only [if_pos c1]; exact tells_yes _ _ _ _ _
      · simp only [if_neg c1]
        by_cases c2 : (l.length : Int) > 40
        · simp only [if_pos c2]; exact tells_yes _ _ _ _ _
        · simp only [if_neg c2]
          by_cases c3 : (nx.length : Int) > 60
          · simp only [decide_eq_true c3]; exact tells_yes _ _ _ _ _
          · simp only [decide_eq_false c3]; exact go (by omega) (by omega) (by omega)
    · simp only [if_neg c0]
      by_cases c2 : (l.length : Int) > 40
      · simp only [if_pos c2]; exact tells_yes _ _ _ _ _
      · simp only [if_neg c2]
        by_cases c3 : (nx.length : Int) > 60
        · simp only [decide_eq_true c3]; exact tells_yes _ _ _ _ _
        · simp only [decide_eq_false c3]; exact go (by omega) (by omega) (by omega)
  obtain ⟨K, hK⟩ := key
  exact ⟨K, hK K (Nat.le_refl _)⟩
end Go.Proofs.Ytbejdbgcfgllhaa.Pure
