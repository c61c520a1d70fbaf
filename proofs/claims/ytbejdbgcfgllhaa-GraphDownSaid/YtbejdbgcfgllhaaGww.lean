/- Layer 25, plain: the program's walk, way and cycle are those of the paths. -/
import Derived.Test.YtbejdbgcfgllhaaGwk
import Derived.Test.YtbejdbgcfgllhaaP5
import Derived.Test.YtbejdbgcfgllhaaP6
namespace Go.Proofs.Ytbejdbgcfgllhaa.P
set_option linter.unusedSimpArgs false
set_option linter.unusedVariables false
open Go.RowKit Go.Proofs.YtbejdbgcfgllhaaW.PrintWords Go.Proofs.YtbejdbgcfgllhaaW.PrintLast Go.Proofs.YtbejdbgcfgllhaaW.PrintMore
theorem rdg (l : List Int) (i : Nat) (h : i < l.length) : rd l (i : Int) = l[i] := by
  unfold rd
  rw [Int.toNat_natCast, List.getD_eq_getElem?_getD, List.getElem?_eq_getElem h]
  rfl
def ixI (l : List Int) (x : Int) : Int := if x ∈ l then ((l.idxOf x : Nat) : Int) else -1
theorem ix_l0 (l : List Int) (x : Int) (hl : l.length ≤ 1000) : ∀ (d : Nat) (i : Nat), i + d = l.length → (∀ j (hj : j < l.length), j < i → l[j] ≠ x) → Ev (fun k => slices_Index_int_int.l0 k l x (l.length : Int) (i : Int)) (ixI l x) := by
  intro d
  induction d with
  | zero =>
    intro i hi hn
    refine Ev.from 1 fun k => ?_
    simp only [slices_Index_int_int.l0]
    rw [if_neg (by omega)]
    unfold ixI
    rw [if_neg (fun hm => by
      obtain ⟨j, hj, e⟩ := List.mem_iff_getElem.1 hm
      exact hn j hj (by omega) e)]
  | succ d ih =>
    intro i hi hn
    have h1 : i < l.length := by omega
    have hr : rd l (i : Int) = l[i] := by
      unfold rd
      rw [Int.toNat_natCast, List.getD_eq_getElem?_getD, List.getElem?_eq_getElem h1]
      rfl
    refine Ev.step (f := fun k => _) (fun k => by simp only [slices_Index_int_int.l0]; rfl) ?_
    simp only [if_pos (show (i : Int) < (l.length : Int) by omega), if_pos (show (0 : Int) ≤ (i : Int) by omega), hr]
    by_cases c : x = l[i]
    · simp only [if_pos c]
      have hm : x ∈ l := by rw [c]; exact List.getElem_mem h1
      have hx : l.idxOf x = i := by
        have h2 := List.idxOf_lt_length_of_mem hm
        have h3 := List.getElem_idxOf h2
        rcases Nat.lt_trichotomy (l.idxOf x) i with e | e | e
        · exact absurd h3 (hn _ h2 e)
        · exact e
        · have h4 : (l[i] == x) = false := List.not_of_lt_findIdx e
          rw [← c] at h4
          simp at h4
      unfold ixI
      rw [if_pos hm, hx]
      exact Ev.now _
    · simp only [if_neg c, w64 (x := (i : Int) + 1) (by omega) (by omega)]
      have := ih (i + 1) (by omega) (fun j hj hji => by
        rcases Nat.lt_or_ge j i with e | e
        · exact hn j hj e
        · have : j = i := by omega
          subst this
          exact fun e2 => c e2.symm)
      simpa using this
theorem ix_ev (l : List Int) (x : Int) (hl : l.length ≤ 1000) : Ev (fun k => slices_Index_int_int.f k l x) (ixI l x) := ix_l0 l x hl l.length 0 (by omega) (fun j hj h => by omega)
theorem ixI_ge (l : List Int) (x : Int) : decide (ixI l x ≥ 0) = decide (x ∈ l) := by
  unfold ixI
  by_cases c : x ∈ l
  · rw [if_pos c, decide_eq_true c]; exact decide_eq_true (by omega)
  · rw [if_neg c, decide_eq_false c]; rfl
theorem has_evI (l : List Int) (x : Int) (hl : l.length ≤ 1000) : Ev (fun k => slices_Contains_int_int.f k l x) (decide (x ∈ l)) := by
  unfold slices_Contains_int_int.f
  refine Ev.bind (ix_ev l x hl) ?_
  rw [ixI_ge]
  exact Ev.now _
def finW (next : List Int) (r : List Int × Int) : List Int × Int := (r.1, if r.2 ≥ (next.length : Int) then -1 else r.2)
theorem walk_l0 (next : List Int) (hl : next.length ≤ 100) (f : Int) : ∀ (n : Nat) (out : List Int) (a : Int), Pth next f out a → out.Nodup → next.length < out.length + n → Ev (fun k => graph_walk.l0 k next out a) (finW next (wlk next n out a)) := by
  intro n
  induction n with
  | zero =>
    intro out a h hn hk
    have := h.len hn
    omega
  | succ n ih =>
    intro out a h hn hk
    have hlen := h.len hn
    unfold wlk
    refine Ev.step (f := fun k => _) (fun k => by simp only [graph_walk.l0]; rfl) ?_
    by_cases c0 : a ≥ 0
    · simp only [if_pos c0]
      refine Ev.step (f := fun k => _) (fun k => by simp only [graph_walk.j1]; rfl) ?_
      by_cases c1 : a < (next.length : Int)
      · simp only [if_pos (show 0 ≤ a ∧ a < (next.length : Int) from ⟨c0, c1⟩), decide_eq_true c1, if_true]
        refine Ev.bind (has_evI out a (by omega)) ?_
        by_cases c2 : a ∈ out
        · simp only [if_pos c2, decide_eq_true c2, if_true]
          unfold finW
          simp only [if_neg (show ¬ a ≥ (next.length : Int) by omega)]
          exact Ev.now _
        · simp only [if_neg c2, decide_eq_false c2, Bool.false_eq_true, if_false, if_pos (show out.length < 17592186044416 by omega), if_pos (show 0 ≤ a from c0), if_pos c1]
          refine ih _ _ (h.snoc ⟨c0, c1⟩) ?_ (by rw [List.length_append]; simp; omega)
          rw [List.nodup_append]
          exact ⟨hn, by simp, fun x hx y hy e => by rw [List.mem_singleton.1 hy] at e; exact c2 (e ▸ hx)⟩
      · simp only [if_neg (show ¬ (0 ≤ a ∧ a < (next.length : Int)) from fun e => c1 e.2), decide_eq_false c1, Bool.false_eq_true, if_false]
        unfold finW
        simp only [if_pos (show a ≥ (next.length : Int) by omega)]
        exact Ev.now _
    · simp only [if_neg c0]
      refine Ev.step (f := fun k => _) (fun k => by simp only [graph_walk.j1]; rfl) ?_
      simp only [if_neg (show ¬ (0 ≤ a ∧ a < (next.length : Int)) from fun e => c0 e.1), Bool.false_eq_true, if_false]
      unfold finW
      simp only [if_neg (show ¬ a ≥ (next.length : Int) by omega)]
      exact Ev.now _
/-- a walk from one: its row, its end -/
theorem walk_ev (next : List Int) (hl : next.length ≤ 100) (f : Int) : ∃ l b, Wlk next f l b ∧ Ev (fun k => graph_walk.f k next f) (l, if b ≥ (next.length : Int) then -1 else b) :=
  ⟨_, _, wlk_ok (next.length + 1) [] f (.nil f) List.nodup_nil (by simp), walk_l0 next hl f (next.length + 1) [] f (.nil f) List.nodup_nil (by simp)⟩
theorem way_ev (next : List Int) (hl : next.length ≤ 100) (f t : Int) :
    (¬ InR next f ∧ Ev (fun k => graph_Way.f k next f t) ([], false)) ∨ (InR next f ∧ ∃ l b, Wlk next f l b ∧ Ev (fun k => graph_Way.f k next f t) (if t ∈ l then (l.take (l.idxOf t + 1), true) else ([], false))) := by
  unfold graph_Way.f
  by_cases c0 : f < 0
  · refine .inl ⟨fun e => by have := e.1; omega, ?_⟩
    simp only [if_pos c0]
    refine Ev.step (f := fun k => _) (fun k => by simp only [graph_Way.j0]; rfl) ?_
    simp only [if_true]
    exact Ev.now _
  · simp only [if_neg c0]
    by_cases c1 : f ≥ (next.length : Int)
    · refine .inl ⟨fun e => by have := e.2; omega, ?_⟩
      refine Ev.step (f := fun k => _) (fun k => by simp only [graph_Way.j0]; rfl) ?_
      simp only [decide_eq_true c1, if_true]
      exact Ev.now _
    · have hf : InR next f := ⟨by omega, by omega⟩
      obtain ⟨l, b, hw, he⟩ := walk_ev next hl f
      have hlen := hw.pth.len hw.nd
      refine .inr ⟨hf, l, b, hw, ?_⟩
      refine Ev.step (f := fun k => _) (fun k => by simp only [graph_Way.j0]; rfl) ?_
      simp only [decide_eq_false c1, Bool.false_eq_true, if_false]
      refine Ev.bind he ?_
      refine Ev.bind (ix_ev l t (by omega)) ?_
      unfold ixI
      by_cases c2 : t ∈ l
      · have hi := List.idxOf_lt_length_of_mem c2
        simp only [if_pos c2, if_neg (show ¬ ((l.idxOf t : Nat) : Int) < 0 by omega), w64 (x := ((l.idxOf t : Nat) : Int) + 1) (by omega) (by omega), if_pos (show (0 : Int) ≤ ((l.idxOf t : Nat) : Int) + 1 by omega), if_pos (show ((l.idxOf t : Nat) : Int) + 1 ≤ (l.length : Int) by omega)]
        exact Ev.now _
      · simp only [if_neg c2]
        rw [if_pos (by omega)]
        exact Ev.now _
theorem cyc_ev (next : List Int) (hl : next.length ≤ 100) : ∃ c is, Ev (fun k => graph_Cycle.f k next) (c, is) ∧ ((is = true ∧ ∃ f, InR next f ∧ Wlk next f c f ∧ ∀ g : Int, 0 ≤ g → g < f → ∀ m, ¬ Wlk next g m g) ∨ (is = false ∧ c = [] ∧ ∀ (g : Int) m, InR next g → ¬ Wlk next g m g)) := by
  have key : ∀ (d : Nat) (i : Nat), i + d = next.length → (∀ g : Int, 0 ≤ g → g < (i : Int) → ∀ m, ¬ Wlk next g m g) → ∃ c is, Ev (fun k => graph_Cycle.l0 k next (next.length : Int) (i : Int)) (c, is) ∧ ((is = true ∧ ∃ f, InR next f ∧ Wlk next f c f ∧ ∀ g : Int, 0 ≤ g → g < f → ∀ m, ¬ Wlk next g m g) ∨ (is = false ∧ c = [] ∧ ∀ (g : Int) m, InR next g → ¬ Wlk next g m g)) := by
    intro d
    induction d with
    | zero =>
      intro i hi hn
      refine ⟨[], false, Ev.from 1 fun k => ?_, .inr ⟨rfl, rfl, fun g m hg => hn g hg.1 (by have := hg.2; omega) m⟩⟩
      simp only [graph_Cycle.l0]
      rw [if_neg (by omega)]
    | succ d ih =>
      intro i hi hn
      have h1 : (i : Int) < (next.length : Int) := by omega
      obtain ⟨l, b, hw, he⟩ := walk_ev next hl (i : Int)
      have hf : InR next (i : Int) := ⟨by omega, h1⟩
      by_cases c : b = (i : Int)
      · refine ⟨l, true, ?_, .inl ⟨rfl, i, hf, c ▸ hw, hn⟩⟩
        refine Ev.step (f := fun k => _) (fun k => by simp only [graph_Cycle.l0]; rfl) ?_
        simp only [if_pos h1]
        refine Ev.bind he ?_
        simp only [if_neg (show ¬ b ≥ (next.length : Int) by omega), if_pos c]
        exact Ev.now _
      · obtain ⟨c2, is, he2, hp⟩ := ih (i + 1) (by omega) (fun g h0 h2 m hm => by
          rcases Int.lt_or_le g (i : Int) with e | e
          · exact hn g h0 e m hm
          · have : g = (i : Int) := by omega
            subst this
            exact c (uniq_of_back hw hm))
        refine ⟨c2, is, ?_, hp⟩
        refine Ev.step (f := fun k => _) (fun k => by simp only [graph_Cycle.l0]; rfl) ?_
        simp only [if_pos h1]
        refine Ev.bind he ?_
        have hne : ¬ (if b ≥ (next.length : Int) then (-1 : Int) else b) = (i : Int) := by
          split
          · omega
          · exact c
        simp only [if_neg hne, w64 (x := (i : Int) + 1) (by omega) (by omega)]
        simpa using he2
  obtain ⟨c, is, he, hp⟩ := key next.length 0 (by omega) (fun g h0 h1 => by omega)
  exact ⟨c, is, he, hp⟩
end Go.Proofs.Ytbejdbgcfgllhaa.P
