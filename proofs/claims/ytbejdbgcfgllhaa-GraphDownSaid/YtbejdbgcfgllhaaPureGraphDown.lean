/- GraphDown: next ones that are fresh have no cycle. -/
import Derived.Test.YtbejdbgcfgllhaaSGraphDown
import Derived.Test.YtbejdbgcfgllhaaGdn
import Derived.Test.YtbejdbgcfgllhaaGaa
namespace Go.Proofs.Ytbejdbgcfgllhaa.Pure
set_option linter.unusedSimpArgs false
set_option linter.unusedVariables false
open Go.RowKit Go.Proofs.Ytbejdbgcfgllhaa.P Go.Proofs.YtbejdbgcfgllhaaW.PrintWords Go.Proofs.YtbejdbgcfgllhaaW.PrintLast
theorem rdsn (l : List Int) (b v : Nat) (x : Int) (h : b < l.length) : rd (l.set b x) (v : Int) = if v = b then x else rd l (v : Int) := by
  unfold rd
  rw [Int.toNat_natCast, List.getD_eq_getElem?_getD, List.getD_eq_getElem?_getD, List.getElem?_set]
  by_cases c : b = v
  · subst c
    rw [if_pos rfl, if_pos h, if_pos rfl]
    rfl
  · rw [if_neg c, if_neg (fun e => c e.symm)]
/-- As far as `m` each next one is none, or down. -/
def NI (own : List S45) (m : Nat) (nx : List Int) : Prop := nx.length = own.length ∧ ∀ v : Nat, v < m → rd nx (v : Int) = -1 ∨ Dn own (v : Int) (rd nx (v : Int))
theorem NI.put {own : List S45} {m : Nat} {nx : List Int} (h : NI own (m + 1) nx) (hm : m < own.length) {x : Int} (hx : x = -1 ∨ Dn own (m : Int) x) : NI own (m + 1) (nx.set m x) := by
  refine ⟨by rw [List.length_set, h.1], fun v hv => ?_⟩
  rw [rdsn _ _ _ _ (by rw [h.1]; exact hm)]
  by_cases c : v = m
  · rw [if_pos c, c]; exact hx
  · rw [if_neg c]; exact h.2 v hv
theorem NI.start {own : List S45} {m : Nat} {nx : List Int} (h : NI own m nx) (hm : m < own.length) : NI own (m + 1) (nx.set m (-1)) := by
  refine ⟨by rw [List.length_set, h.1], fun v hv => ?_⟩
  rw [rdsn _ _ _ _ (by rw [h.1]; exact hm)]
  by_cases c : v = m
  · rw [if_pos c]; exact Or.inl rfl
  · rw [if_neg c]; exact h.2 v (by omega)
theorem rdT_mem (l : List S36) (i : Nat) (h : i < l.length) : rd_T36 l (i : Int) ∈ l := by
  unfold rd_T36
  rw [Int.toNat_natCast, List.getD_eq_getElem?_getD, List.getElem?_eq_getElem h]
  exact List.getElem_mem h
section
variable (own : List S45) (ho : own.length ≤ 30) (wh : List Int) (l8 : List S36) (hl8 : l8.length ≤ 900) (hdn : AllDn own l8)
include ho hl8 hdn in
theorem down_l2 (i : Nat) (hi : i < own.length) (r : Bool) (hr : ∀ nx, NI own (i + 1) nx → Ev (fun m => thalweglaw25_GraphDown.l1 m own wh l8 nx ((i + 1 : Nat) : Int)) r) : ∀ (d k : Nat) (s : Nat) (nx : List Int), k + d = l8.length → s ≤ k → NI own (i + 1) nx →
    Ev (fun m => thalweglaw25_GraphDown.l2 m own wh l8 nx (i : Int) (s : Int) (k : Int)) r := by
  intro d
  induction d with
  | zero =>
    intro k s nx hk hs h
    exact Ev.step (f := fun k => _) (fun m => by rw [thalweglaw25_GraphDown.l2, if_neg (by omega), wq (by omega)]) (hr nx h)
  | succ d ih =>
    intro k s nx hk hs h
    have hp := hdn _ (rdT_mem l8 k (by omega))
    have hlen := h.1
    generalize hq : rd_T36 l8 (k : Int) = p at hp
    by_cases c : p.f0 = (i : Int)
    · rw [c] at hp
      obtain ⟨_, _, p1, p2, p3⟩ := hp
      have hD : Dn own (i : Int) p.f1 := ⟨by omega, by omega, p1, p2, p3⟩
      have hev := lessS_ev (rd_T45 own p.f1) (rd_T45 own (i : Int))
      rw [p3] at hev
      refine Ev.step (f := fun k => _) (fun m => by rw [thalweglaw25_GraphDown.l2, if_pos (by omega), if_pos (by omega), hq, if_pos c, if_neg (by omega), if_neg (by omega), if_pos p1, if_pos p2, if_pos (by omega), if_pos (by omega)]) ?_
      refine Ev.bind hev ?_
      have hput := ih (k + 1) (s + 1) (nx.set i p.f1) (by omega) (by omega) (h.put hi (Or.inr hD))
      have hstay := ih (k + 1) (s + 1) nx (by omega) (by omega) h
      by_cases c0 : (s : Int) = 0
      · exact Ev.step (f := fun k => _) (fun m => by rw [thalweglaw25_GraphDown.j4, Bool.not_true, if_neg Bool.false_ne_true, if_pos c0, if_pos (by omega), if_pos (by omega), if_pos (by omega), if_pos (by omega), hq, wq (by omega), wq (by omega), Int.toNat_natCast]) hput
      · by_cases c1 : (i : Int) < (wh.length : Int)
        · by_cases c2 : (s : Int) = rd wh (i : Int)
          · exact Ev.step (f := fun k => _) (fun m => by rw [thalweglaw25_GraphDown.j4, Bool.not_true, if_neg Bool.false_ne_true, if_neg c0, if_pos c1, if_pos (by omega), if_pos c2, if_pos (by omega), if_pos (by omega), if_pos (by omega), hq, wq (by omega), wq (by omega), Int.toNat_natCast]) hput
          · exact Ev.step (f := fun k => _) (fun m => by rw [thalweglaw25_GraphDown.j4, Bool.not_true, if_neg Bool.false_ne_true, if_neg c0, if_pos c1, if_pos (by omega), if_neg c2, wq (by omega), wq (by omega)]) hstay
        · exact Ev.step (f := fun k => _) (fun m => by rw [thalweglaw25_GraphDown.j4, Bool.not_true, if_neg Bool.false_ne_true, if_neg c0, if_neg c1, wq (by omega), wq (by omega)]) hstay
    · exact Ev.step (f := fun k => _) (fun m => by rw [thalweglaw25_GraphDown.l2, if_pos (by omega), if_pos (by omega), hq, if_neg c, wq (by omega)]) (ih (k + 1) s nx (by omega) (by omega) h)
include ho hl8 hdn in
theorem down_l1 : ∀ (d i : Nat) (nx : List Int), i + d = own.length → NI own i nx → Ev (fun m => thalweglaw25_GraphDown.l1 m own wh l8 nx (i : Int)) true := by
  intro d
  induction d with
  | zero =>
    intro i nx hi h
    have e : i = own.length := by omega
    subst e
    have hlen := h.1
    have hd : ∀ a : Int, InR nx a → InR nx (rd nx a) → Dn own a (rd nx a) := fun a ha hb => by
      obtain ⟨v, rfl⟩ : ∃ v : Nat, a = (v : Int) := ⟨a.toNat, by have := ha.1; omega⟩
      rcases h.2 v (by have := ha.2; omega) with e | e
      · have := hb.1; omega
      · exact e
    obtain ⟨c, is, he, hp⟩ := cyc_ev nx (by omega)
    refine Ev.step (f := fun k => _) (fun m => by rw [thalweglaw25_GraphDown.l1, if_neg (by omega)]) ?_
    refine Ev.bind he (Ev.bind awake_ev ?_)
    rcases hp with ⟨rfl, f, hf, hw, _⟩ | ⟨rfl, rfl, _⟩
    · exact absurd hw (dn_nocyc hlen hd f c hf)
    · exact Ev.congr (f := fun m => some true) (fun m => by rw [if_pos rfl]; rfl) (Ev.now _)
  | succ d ih =>
    intro i nx hi h
    have hlen := h.1
    exact Ev.step (f := fun k => _) (fun m => by rw [thalweglaw25_GraphDown.l1, if_pos (by omega), if_pos (by omega), if_pos (by omega), Int.toNat_natCast]; rfl) (down_l2 own ho wh l8 hl8 hdn i (by omega) true (fun nx' h' => ih (i + 1) nx' (by omega) h') l8.length 0 0 _ (by omega) (Nat.le_refl _) (h.start (by omega)))
end
theorem down_l0 (own : List S45) (ho : own.length ≤ 30) (views : List (List S55)) (hw : views.length ≤ 30) (wh : List Int) : ∀ (d i : Nat), i + d = views.length → (∀ j : Nat, j < i → (rd_L8 views (j : Int)).length ≤ 30) → Ev (fun m => thalweglaw25_GraphDown.l0 m own views wh (i : Int)) true := by
  intro d
  induction d with
  | zero =>
    intro i hi h
    obtain ⟨l8, h1, h2, h3⟩ := fresh_ev own views ho hw (fun j hj => h j (by omega))
    refine Ev.step (f := fun k => _) (fun m => by rw [thalweglaw25_GraphDown.l0, if_neg (by omega)]) ?_
    refine Ev.bind h3 ?_
    exact Ev.congr (f := fun m => _) (fun m => by rw [if_pos (by omega), if_pos (by omega)]; rfl) (down_l1 own ho wh l8 h2 h1 own.length 0 _ (by omega) ⟨by rw [List.length_replicate, Int.toNat_natCast], fun v hv => by omega⟩)
  | succ d ih =>
    intro i hi h
    by_cases c : ((rd_L8 views (i : Int)).length : Int) > 30
    · exact Ev.step (f := fun k => _) (fun m => by rw [thalweglaw25_GraphDown.l0, if_pos (by omega), if_pos (by omega), if_pos c]) (Ev.now _)
    · exact Ev.step (f := fun k => _) (fun m => by rw [thalweglaw25_GraphDown.l0, if_pos (by omega), if_pos (by omega), if_neg c, wq (by omega)]) (ih (i + 1) (by omega) (fun j hj => by
        by_cases e : j = i
        · subst e; omega
        · exact h j (by omega)))
theorem down_yes (own : List S45) (views : List (List S55)) (wh : List Int) : Ev (fun k => thalweglaw25_GraphDown.j0 k own views wh true) true := Ev.step (f := fun k => _) (fun k => by rw [thalweglaw25_GraphDown.j0, if_pos rfl]) (Ev.now _)
theorem GraphDown : thalweglaw25_GraphDown.Pure := by
  intro own views wh _ _ _ _
  have key : Ev (fun k => thalweglaw25_GraphDown.f k own views wh) true := by
    unfold thalweglaw25_GraphDown.f
    by_cases c : (own.length : Int) > 30
    · simp only [if_pos c]; exact down_yes _ _ _
    · simp only [if_neg c]
      by_cases c2 : (views.length : Int) > 30
      · simp only [decide_eq_true c2]; exact down_yes _ _ _
      · simp only [decide_eq_false c2]
        exact Ev.step (f := fun k => _) (fun k => by rw [thalweglaw25_GraphDown.j0, if_neg Bool.false_ne_true]; rfl) (down_l0 own (by omega) views (by omega) wh views.length 0 (by omega) (fun j hj => by omega))
  obtain ⟨K, hK⟩ := key
  exact ⟨K, hK K (Nat.le_refl _)⟩
end Go.Proofs.Ytbejdbgcfgllhaa.Pure
