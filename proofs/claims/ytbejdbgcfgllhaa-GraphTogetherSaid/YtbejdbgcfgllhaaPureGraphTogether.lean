/- GraphTogether: nodes are in one part just if there are steps from one to the other, as many both ways; each link is one step at most. -/
import Derived.Test.YtbejdbgcfgllhaaSGraphTogether
import Derived.Test.YtbejdbgcfgllhaaGpt
import Derived.Test.YtbejdbgcfgllhaaGaa
namespace Go.Proofs.Ytbejdbgcfgllhaa.Pure
set_option linter.unusedSimpArgs false
set_option linter.unusedVariables false
set_option linter.unusedSectionVars false
open Go.RowKit Go.Proofs.Ytbejdbgcfgllhaa.P Go.Proofs.YtbejdbgcfgllhaaW.PrintWords Go.Proofs.YtbejdbgcfgllhaaW.PrintLast
section
variable (n : Nat) (hn : n ≤ 12) (l : List S36) (hl : l.length ≤ 40) (p : List Int) (hp : p.length = n) (hpo : ∀ v, v < n → POk n l p v)
  (all : List (List Int)) (ha : all.length = n) (hall : ∀ j, j < n → IsD n (Adj n l) j (all.getD j []))
theorem rdL (all : List (List Int)) (j : Nat) : rd_L3 all (j : Int) = all.getD j [] := rfl
include hpo in
theorem par_eq {i k : Nat} (hi : i < n) (hk : k < n) : (rd p (i : Int) == rd p (k : Int)) = true ↔ Con n l i k := by
  obtain ⟨a, h1, h2, h3⟩ := hpo i hi
  obtain ⟨b, g1, g2, g3⟩ := hpo k hk
  rw [beq_iff_eq, h1, g1]
  constructor
  · intro e
    have e2 : a = b := Int.ofNat_inj.1 e
    subst e2
    exact h2.symm.trans g2
  · intro c
    have := h3 b (g2.trans c.symm)
    have := g3 a (h2.trans c)
    omega
include hn hl ha hall in
theorem tog_l3 : ∀ (d i : Nat), i + d = l.length → Ev (fun m => thalweglaw25_GraphTogether.l3 m (n : Int) l all (i : Int)) true := by
  intro d
  induction d with
  | zero =>
    intro i hi
    exact Ev.step (f := fun k => _) (fun k => by rw [thalweglaw25_GraphTogether.l3, if_neg (by omega)]) (Ev.bind awake_ev (Ev.now _))
  | succ d ih =>
    intro i hi
    have hi1 : i < l.length := by omega
    have hm : l[i] ∈ l := List.getElem_mem hi1
    have hq := rdT_get l i hi1
    have hn1 := ih (i + 1) (by omega)
    generalize l[i] = q at hm hq
    by_cases c : q.f0 ≥ 0 ∧ q.f0 < (n : Int) ∧ q.f1 ≥ 0 ∧ q.f1 < (n : Int)
    · obtain ⟨c1, c2, c3, c4⟩ := c
      obtain ⟨a, ea⟩ : ∃ a : Nat, q.f0 = (a : Int) := ⟨q.f0.toNat, by omega⟩
      obtain ⟨b, eb⟩ : ∃ b : Nat, q.f1 = (b : Int) := ⟨q.f1.toNat, by omega⟩
      have han : a < n := by omega
      have hbn : b < n := by omega
      have hA : Adj n l a b := ⟨q, hm, by unfold Lk; omega⟩
      have hD := hall a han
      obtain ⟨g1, g2⟩ := hD.min b 1 hbn ⟨a, rfl, hA⟩
      have hlen := hD.len
      exact Ev.step (f := fun k => _) (fun k => by rw [thalweglaw25_GraphTogether.l3, if_pos (by omega), if_pos (by omega), hq, if_pos c1, if_pos c2, if_pos c3, if_pos c4, if_pos (by omega), if_pos (by omega), if_pos (by omega), ea, eb, rdL, if_pos (by omega), if_neg (by omega), if_neg (by omega), wn (by omega)]) hn1
    · refine Ev.step (f := fun k => thalweglaw25_GraphTogether.l3 k (n : Int) l all ((i + 1 : Nat) : Int)) (fun k => ?_) hn1
      rw [thalweglaw25_GraphTogether.l3, if_pos (by omega), if_pos (by omega), hq, wn (by omega)]
      by_cases c1 : q.f0 ≥ 0
      · rw [if_pos c1]
        by_cases c2 : q.f0 < (n : Int)
        · rw [if_pos c2]
          by_cases c3 : q.f1 ≥ 0
          · rw [if_pos c3, if_neg (fun c4 => c ⟨c1, c2, c3, c4⟩)]
          · rw [if_neg c3]
        · rw [if_neg c2]
      · rw [if_neg c1]
include hn hl hp hpo ha hall in
theorem tog_l2 (i : Nat) (hi : i < n) (hnx : Ev (fun m => thalweglaw25_GraphTogether.l1 m (n : Int) l p all ((i + 1 : Nat) : Int)) true) : ∀ (d k : Nat), k + d = n → Ev (fun m => thalweglaw25_GraphTogether.l2 m (n : Int) l p all (i : Int) (k : Int)) true := by
  intro d
  induction d with
  | zero =>
    intro k hk
    exact Ev.step (f := fun k => _) (fun m => by rw [thalweglaw25_GraphTogether.l2, if_neg (by omega), wn (by omega)]) hnx
  | succ d ih =>
    intro k hk
    have hkn : k < n := by omega
    have hDi := hall i hi
    have hDk := hall k hkn
    have h1 := hDi.len
    have h2 := hDk.len
    have hsw := hDi.swap (fun _ _ h => h.symm) hDk hi hkn
    have htop := hDi.top k hkn
    have hpi : ¬ rd p (i : Int) > (i : Int) := by
      obtain ⟨a, g1, g2, g3⟩ := hpo i hi
      have := g3 i (Con.refl i)
      omega
    have hb : (decide (rd (all.getD i []) (k : Int) ≥ 0) != (rd p (i : Int) == rd p (k : Int))) = false := by
      have e : decide (rd (all.getD i []) (k : Int) ≥ 0) = (rd p (i : Int) == rd p (k : Int)) := by
        rw [Bool.eq_iff_iff, par_eq n l p hpo hi hkn, decide_eq_true_iff]
        exact hDi.con hkn
      rw [e, bne_self_eq_false]
    exact Ev.step (f := fun k => _) (fun m => by rw [thalweglaw25_GraphTogether.l2, if_pos (by omega), if_pos (by omega), if_pos (by omega), if_pos (by omega), rdL, rdL, if_pos (by omega), if_pos (by omega), if_pos (by omega), if_pos hsw, if_pos (by omega), if_pos (by omega), hb, if_neg Bool.false_ne_true, if_neg (by omega), if_neg hpi, wn (by omega)]) (ih (k + 1) (by omega))
include hn hl hp hpo ha hall in
theorem tog_l1 : ∀ (d i : Nat), i + d = n → Ev (fun m => thalweglaw25_GraphTogether.l1 m (n : Int) l p all (i : Int)) true := by
  intro d
  induction d with
  | zero =>
    intro i hi
    exact Ev.step (f := fun k => _) (fun m => by rw [thalweglaw25_GraphTogether.l1, if_neg (by omega)]; rfl) (tog_l3 n hn l hl all ha hall l.length 0 (by omega))
  | succ d ih =>
    intro i hi
    exact Ev.step (f := fun k => _) (fun m => by rw [thalweglaw25_GraphTogether.l1, if_pos (by omega)]; rfl) (tog_l2 n hn l hl p hp hpo all ha hall i (by omega) (ih (i + 1) (by omega)) n 0 (by omega))
end
theorem tog_l0 (n : Nat) (hn : n ≤ 12) (l : List S36) (hl : l.length ≤ 40) (p : List Int) (hp : p.length = n) (hpo : ∀ v, v < n → POk n l p v) : ∀ (d i : Nat) (all : List (List Int)), i + d = n → all.length = i → (∀ j, j < i → IsD n (Adj n l) j (all.getD j [])) →
    Ev (fun m => thalweglaw25_GraphTogether.l0 m (n : Int) l p all (i : Int)) true := by
  intro d
  induction d with
  | zero =>
    intro i all hi ha hall
    have e : i = n := by omega
    subst e
    exact Ev.step (f := fun k => _) (fun m => by rw [thalweglaw25_GraphTogether.l0, if_neg (by omega), if_pos (by omega)]; rfl) (tog_l1 i hn l hl p hp hpo all ha hall i 0 (by omega))
  | succ d ih =>
    intro i all hi ha hall
    obtain ⟨st, hst, hev⟩ := steps_ev n (by omega) l (by omega) i (by omega)
    have hlen := hst.len
    have hsrc := hst.src
    refine Ev.step (f := fun k => _) (fun m => by rw [thalweglaw25_GraphTogether.l0, if_pos (by omega)]) ?_
    refine Ev.bind hev ?_
    have hn1 := ih (i + 1) (all ++ [st]) (by omega) (by rw [List.length_append, List.length_singleton, ha]) (fun j hj => by
      rw [List.getD_eq_getElem?_getD]
      by_cases c : j < i
      · rw [List.getElem?_append_left (by omega), ← List.getD_eq_getElem?_getD]
        exact hall j c
      · have e : j = i := by omega
        subst e
        rw [List.getElem?_append_right (by omega), ha, Nat.sub_self]
        exact hst)
    refine Ev.congr (f := fun m => _) (fun m => by rw [if_pos rfl, if_pos (show (((st, (0 : Int)).1.length : Nat) : Int) = (n : Int) by simp only; omega), if_pos (by omega), if_pos (show (i : Int) < (((st, (0 : Int)).1.length : Nat) : Int) by simp only; omega), if_pos hsrc, if_pos (by omega), wn (by omega)]) hn1
theorem tog_yes (n : Int) (l : List S36) : Ev (fun k => thalweglaw25_GraphTogether.j0 k n l true) true := Ev.step (f := fun k => _) (fun k => by rw [thalweglaw25_GraphTogether.j0, if_pos rfl]) (Ev.now _)
theorem GraphTogether : thalweglaw25_GraphTogether.Pure := by
  intro n0 l _ _
  have key : Ev (fun k => thalweglaw25_GraphTogether.f k n0 l) true := by
    unfold thalweglaw25_GraphTogether.f
    by_cases c : n0 > 12
    · simp only [if_pos c]; exact tog_yes _ _
    · simp only [if_neg c]
      by_cases c2 : (l.length : Int) > 40
      · simp only [decide_eq_true c2]; exact tog_yes _ _
      · simp only [decide_eq_false c2]
        have hl : l.length ≤ 40 := by omega
        refine Ev.step (f := fun k => _) (fun k => by rw [thalweglaw25_GraphTogether.j0, if_neg Bool.false_ne_true]) ?_
        by_cases cb : n0 < 0
        · refine Ev.bind (parts_bad n0 l (Or.inl cb)) ?_
          refine Ev.congr (f := fun m => _) (fun m => by rw [if_neg (show ¬ (1 : Int) = 0 by decide)]) ?_
          exact Ev.bind awake_ev (Ev.congr (f := fun m => some true) (fun m => by rw [if_pos rfl, if_pos cb]; rfl) (Ev.now _))
        · obtain ⟨n, rfl⟩ : ∃ n : Nat, n0 = (n : Int) := ⟨n0.toNat, by omega⟩
          obtain ⟨p, hp, hpo, hev⟩ := parts_ev n (by omega) l (by omega)
          refine Ev.bind hev ?_
          exact Ev.congr (f := fun m => _) (fun m => by rw [if_pos rfl]; rfl) (tog_l0 n (by omega) l hl p hp hpo n 0 [] (by omega) rfl (fun j hj => by omega))
  obtain ⟨K, hK⟩ := key
  exact ⟨K, hK K (Nat.le_refl _)⟩
end Go.Proofs.Ytbejdbgcfgllhaa.Pure
