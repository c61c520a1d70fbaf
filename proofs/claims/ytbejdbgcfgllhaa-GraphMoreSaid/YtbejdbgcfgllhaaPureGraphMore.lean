/- GraphMore: with one more link no node is further away; with one that was there nothing turns. -/
import Derived.Test.YtbejdbgcfgllhaaSGraphMore
import Derived.Test.YtbejdbgcfgllhaaGsp
import Derived.Test.YtbejdbgcfgllhaaGaa
namespace Go.Proofs.Ytbejdbgcfgllhaa.Pure
set_option linter.unusedSimpArgs false
set_option linter.unusedVariables false
open Go.RowKit Go.Proofs.Ytbejdbgcfgllhaa.P Go.Proofs.YtbejdbgcfgllhaaW.PrintWords Go.Proofs.YtbejdbgcfgllhaaW.PrintLast
theorem wn2 {i : Nat} (h : i < 100000) : wrap64 ((i : Int) + 1) = ((i + 1 : Nat) : Int) := by rw [w64 (x := (i : Int) + 1) (by omega) (by omega)]; rfl
theorem rdT_get2 (l : List S36) (i : Nat) (h : i < l.length) : rd_T36 l (i : Int) = l[i] := by
  unfold rd_T36
  rw [Int.toNat_natCast, List.getD_eq_getElem?_getD, List.getElem?_eq_getElem h]
  rfl
def There (l : List S36) (x y : Int) : Prop := ∃ p ∈ l, p = ⟨x, y⟩ ∨ p = ⟨y, x⟩
theorem There.adj {n : Nat} {l : List S36} {x y : Int} (h : There l x y) (u v : Nat) : Adj n l u v ↔ Adj n (l ++ [⟨x, y⟩]) u v := by
  rw [Adj.snoc]
  refine ⟨Or.inl, fun h2 => h2.elim id fun h2 => ?_⟩
  obtain ⟨p, hp, rfl | rfl⟩ := h
  · exact ⟨_, hp, h2⟩
  · refine ⟨_, hp, ?_⟩
    unfold Lk at h2 ⊢
    simp only at h2 ⊢
    omega
section
variable (n : Nat) (hn : n ≤ 64) (l : List S36) (hl : l.length ≤ 40) (x y : Int) (a b : List Int) (ha : a.length = n) (hb : b.length = n)
  (hle : ∀ v : Nat, v < n → 0 ≤ rd a (v : Int) → 0 ≤ rd b (v : Int) ∧ rd b (v : Int) ≤ rd a (v : Int)) (heq : There l x y → a = b)
include hn ha hb hle heq in
theorem more_l1 (t : Bool) (ht : t = true → There l x y) : ∀ (d i : Nat), i + d = n → Ev (fun k => thalweglaw25_GraphMore.l1 k (n : Int) a b t (i : Int)) true := by
  intro d
  induction d with
  | zero =>
    intro i hi
    refine Ev.step (f := fun k => _) (fun k => by rw [thalweglaw25_GraphMore.l1, if_neg (by omega)]) (Ev.bind awake_ev (Ev.now _))
  | succ d ih =>
    intro i hi
    have hn1 := ih (i + 1) (by omega)
    have hii := hle i (by omega)
    by_cases c : rd a (i : Int) ≥ 0
    · obtain ⟨h1, h2⟩ := hii c
      cases t with
      | true =>
        have e := heq (ht rfl)
        exact Ev.step (f := fun k => _) (fun k => by rw [thalweglaw25_GraphMore.l1, if_pos (by omega), if_pos (by omega), if_pos (by omega), if_pos c, if_pos (by omega), if_neg (by omega), if_neg (by omega), if_pos rfl, if_pos (by rw [e]), wn2 (by omega)]) hn1
      | false =>
        exact Ev.step (f := fun k => _) (fun k => by rw [thalweglaw25_GraphMore.l1, if_pos (by omega), if_pos (by omega), if_pos (by omega), if_pos c, if_pos (by omega), if_neg (by omega), if_neg (by omega), if_neg Bool.false_ne_true, wn2 (by omega)]) hn1
    · cases t with
      | true =>
        have e := heq (ht rfl)
        exact Ev.step (f := fun k => _) (fun k => by rw [thalweglaw25_GraphMore.l1, if_pos (by omega), if_pos (by omega), if_pos (by omega), if_neg c, if_pos rfl, if_pos (by omega), if_pos (by rw [e]), wn2 (by omega)]) hn1
      | false =>
        exact Ev.step (f := fun k => _) (fun k => by rw [thalweglaw25_GraphMore.l1, if_pos (by omega), if_pos (by omega), if_pos (by omega), if_neg c, if_neg Bool.false_ne_true, wn2 (by omega)]) hn1
include hn hl ha hb hle heq in
theorem more_l0 : ∀ (d i : Nat) (t : Bool), i + d = l.length → (t = true → There l x y) → Ev (fun k => thalweglaw25_GraphMore.l0 k (n : Int) l a b t (i : Int) x y) true := by
  intro d
  induction d with
  | zero =>
    intro i t hi ht
    exact Ev.step (f := fun k => _) (fun k => by rw [thalweglaw25_GraphMore.l0, if_neg (by omega)]; rfl) (more_l1 n hn l x y a b ha hb hle heq t ht n 0 (by omega))
  | succ d ih =>
    intro i t hi ht
    have hi1 : i < l.length := by omega
    have hm : l[i] ∈ l := List.getElem_mem hi1
    have hp := rdT_get2 l i hi1
    cases t with
    | true =>
      exact Ev.step (f := fun k => _) (fun k => by rw [thalweglaw25_GraphMore.l0, if_pos (by omega), if_pos rfl, wn2 (by omega)]) (ih (i + 1) true (by omega) ht)
    | false =>
      generalize l[i] = p at hm hp
      by_cases c : (p.f0 == x && (p.f1 == y)) = true
      · have hT : There l x y := ⟨p, hm, Or.inl (by
          rw [Bool.and_eq_true, beq_iff_eq, beq_iff_eq] at c
          cases p; simp only at c; rw [c.1, c.2])⟩
        exact Ev.step (f := fun k => _) (fun k => by rw [thalweglaw25_GraphMore.l0, if_pos (by omega), if_neg Bool.false_ne_true, if_pos (by omega), hp, if_pos c, wn2 (by omega)]) (ih (i + 1) true (by omega) (fun _ => hT))
      · exact Ev.step (f := fun k => _) (fun k => by rw [thalweglaw25_GraphMore.l0, if_pos (by omega), if_neg Bool.false_ne_true, if_pos (by omega), hp, if_neg c, wn2 (by omega)]) (ih (i + 1) _ (by omega) (fun c2 => ⟨p, hm, Or.inr (by
          rw [Bool.and_eq_true, beq_iff_eq, beq_iff_eq] at c2
          cases p; simp only at c2; rw [c2.1, c2.2])⟩))
end
theorem more_yes (n : Int) (l : List S36) (s x y : Int) : Ev (fun k => thalweglaw25_GraphMore.j0 k n l s true x y) true := Ev.step (f := fun k => _) (fun k => by rw [thalweglaw25_GraphMore.j0, if_pos rfl]) (Ev.now _)
theorem more_no (n : Int) (l : List S36) (hl : l.length ≤ 40) (s x y : Int) (A B : List Int × Int) (hA : Ev (fun k => graph_Steps.f k n l s) A) (hB : Ev (fun k => graph_Steps.f k n (l ++ [⟨x, y⟩]) s) B)
    (hgo : Ev (fun k => if A.2 = 0 then (if B.2 = 0 then (if (A.1.length : Int) = n then (thalweglaw25_GraphMore.j1 k n l A.1 B.1 ((B.1.length : Int) != n) x y) else (thalweglaw25_GraphMore.j1 k n l A.1 B.1 true x y)) else (thalweglaw25_GraphMore.j1 k n l A.1 B.1 true x y)) else ((thalweglaw25_awake.f k).bind fun t351 => (if t351 = true then (some (B.2 == A.2)) else (none)))) true) :
    Ev (fun k => thalweglaw25_GraphMore.j0 k n l s false x y) true := by
  refine Ev.step (f := fun k => _) (fun k => by rw [thalweglaw25_GraphMore.j0, if_neg Bool.false_ne_true, Option.bind_some, if_pos (by rw [List.length_nil]; omega), Option.bind_some, Option.bind_some, if_pos (by rw [List.length_append, List.length_nil, List.length_singleton]; omega), List.nil_append]) ?_
  exact Ev.bind hA (Ev.bind hB hgo)
theorem GraphMore : thalweglaw25_GraphMore.Pure := by
  intro n0 l x s0 _ _ _ _
  have key : Ev (fun k => thalweglaw25_GraphMore.f k n0 l x.f0 x.f1 s0) true := by
    unfold thalweglaw25_GraphMore.f
    by_cases c : n0 > 20
    · simp only [if_pos c]; exact more_yes _ _ _ _ _
    · simp only [if_neg c]
      by_cases c2 : (l.length : Int) > 40
      · simp only [decide_eq_true c2]; exact more_yes _ _ _ _ _
      · simp only [decide_eq_false c2]
        have hl : l.length ≤ 40 := by omega
        by_cases cb : n0 < 0 ∨ s0 < 0 ∨ s0 ≥ n0
        · refine more_no n0 l hl s0 x.f0 x.f1 ([], 1) ([], 1) (steps_bad _ _ _ (by omega)) (steps_bad _ _ _ (by omega)) ?_
          simp only [if_neg (show ¬ (1 : Int) = 0 by decide)]
          exact Ev.bind awake_ev (by simp only [if_true]; exact Ev.now _)
        · obtain ⟨n, rfl⟩ : ∃ n : Nat, n0 = (n : Int) := ⟨n0.toNat, by omega⟩
          obtain ⟨s, rfl⟩ : ∃ s : Nat, s0 = (s : Int) := ⟨s0.toNat, by omega⟩
          have hn : n ≤ 20 := by omega
          obtain ⟨a, ha, hae⟩ := steps_ev n (by omega) l (by omega) s (by omega)
          obtain ⟨b, hb, hbe⟩ := steps_ev n (by omega) (l ++ [⟨x.f0, x.f1⟩]) (by rw [List.length_append, List.length_singleton]; omega) s (by omega)
          refine more_no n l hl s x.f0 x.f1 (a, 0) (b, 0) hae hbe ?_
          have ha1 : (a.length : Int) = (n : Int) := by rw [ha.len]
          have hb1 : ((b.length : Int) != (n : Int)) = false := by rw [hb.len, bne_self_eq_false]
          simp only [if_pos rfl, if_pos ha1, hb1]
          refine Ev.step (f := fun k => _) (fun k => by rw [thalweglaw25_GraphMore.j1, if_neg Bool.false_ne_true]) ?_
          exact more_l0 n (by omega) l hl x.f0 x.f1 a b ha.len hb.len (fun v hv h0 => ha.le hb (fun u v h => Adj.snoc.2 (Or.inl h)) v hv h0) (fun hT => ha.uniq hb hT.adj) l.length 0 false (by omega) (fun h => by cases h)
  obtain ⟨K, hK⟩ := key
  exact ⟨K, hK K (Nat.le_refl _)⟩
end Go.Proofs.Ytbejdbgcfgllhaa.Pure
