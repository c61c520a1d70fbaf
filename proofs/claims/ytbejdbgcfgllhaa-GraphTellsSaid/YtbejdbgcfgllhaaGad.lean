/- Layer 25, plain: links, walks, how far nodes are, and when numbers of steps are right. -/
import Derived.Test.YtbejdbgcfgllhaaGnr
import Derived.Test.YtbejdbgcfgllhaaEev
namespace Go.Proofs.Ytbejdbgcfgllhaa.P
set_option linter.unusedSimpArgs false
set_option linter.unusedVariables false
open Go.RowKit Go.Proofs.YtbejdbgcfgllhaaW.PrintWords Go.Proofs.YtbejdbgcfgllhaaW.PrintLast Go.Proofs.YtbejdbgcfgllhaaW.PrintMore
def Lk (n : Nat) (p : S36) (a b : Nat) : Prop := 0 ≤ p.f0 ∧ p.f0 < (n : Int) ∧ 0 ≤ p.f1 ∧ p.f1 < (n : Int) ∧ (p.f0 = (a : Int) ∧ p.f1 = (b : Int) ∨ p.f0 = (b : Int) ∧ p.f1 = (a : Int))
def Adj (n : Nat) (l : List S36) (a b : Nat) : Prop := ∃ p ∈ l, Lk n p a b
theorem Lk.symm {n : Nat} {p : S36} {a b : Nat} (h : Lk n p a b) : Lk n p b a := ⟨h.1, h.2.1, h.2.2.1, h.2.2.2.1, h.2.2.2.2.symm⟩
theorem Lk.lt {n : Nat} {p : S36} {a b : Nat} (h : Lk n p a b) : a < n ∧ b < n := by
  obtain ⟨h1, h2, h3, h4, h5 | h5⟩ := h <;> omega
theorem Adj.symm {n : Nat} {l : List S36} {a b : Nat} (h : Adj n l a b) : Adj n l b a := by
  obtain ⟨p, hp, h⟩ := h
  exact ⟨p, hp, h.symm⟩
theorem Adj.lt {n : Nat} {l : List S36} {a b : Nat} (h : Adj n l a b) : a < n ∧ b < n := by
  obtain ⟨p, _, h⟩ := h
  exact h.lt
theorem Adj.nil {n : Nat} {a b : Nat} : ¬ Adj n [] a b := by
  rintro ⟨p, hp, _⟩
  cases hp
theorem Adj.cons {n : Nat} {p : S36} {l : List S36} {a b : Nat} : Adj n (p :: l) a b ↔ Lk n p a b ∨ Adj n l a b := by
  unfold Adj
  simp only [List.mem_cons, exists_eq_or_imp]
theorem Adj.app {n : Nat} {l m : List S36} {a b : Nat} : Adj n (l ++ m) a b ↔ Adj n l a b ∨ Adj n m a b := by
  unfold Adj
  simp only [List.mem_append, or_and_right, exists_or]
theorem Adj.snoc {n : Nat} {p : S36} {l : List S36} {a b : Nat} : Adj n (l ++ [p]) a b ↔ Adj n l a b ∨ Lk n p a b := by
  rw [Adj.app, Adj.cons]
  exact or_congr_right (or_iff_left Adj.nil)

/-! The rows of neighbours. -/
structure Nrs (n : Nat) (l : List S36) (ll : List (List Int)) : Prop where
  len : ll.length = n
  mem : ∀ a, a < n → ∀ x : Int, x ∈ ll.getD a [] ↔ ∃ b : Nat, x = (b : Int) ∧ Adj n l a b
  rl : ∀ a, a < n → (ll.getD a []).length ≤ l.length
theorem getD_set2 {α : Type} (l : List α) (i j : Nat) (x d : α) (h : i < l.length) : (l.set i x).getD j d = if j = i then x else l.getD j d := by
  rw [List.getD_eq_getElem?_getD, List.getD_eq_getElem?_getD, List.getElem?_set]
  by_cases c : i = j
  · subst c
    rw [if_pos rfl, if_pos h, if_pos rfl]
    rfl
  · rw [if_neg c, if_neg (fun e => c e.symm)]
theorem Nrs.add {n : Nat} {l : List S36} {ll : List (List Int)} (h : Nrs n l ll) (p : S36) : Nrs n (l ++ [p]) (gAdd n ll p) := by
  by_cases c : 0 ≤ p.f0 ∧ p.f0 < (n : Int) ∧ 0 ≤ p.f1 ∧ p.f1 < (n : Int)
  · obtain ⟨a0, ha0⟩ : ∃ a0 : Nat, p.f0 = (a0 : Int) := ⟨p.f0.toNat, by omega⟩
    obtain ⟨b0, hb0⟩ : ∃ b0 : Nat, p.f1 = (b0 : Int) := ⟨p.f1.toNat, by omega⟩
    have hp : p = ⟨(a0 : Int), (b0 : Int)⟩ := by cases p; simp only at ha0 hb0; rw [ha0, hb0]
    subst hp
    obtain ⟨_, h1, _, h2⟩ := c
    have h1' : a0 < n := Int.ofNat_lt.1 h1
    have h2' : b0 < n := Int.ofNat_lt.1 h2
    rw [gAdd_pos ll a0 b0 h1' h2']
    refine ⟨by rw [List.length_set, List.length_set, h.len], fun a ha x => ?_, fun a ha => ?_⟩
    rotate_left
    · rw [getD_set2 _ _ _ _ _ (by rw [List.length_set, h.len]; exact h2'), getD_set2 _ _ _ _ _ (by rw [h.len]; exact h1')]
      have e1 := h.rl a ha
      have e2 := h.rl a0 h1'
      have e3 := h.rl b0 h2'
      rw [List.length_append, List.length_singleton]
      by_cases c1 : a = b0
      · rw [if_pos c1, List.length_append, List.length_singleton]; omega
      · rw [if_neg c1]
        by_cases c2 : a = a0
        · rw [if_pos c2, List.length_append, List.length_singleton]; omega
        · rw [if_neg c2]; omega
    rw [getD_set2 _ _ _ _ _ (by rw [List.length_set, h.len]; exact h2'), getD_set2 _ _ _ _ _ (by rw [h.len]; exact h1')]
    have hL : ∀ b : Nat, Lk n ⟨(a0 : Int), (b0 : Int)⟩ a b ↔ (a0 = a ∧ b0 = b ∨ a0 = b ∧ b0 = a) := fun b => by
      unfold Lk
      simp only
      omega
    simp only [Adj.snoc, hL]
    by_cases e1 : a = b0
    · rw [if_pos e1, List.mem_append, h.mem b0 h2']
      subst e1
      constructor
      · rintro (⟨b, hb, hA⟩ | hx)
        · exact ⟨b, hb, Or.inl hA⟩
        · rw [List.mem_singleton] at hx
          exact ⟨a0, hx, Or.inr (Or.inr ⟨rfl, rfl⟩)⟩
      · rintro ⟨b, hb, hA | ⟨h3, h4⟩ | ⟨h3, h4⟩⟩
        · exact Or.inl ⟨b, hb, hA⟩
        · right; rw [List.mem_singleton, hb]; omega
        · right; rw [List.mem_singleton, hb]; omega
    · rw [if_neg e1]
      by_cases e2 : a = a0
      · rw [if_pos e2, List.mem_append, h.mem a0 h1']
        subst e2
        constructor
        · rintro (⟨b, hb, hA⟩ | hx)
          · exact ⟨b, hb, Or.inl hA⟩
          · rw [List.mem_singleton] at hx
            exact ⟨b0, hx, Or.inr (Or.inl ⟨rfl, rfl⟩)⟩
        · rintro ⟨b, hb, hA | ⟨h3, h4⟩ | ⟨h3, h4⟩⟩
          · exact Or.inl ⟨b, hb, hA⟩
          · right; rw [List.mem_singleton, hb]; omega
          · right; rw [List.mem_singleton, hb]; omega
      · rw [if_neg e2, h.mem a ha]
        constructor
        · rintro ⟨b, hb, hA⟩
          exact ⟨b, hb, Or.inl hA⟩
        · rintro ⟨b, hb, hA | ⟨h3, h4⟩ | ⟨h3, h4⟩⟩
          · exact ⟨b, hb, hA⟩
          · omega
          · omega
  · have e : gAdd n ll p = ll := by unfold gAdd; rw [if_neg c]
    rw [e]
    refine ⟨h.len, fun a ha x => ?_, fun a ha => by have := h.rl a ha; rw [List.length_append]; omega⟩
    rw [h.mem a ha]
    have hL : ∀ b : Nat, ¬ Lk n p a b := fun b hb => c ⟨hb.1, hb.2.1, hb.2.2.1, hb.2.2.2.1⟩
    simp only [Adj.snoc, hL, or_false]
theorem Nrs.fold {n : Nat} : ∀ (m l : List S36) (ll : List (List Int)), Nrs n l ll → Nrs n (l ++ m) (m.foldl (gAdd n) ll) := by
  intro m
  induction m with
  | nil => intro l ll h; rw [List.append_nil]; exact h
  | cons p m ih =>
    intro l ll h
    have := ih (l ++ [p]) (gAdd n ll p) (h.add p)
    rw [List.append_assoc] at this
    exact this
theorem near_ok (n : Nat) (l : List S36) (hn : n ≤ 100000) (hl : l.length ≤ 100000) : ∃ ll, graph_near.f (n : Int) l = some ll ∧ Nrs n l ll := by
  refine ⟨l.foldl (gAdd n) (List.replicate n []), ?_, ?_⟩
  · unfold graph_near.f
    rw [if_pos (by omega)]
    rfl
  · have h0 : Nrs n [] (List.replicate n []) := ⟨List.length_replicate, fun a ha x => by
      rw [List.getD_eq_getElem?_getD, List.getElem?_replicate, if_pos ha]
      constructor
      · intro hx; cases hx
      · rintro ⟨b, _, hb⟩; exact absurd hb Adj.nil, fun a ha => by
      rw [List.getD_eq_getElem?_getD, List.getElem?_replicate, if_pos ha]
      exact Nat.le_refl _⟩
    have := Nrs.fold l [] _ h0
    rw [List.nil_append] at this
    exact this

/-! Walks of so many steps, and the numbers of steps. -/
def Rch (E : Nat → Nat → Prop) (s : Nat) : Nat → Nat → Prop
  | 0, v => v = s
  | k + 1, v => ∃ u, Rch E s k u ∧ E u v
theorem Rch.lt {n : Nat} {E : Nat → Nat → Prop} {s : Nat} (hE : ∀ u v, E u v → u < n ∧ v < n) (hs : s < n) : ∀ {k v : Nat}, Rch E s k v → v < n := by
  intro k
  cases k with
  | zero => intro v h; rw [show v = s from h]; exact hs
  | succ k => rintro v ⟨u, _, h⟩; exact (hE _ _ h).2
theorem Rch.front {E : Nat → Nat → Prop} {s t : Nat} (e : E s t) : ∀ {k v : Nat}, Rch E t k v → Rch E s (k + 1) v := by
  intro k
  induction k with
  | zero => intro v h; rw [show v = t from h]; exact ⟨s, rfl, e⟩
  | succ k ih => rintro v ⟨u, hu, h⟩; exact ⟨u, ih hu, h⟩
theorem Rch.rev {E : Nat → Nat → Prop} (hE : ∀ u v, E u v → E v u) {s : Nat} : ∀ {k v : Nat}, Rch E s k v → Rch E v k s := by
  intro k
  induction k with
  | zero => intro v h; exact (show v = s from h).symm
  | succ k ih => rintro v ⟨u, hu, h⟩; exact Rch.front (hE _ _ h) (ih hu)
theorem Rch.trans {E : Nat → Nat → Prop} {s t : Nat} {j : Nat} (h : Rch E s j t) : ∀ {k v : Nat}, Rch E t k v → Rch E s (j + k) v := by
  intro k
  induction k with
  | zero => intro v hv; rw [show v = t from hv]; exact h
  | succ k ih => rintro v ⟨u, hu, e⟩; exact ⟨u, ih hu, e⟩
theorem Rch.mono {E F : Nat → Nat → Prop} (h : ∀ u v, E u v → F u v) {s : Nat} : ∀ {k v : Nat}, Rch E s k v → Rch F s k v := by
  intro k
  induction k with
  | zero => intro v hv; exact hv
  | succ k ih => rintro v ⟨u, hu, e⟩; exact ⟨u, ih hu, h _ _ e⟩
def unv (out : List Int) : Nat := out.countP (fun x => decide (x < 0))
theorem rd_set2 (l : List Int) (b v : Nat) (x : Int) (h : b < l.length) : rd (l.set b x) (v : Int) = if v = b then x else rd l (v : Int) := by
  unfold rd
  rw [Int.toNat_natCast]
  exact getD_set2 l b v x 0 h
theorem rd_elem (l : List Int) (i : Nat) (h : i < l.length) : rd l (i : Int) = l[i] := by
  unfold rd
  rw [Int.toNat_natCast, List.getD_eq_getElem?_getD, List.getElem?_eq_getElem h]
  rfl
theorem rd_rep (n : Nat) (x : Int) (v : Nat) (h : v < n) : rd (List.replicate n x) (v : Int) = x := by
  rw [rd_elem _ _ (by rw [List.length_replicate]; exact h), List.getElem_replicate]
theorem unv_set (out : List Int) (b : Nat) (x : Int) (hb : b < out.length) (h0 : rd out (b : Int) < 0) (hx : 0 ≤ x) : unv (out.set b x) + 1 = unv out := by
  unfold unv
  rw [rd_elem _ _ hb] at h0
  rw [List.countP_set hb, if_pos (decide_eq_true h0), if_neg (by simp; omega)]
  have : 0 < out.countP (fun x => decide (x < 0)) := List.countP_pos_iff.2 ⟨out[b], List.getElem_mem hb, decide_eq_true h0⟩
  omega
structure Sp (n : Nat) (E : Nat → Nat → Prop) (s : Nat) (out : List Int) : Prop where
  len : out.length = n
  src : rd out (s : Int) = 0
  low : ∀ v : Nat, v < n → -1 ≤ rd out (v : Int)
  rch : ∀ v : Nat, v < n → 0 ≤ rd out (v : Int) → Rch E s (rd out (v : Int)).toNat v
  cnt : ∀ v : Nat, v < n → 0 ≤ rd out (v : Int) → rd out (v : Int) + (unv out : Int) ≤ (n : Int) - 1
theorem Sp.init {n s : Nat} {E : Nat → Nat → Prop} (hs : s < n) : Sp n E s ((List.replicate n (-1)).set s 0) := by
  have hl : s < (List.replicate n (-1 : Int)).length := by rw [List.length_replicate]; exact hs
  have hr : ∀ v : Nat, v < n → rd ((List.replicate n (-1 : Int)).set s 0) (v : Int) = if v = s then 0 else -1 := fun v hv => by
    rw [rd_set2 _ _ _ _ hl, rd_rep _ _ _ hv]
  have hu := unv_set (List.replicate n (-1 : Int)) s 0 hl (by rw [rd_rep _ _ _ hs]; decide) (by decide)
  have hu0 : unv (List.replicate n (-1 : Int)) = n := by
    unfold unv
    rw [List.countP_replicate, if_pos (by decide)]
  refine ⟨by rw [List.length_set, List.length_replicate], by rw [hr s hs, if_pos rfl], fun v hv => ?_, fun v hv h => ?_, fun v hv h => ?_⟩
  · rw [hr v hv]
    by_cases c : v = s
    · rw [if_pos c]; decide
    · rw [if_neg c]; decide
  · rw [hr v hv] at h ⊢
    by_cases c : v = s
    · rw [if_pos c]; exact c
    · rw [if_neg c] at h; exact absurd h (by decide)
  · rw [hr v hv] at h ⊢
    by_cases c : v = s
    · rw [if_pos c]; omega
    · rw [if_neg c] at h; exact absurd h (by decide)
theorem Sp.put {n s : Nat} {E : Nat → Nat → Prop} {out : List Int} (h : Sp n E s out) {u b : Nat} (hu : u < n) (h0 : 0 ≤ rd out (u : Int)) (hb : b < n) (hb0 : rd out (b : Int) < 0) (e : E u b) :
    Sp n E s (out.set b (rd out (u : Int) + 1)) := by
  have hbl : b < out.length := by rw [h.len]; exact hb
  have hr := fun v => rd_set2 out b v (rd out (u : Int) + 1) hbl
  have hU := unv_set out b (rd out (u : Int) + 1) hbl hb0 (by omega)
  refine ⟨by rw [List.length_set, h.len], ?_, fun v hv => ?_, fun v hv hv0 => ?_, fun v hv hv0 => ?_⟩
  · rw [hr, if_neg (fun e2 => by have := h.src; rw [e2] at this; omega)]
    exact h.src
  · rw [hr]
    by_cases c : v = b
    · rw [if_pos c]; omega
    · rw [if_neg c]; exact h.low v hv
  · rw [hr] at hv0 ⊢
    by_cases c : v = b
    · rw [if_pos c]
      have h1 := h.rch u hu h0
      rw [show (rd out (u : Int) + 1).toNat = (rd out (u : Int)).toNat + 1 by omega, c]
      exact ⟨u, h1, e⟩
    · rw [if_neg c] at hv0 ⊢
      exact h.rch v hv hv0
  · rw [hr] at hv0 ⊢
    by_cases c : v = b
    · rw [if_pos c]
      have := h.cnt u hu h0
      omega
    · rw [if_neg c] at hv0 ⊢
      have := h.cnt v hv hv0
      omega
structure IsD (n : Nat) (E : Nat → Nat → Prop) (s : Nat) (out : List Int) : Prop where
  len : out.length = n
  src : rd out (s : Int) = 0
  low : ∀ v : Nat, v < n → -1 ≤ rd out (v : Int)
  top : ∀ v : Nat, v < n → rd out (v : Int) < (n : Int)
  rch : ∀ v : Nat, v < n → 0 ≤ rd out (v : Int) → Rch E s (rd out (v : Int)).toNat v
  min : ∀ v k : Nat, v < n → Rch E s k v → 0 ≤ rd out (v : Int) ∧ rd out (v : Int) ≤ (k : Int)
theorem Sp.done {n s : Nat} {E : Nat → Nat → Prop} {out : List Int} (h : Sp n E s out) (hs : s < n) (hE : ∀ u v, E u v → u < n ∧ v < n)
    (hc : ∀ v : Nat, v < n → 0 ≤ rd out (v : Int) → ∀ b : Nat, E v b → 0 ≤ rd out (b : Int) ∧ rd out (b : Int) ≤ rd out (v : Int) + 1) : IsD n E s out := by
  refine ⟨h.len, h.src, h.low, fun v hv => ?_, h.rch, fun v k => ?_⟩
  · by_cases c : 0 ≤ rd out (v : Int)
    · have := h.cnt v hv c; omega
    · omega
  · induction k generalizing v with
    | zero =>
      intro hv e
      rw [show v = s from e, h.src]
      omega
    | succ k ih =>
      rintro hv ⟨u, hu, e⟩
      have hul := (hE _ _ e).1
      obtain ⟨h1, h2⟩ := ih u hul hu
      obtain ⟨h3, h4⟩ := hc u hul h1 v e
      omega
theorem rd_ext {a b : List Int} {n : Nat} (ha : a.length = n) (hb : b.length = n) (h : ∀ v : Nat, v < n → rd a (v : Int) = rd b (v : Int)) : a = b := by
  refine List.ext_getElem (by omega) fun i h1 h2 => ?_
  have := h i (by omega)
  rw [rd_elem _ _ h1, rd_elem _ _ h2] at this
  exact this
theorem IsD.le {n s : Nat} {E F : Nat → Nat → Prop} {a b : List Int} (ha : IsD n E s a) (hb : IsD n F s b) (hEF : ∀ u v, E u v → F u v) (v : Nat) (hv : v < n) (h0 : 0 ≤ rd a (v : Int)) : 0 ≤ rd b (v : Int) ∧ rd b (v : Int) ≤ rd a (v : Int) := by
  have := hb.min v _ hv ((ha.rch v hv h0).mono hEF)
  omega
theorem IsD.uniq {n s : Nat} {E F : Nat → Nat → Prop} {a b : List Int} (ha : IsD n E s a) (hb : IsD n F s b) (hEF : ∀ u v, E u v ↔ F u v) : a = b := by
  refine rd_ext ha.len hb.len fun v hv => ?_
  have h1 := ha.low v hv
  have h2 := hb.low v hv
  by_cases c : 0 ≤ rd a (v : Int)
  · obtain ⟨h3, h4⟩ := ha.le hb (fun u v => (hEF u v).1) v hv c
    obtain ⟨h5, h6⟩ := hb.le ha (fun u v => (hEF u v).2) v hv h3
    omega
  · by_cases c2 : 0 ≤ rd b (v : Int)
    · obtain ⟨h5, h6⟩ := hb.le ha (fun u v => (hEF u v).2) v hv c2
      omega
    · omega
theorem IsD.swap {n s t : Nat} {E : Nat → Nat → Prop} {a b : List Int} (hE : ∀ u v, E u v → E v u) (ha : IsD n E s a) (hb : IsD n E t b) (hs : s < n) (ht : t < n) : rd a (t : Int) = rd b (s : Int) := by
  have h1 := ha.low t ht
  have h2 := hb.low s hs
  by_cases c : 0 ≤ rd a (t : Int)
  · have h3 := hb.min s _ hs ((ha.rch t ht c).rev hE)
    have h4 := ha.min t _ ht ((hb.rch s hs h3.1).rev hE)
    omega
  · by_cases c2 : 0 ≤ rd b (s : Int)
    · have h4 := ha.min t _ ht ((hb.rch s hs c2).rev hE)
      omega
    · omega
end Go.Proofs.Ytbejdbgcfgllhaa.P
