/- Layer 25, plain: the document's Linked and Steps. -/
import Derived.Test.YtbejdbgcfgllhaaGad
import Derived.Test.YtbejdbgcfgllhaaP12
import Derived.Test.YtbejdbgcfgllhaaP13
namespace Go.Proofs.Ytbejdbgcfgllhaa.P
set_option linter.unusedSimpArgs false
set_option linter.unusedVariables false
open Go.RowKit Go.Proofs.YtbejdbgcfgllhaaW.PrintWords Go.Proofs.YtbejdbgcfgllhaaW.PrintLast Go.Proofs.YtbejdbgcfgllhaaW.PrintMore
theorem rdT_get (l : List S36) (i : Nat) (h : i < l.length) : rd_T36 l (i : Int) = l[i] := by
  unfold rd_T36
  rw [Int.toNat_natCast, List.getD_eq_getElem?_getD, List.getElem?_eq_getElem h]
  rfl
theorem link_hit (k n : Nat) (l : List S36) (a b i : Nat) (p : S36) (h1 : i < l.length) (hp : rd_T36 l (i : Int) = p) (h : Lk n p a b) : thalwegref25_Linked.l0 (k + 1) (n : Int) l (a : Int) (b : Int) (i : Int) = some true := by
  rw [thalwegref25_Linked.l0, if_pos (Int.ofNat_lt.2 h1), if_pos (Int.natCast_nonneg i), hp]
  unfold Lk at h
  repeat' split
  all_goals first
    | rfl
    | (exfalso; omega)
theorem link_miss (k n : Nat) (l : List S36) (a b i : Nat) (p : S36) (h1 : i < l.length) (hp : rd_T36 l (i : Int) = p) (h : ¬ Lk n p a b) : thalwegref25_Linked.l0 (k + 1) (n : Int) l (a : Int) (b : Int) (i : Int) = thalwegref25_Linked.l0 k (n : Int) l (a : Int) (b : Int) (wrap64 ((i : Int) + 1)) := by
  rw [thalwegref25_Linked.l0, if_pos (Int.ofNat_lt.2 h1), if_pos (Int.natCast_nonneg i), hp]
  unfold Lk at h
  repeat' split
  all_goals first
    | rfl
    | (exfalso; omega)
theorem link_l (n : Nat) (l : List S36) (hl : l.length ≤ 100000) (a b : Nat) : ∀ (d i : Nat), i + d = l.length → ∃ t : Bool, (t = true ↔ Adj n (l.drop i) a b) ∧ Ev (fun k => thalwegref25_Linked.l0 k (n : Int) l (a : Int) (b : Int) (i : Int)) t := by
  intro d
  induction d with
  | zero =>
    intro i hi
    refine ⟨false, ?_, ?_⟩
    · rw [List.drop_of_length_le (by omega)]
      exact ⟨fun h => by simp at h, fun h => absurd h Adj.nil⟩
    · exact Ev.step (f := fun k => _) (fun k => by rw [thalwegref25_Linked.l0, if_neg (by omega)]) (Ev.now _)
  | succ d ih =>
    intro i hi
    have h1 : i < l.length := by omega
    have hp := rdT_get l i h1
    rw [List.drop_eq_getElem_cons h1]
    by_cases c : Lk n l[i] a b
    · exact ⟨true, ⟨fun _ => Adj.cons.2 (Or.inl c), fun _ => rfl⟩, Ev.step (f := fun k => _) (fun k => link_hit k n l a b i _ h1 hp c) (Ev.now _)⟩
    · obtain ⟨t, ht, hev⟩ := ih (i + 1) (by omega)
      have hwi : wrap64 ((i : Int) + 1) = ((i + 1 : Nat) : Int) := by rw [w64 (x := (i : Int) + 1) (by omega) (by omega)]; rfl
      exact ⟨t, by rw [ht, Adj.cons, or_iff_right c], Ev.step (f := fun k => _) (fun k => by rw [link_miss k n l a b i _ h1 hp c, hwi]) hev⟩
theorem link_ev (n : Nat) (l : List S36) (hl : l.length ≤ 100000) (a b : Nat) : ∃ t : Bool, (t = true ↔ Adj n l a b) ∧ Ev (fun k => thalwegref25_Linked.f k (n : Int) l (a : Int) (b : Int)) t := by
  have := link_l n l hl a b l.length 0 (by omega)
  rw [List.drop_zero] at this
  exact this
/-- The state in level `k`, at the nodes `a` and `b`. -/
structure Lv (n : Nat) (E : Nat → Nat → Prop) (s k a b : Nat) (out : List Int) : Prop where
  sp : Sp n E s out
  top : ∀ v : Nat, v < n → 0 ≤ rd out (v : Int) → rd out (v : Int) ≤ (k : Int) + 1
  cl : ∀ v : Nat, v < n → 0 ≤ rd out (v : Int) → (rd out (v : Int) < (k : Int) ∨ rd out (v : Int) = (k : Int) ∧ v < a) → ∀ c : Nat, E v c → 0 ≤ rd out (c : Int) ∧ rd out (c : Int) ≤ rd out (v : Int) + 1
  row : rd out (a : Int) = (k : Int) → ∀ c : Nat, c < b → E a c → 0 ≤ rd out (c : Int)
theorem Lv.put {n s k a b : Nat} {E : Nat → Nat → Prop} {out : List Int} (h : Lv n E s k a b out) (hE : ∀ u v, E u v → u < n ∧ v < n) (ha : a < n) (hb : b < n) (h0 : rd out (a : Int) = (k : Int)) (hb0 : rd out (b : Int) < 0) (e : E a b) : Lv n E s k a (b + 1) (out.set b ((k : Int) + 1)) := by
  have hbl : b < out.length := by rw [h.sp.len]; exact hb
  have hr := fun v => rd_set2 out b v ((k : Int) + 1) hbl
  have hs := h.sp.put ha (by omega) hb hb0 e
  rw [h0] at hs
  refine ⟨hs, fun v hv hv0 => ?_, fun v hv hv0 hc c hvc => ?_, fun hk c hc hac => ?_⟩
  · rw [hr] at hv0 ⊢
    by_cases c : v = b
    · rw [if_pos c]; omega
    · rw [if_neg c] at hv0 ⊢
      exact h.top v hv hv0
  · rw [hr v] at hv0 hc ⊢
    by_cases e1 : v = b
    · rw [if_pos e1] at hc; omega
    · rw [if_neg e1] at hv0 hc ⊢
      obtain ⟨h1, h2⟩ := h.cl v hv hv0 hc c hvc
      rw [hr, if_neg (fun e2 => by rw [e2] at h1; omega)]
      exact ⟨h1, h2⟩
  · rw [hr]
    by_cases e1 : c = b
    · rw [if_pos e1]; omega
    · rw [if_neg e1]
      exact h.row h0 c (by omega) hac
theorem Lv.skip {n s k a b : Nat} {E : Nat → Nat → Prop} {out : List Int} (h : Lv n E s k a b out) (hs : rd out (a : Int) = (k : Int) → E a b → 0 ≤ rd out (b : Int)) : Lv n E s k a (b + 1) out := by
  refine ⟨h.sp, h.top, h.cl, fun hk c hc hac => ?_⟩
  by_cases e : c = b
  · subst e; exact hs hk hac
  · exact h.row hk c (by omega) hac
theorem Lv.next {n s k a : Nat} {E : Nat → Nat → Prop} {out : List Int} (h : Lv n E s k a n out) (hE : ∀ u v, E u v → u < n ∧ v < n) : Lv n E s k (a + 1) 0 out := by
  refine ⟨h.sp, h.top, fun v hv h0 hc c hvc => ?_, fun hk c hc hac => by omega⟩
  by_cases e : rd out (v : Int) = (k : Int) ∧ v = a
  · obtain ⟨e1, e2⟩ := e
    subst e2
    have h1 := h.row e1 c (hE _ _ hvc).2 hvc
    have h2 := h.top c (hE _ _ hvc).2 h1
    omega
  · exact h.cl v hv h0 (by omega) c hvc
theorem Lv.level {n s k : Nat} {E : Nat → Nat → Prop} {out : List Int} (h : Lv n E s k n 0 out) : Lv n E s (k + 1) 0 0 out := by
  refine ⟨h.sp, fun v hv h0 => ?_, fun v hv h0 hc c hvc => ?_, fun hk c hc hac => by omega⟩
  · have := h.top v hv h0; omega
  · exact h.cl v hv h0 (by omega) c hvc
section
variable (n : Nat) (hn : n ≤ 64) (l : List S36) (hl : l.length ≤ 100000) (s : Nat)
theorem wn {i : Nat} (h : i < 1000) : wrap64 ((i : Int) + 1) = ((i + 1 : Nat) : Int) := by rw [w64 (x := (i : Int) + 1) (by omega) (by omega)]; rfl
include hn hl in
theorem rs_l3 (k a : Nat) (hk : k < n) (ha : a < n) : ∀ (d b : Nat) (out : List Int), b + d = n → Lv n (Adj n l) s k a b out →
    ∃ out', Lv n (Adj n l) s k (a + 1) 0 out' ∧ ∀ r, Ev (fun m => thalwegref25_Steps.l2 m (n : Int) l out' (k : Int) ((a + 1 : Nat) : Int)) r → Ev (fun m => thalwegref25_Steps.l3 m (n : Int) l out (k : Int) (a : Int) (b : Int)) r := by
  have hE : ∀ u v, Adj n l u v → u < n ∧ v < n := fun u v h => h.lt
  intro d
  induction d with
  | zero =>
    intro b out hb h
    have e : b = n := by omega
    subst e
    refine ⟨out, h.next hE, fun r hr => ?_⟩
    refine Ev.step (f := fun k => _) (fun k => by rw [thalwegref25_Steps.l3, if_neg (by omega), wn (by omega)]) hr
  | succ d ih =>
    intro b out hb h
    have hbn : b < n := by omega
    have hlen := h.sp.len
    by_cases c : rd out (a : Int) = (k : Int)
    · by_cases c2 : rd out (b : Int) < 0
      · obtain ⟨t, ht, hev⟩ := link_ev n l hl a b
        cases t with
        | true =>
          obtain ⟨out', h', hr'⟩ := ih (b + 1) _ (by omega) (h.put hE ha hbn c c2 (ht.1 rfl))
          refine ⟨out', h', fun r hr => ?_⟩
          refine Ev.step (f := fun k => _) (fun k => by rw [thalwegref25_Steps.l3, if_pos (by omega), if_pos (by omega), if_pos (by omega), if_pos c, if_pos (by omega), if_pos (by omega), if_pos c2, wn (by omega), wn (by omega), Int.toNat_natCast]) ?_
          refine Ev.bind hev ?_
          simp only [if_true]
          exact hr' r hr
        | false =>
          obtain ⟨out', h', hr'⟩ := ih (b + 1) out (by omega) (h.skip (fun _ hA => absurd (ht.2 hA) (by simp)))
          refine ⟨out', h', fun r hr => ?_⟩
          refine Ev.step (f := fun k => _) (fun k => by rw [thalwegref25_Steps.l3, if_pos (by omega), if_pos (by omega), if_pos (by omega), if_pos c, if_pos (by omega), if_pos (by omega), if_pos c2, wn (by omega), wn (by omega)]) ?_
          refine Ev.bind hev ?_
          simp only [Bool.false_eq_true, if_false]
          exact hr' r hr
      · obtain ⟨out', h', hr'⟩ := ih (b + 1) out (by omega) (h.skip (fun _ _ => by omega))
        refine ⟨out', h', fun r hr => ?_⟩
        exact Ev.step (f := fun k => _) (fun k => by rw [thalwegref25_Steps.l3, if_pos (by omega), if_pos (by omega), if_pos (by omega), if_pos c, if_pos (by omega), if_pos (by omega), if_neg c2, wn (by omega)]) (hr' r hr)
    · obtain ⟨out', h', hr'⟩ := ih (b + 1) out (by omega) (h.skip (fun hk _ => absurd hk c))
      refine ⟨out', h', fun r hr => ?_⟩
      exact Ev.step (f := fun k => _) (fun k => by rw [thalwegref25_Steps.l3, if_pos (by omega), if_pos (by omega), if_pos (by omega), if_neg c, wn (by omega)]) (hr' r hr)
include hn hl in
theorem rs_l2 (k : Nat) (hk : k < n) : ∀ (d a : Nat) (out : List Int), a + d = n → Lv n (Adj n l) s k a 0 out →
    ∃ out', Lv n (Adj n l) s (k + 1) 0 0 out' ∧ ∀ r, Ev (fun m => thalwegref25_Steps.l1 m (n : Int) l out' ((k + 1 : Nat) : Int)) r → Ev (fun m => thalwegref25_Steps.l2 m (n : Int) l out (k : Int) (a : Int)) r := by
  intro d
  induction d with
  | zero =>
    intro a out ha h
    have e : a = n := by omega
    subst e
    exact ⟨out, h.level, fun r hr => Ev.step (f := fun k => _) (fun k => by rw [thalwegref25_Steps.l2, if_neg (by omega), wn (by omega)]) hr⟩
  | succ d ih =>
    intro a out ha h
    obtain ⟨out1, h1, hr1⟩ := rs_l3 n hn l hl s k a hk (by omega) n 0 out (by omega) h
    obtain ⟨out', h', hr'⟩ := ih (a + 1) out1 (by omega) h1
    exact ⟨out', h', fun r hr => Ev.step (f := fun k => _) (fun k => by rw [thalwegref25_Steps.l2, if_pos (by omega)]; rfl) (hr1 r (hr' r hr))⟩
include hn hl in
theorem rs_l1 : ∀ (d k : Nat) (out : List Int), k + d = n → Lv n (Adj n l) s k 0 0 out → ∃ out', Lv n (Adj n l) s n 0 0 out' ∧ Ev (fun m => thalwegref25_Steps.l1 m (n : Int) l out (k : Int)) (out', 0) := by
  intro d
  induction d with
  | zero =>
    intro k out hk h
    have e : k = n := by omega
    subst e
    exact ⟨out, h, Ev.step (f := fun k => _) (fun k => by rw [thalwegref25_Steps.l1, if_neg (by omega)]) (Ev.now _)⟩
  | succ d ih =>
    intro k out hk h
    obtain ⟨out1, h1, hr1⟩ := rs_l2 n hn l hl s k (by omega) n 0 out (by omega) h
    obtain ⟨out', h', hev⟩ := ih (k + 1) out1 (by omega) h1
    exact ⟨out', h', Ev.step (f := fun k => _) (fun k => by rw [thalwegref25_Steps.l1, if_pos (by omega)]; rfl) (hr1 _ hev)⟩
include hn in
theorem rs_l0 (hs : s < n) (r : List Int × Int) (hr : Ev (fun m => thalwegref25_Steps.l1 m (n : Int) l ((List.replicate n (-1)).set s 0) 0) r) : ∀ (d i : Nat) (out : List Int), i + d = n → out.length = n → (∀ v : Nat, v < i → rd out (v : Int) = -1) →
    Ev (fun m => thalwegref25_Steps.l0 m (n : Int) l (s : Int) out (i : Int)) r := by
  intro d
  induction d with
  | zero =>
    intro i out hi hlen ho
    have e : out = List.replicate n (-1) := rd_ext hlen List.length_replicate (fun v hv => by rw [ho v (by omega), rd_rep _ _ _ hv])
    subst e
    exact Ev.step (f := fun k => _) (fun k => by rw [thalwegref25_Steps.l0, if_neg (by omega), if_pos (by omega), if_pos (by omega), Int.toNat_natCast]) hr
  | succ d ih =>
    intro i out hi hlen ho
    refine Ev.step (f := fun k => _) (fun k => by rw [thalwegref25_Steps.l0, if_pos (by omega), if_pos (by omega), if_pos (by omega), wn (by omega), Int.toNat_natCast]) (ih (i + 1) _ (by omega) (by rw [List.length_set, hlen]) (fun v hv => ?_))
    rw [rd_set2 _ _ _ _ (by omega)]
    by_cases c : v = i
    · rw [if_pos c]
    · rw [if_neg c]; exact ho v (by omega)
include hn hl in
theorem rsteps_ev (hs : s < n) : ∃ r, IsD n (Adj n l) s r ∧ Ev (fun k => thalwegref25_Steps.f k (n : Int) l (s : Int)) (r, 0) := by
  have hE : ∀ u v, Adj n l u v → u < n ∧ v < n := fun u v h => h.lt
  have hl0 : s < (List.replicate n (-1 : Int)).length := by rw [List.length_replicate]; exact hs
  have hrd : ∀ v : Nat, v < n → rd ((List.replicate n (-1 : Int)).set s 0) (v : Int) = if v = s then 0 else -1 := fun v hv => by
    rw [rd_set2 _ _ _ _ hl0, rd_rep _ _ _ hv]
  have h0 : Lv n (Adj n l) s 0 0 0 ((List.replicate n (-1)).set s 0) := by
    refine ⟨Sp.init hs, fun v hv h => ?_, fun v hv h hc => ?_, fun _ c hc => by omega⟩
    · rw [hrd v hv]
      by_cases c : v = s
      · rw [if_pos c]; omega
      · rw [if_neg c]; omega
    · omega
  obtain ⟨r, hr, hev⟩ := rs_l1 n hn l hl s n 0 _ (by omega) h0
  refine ⟨r, hr.sp.done hs hE (fun v hv hv0 b hb => hr.cl v hv hv0 (Or.inl (by have := hr.sp.cnt v hv hv0; omega)) b hb), ?_⟩
  have h1 := rs_l0 n hn l s hs (r, 0) hev n 0 (List.replicate n 0) (by omega) List.length_replicate (fun v hv => by omega)
  unfold thalwegref25_Steps.f
  simp only [if_neg (show ¬ (n : Int) < 0 by omega), if_neg (show ¬ (n : Int) > 64 by omega), if_neg (show ¬ (s : Int) < 0 by omega), decide_eq_false (show ¬ (s : Int) ≥ (n : Int) by omega)]
  exact Ev.step (f := fun k => _) (fun k => by rw [thalwegref25_Steps.j0, if_neg Bool.false_ne_true, if_pos (by omega), if_pos (by omega), Int.toNat_natCast]; rfl) h1
end
theorem rsteps_bad (n : Int) (l : List S36) (s : Int) (h : n < 0 ∨ n > 64 ∨ s < 0 ∨ s ≥ n) : Ev (fun k => thalwegref25_Steps.f k n l s) ([], 1) := by
  have j : Ev (fun k => thalwegref25_Steps.j0 k n l s true) ([], 1) := Ev.step (f := fun k => _) (fun k => by rw [thalwegref25_Steps.j0, if_pos rfl]) (Ev.now _)
  unfold thalwegref25_Steps.f
  by_cases c0 : n < 0
  · simp only [if_pos c0]; exact j
  · by_cases c1 : n > 64
    · simp only [if_neg c0, if_pos c1]; exact j
    · by_cases c2 : s < 0
      · simp only [if_neg c0, if_neg c1, if_pos c2]; exact j
      · simp only [if_neg c0, if_neg c1, if_neg c2, decide_eq_true (show s ≥ n by omega)]; exact j
end Go.Proofs.Ytbejdbgcfgllhaa.P
