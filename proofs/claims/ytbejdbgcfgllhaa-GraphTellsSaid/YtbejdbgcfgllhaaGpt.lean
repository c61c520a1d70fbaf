/- Layer 25, plain: the parts, the program's and the document's. -/
import Derived.Test.YtbejdbgcfgllhaaGsp
import Derived.Test.YtbejdbgcfgllhaaGrs
import Derived.Test.YtbejdbgcfgllhaaP8
import Derived.Test.YtbejdbgcfgllhaaP14
namespace Go.Proofs.Ytbejdbgcfgllhaa.P
set_option linter.unusedSimpArgs false
set_option linter.unusedVariables false
open Go.RowKit Go.Proofs.YtbejdbgcfgllhaaW.PrintWords Go.Proofs.YtbejdbgcfgllhaaW.PrintLast Go.Proofs.YtbejdbgcfgllhaaW.PrintMore
def Con (n : Nat) (l : List S36) (a v : Nat) : Prop := ∃ k, Rch (Adj n l) a k v
theorem Con.refl {n : Nat} {l : List S36} (a : Nat) : Con n l a a := ⟨0, rfl⟩
theorem Con.symm {n : Nat} {l : List S36} {a b : Nat} (h : Con n l a b) : Con n l b a := by
  obtain ⟨k, h⟩ := h
  exact ⟨k, h.rev (fun _ _ h => h.symm)⟩
theorem Con.trans {n : Nat} {l : List S36} {a b c : Nat} (h : Con n l a b) (g : Con n l b c) : Con n l a c := by
  obtain ⟨j, h⟩ := h
  obtain ⟨k, g⟩ := g
  exact ⟨j + k, h.trans g⟩
theorem IsD.con {n : Nat} {l : List S36} {s : Nat} {out : List Int} (h : IsD n (Adj n l) s out) {v : Nat} (hv : v < n) : 0 ≤ rd out (v : Int) ↔ Con n l s v :=
  ⟨fun h0 => ⟨_, h.rch v hv h0⟩, fun ⟨k, hk⟩ => (h.min v k hv hk).1⟩
def POk (n : Nat) (l : List S36) (out : List Int) (v : Nat) : Prop := ∃ p : Nat, rd out (v : Int) = (p : Int) ∧ Con n l p v ∧ ∀ u, Con n l u v → p ≤ u
theorem POk.uniq {n : Nat} {l : List S36} {a b : List Int} (ha : a.length = n) (hb : b.length = n) (h : ∀ v, v < n → POk n l a v) (g : ∀ v, v < n → POk n l b v) : a = b := by
  refine rd_ext ha hb fun v hv => ?_
  obtain ⟨p, h1, h2, h3⟩ := h v hv
  obtain ⟨q, g1, g2, g3⟩ := g v hv
  have := h3 q g2
  have := g3 p h2
  omega
/-! The program's. -/
def Pt (n : Nat) (l : List S36) (a : Nat) (out : List Int) : Prop := out.length = n ∧ ∀ v, v < n → (∃ p : Nat, p < a ∧ rd out (v : Int) = (p : Int) ∧ Con n l p v ∧ ∀ u, Con n l u v → p ≤ u) ∨ rd out (v : Int) = -1 ∧ ∀ u, u < a → ¬ Con n l u v
theorem Pt.skip {n a : Nat} {l : List S36} {out : List Int} (h : Pt n l a out) (ha : a < n) (h0 : 0 ≤ rd out (a : Int)) : Pt n l (a + 1) out := by
  refine ⟨h.1, fun v hv => ?_⟩
  rcases h.2 v hv with ⟨p, hp, h1, h2, h3⟩ | ⟨h1, h2⟩
  · exact Or.inl ⟨p, by omega, h1, h2, h3⟩
  · refine Or.inr ⟨h1, fun u hu hc => ?_⟩
    by_cases e : u = a
    · subst e
      rcases h.2 u ha with ⟨p, hp, g1, g2, g3⟩ | ⟨g1, g2⟩
      · exact h2 p hp (g2.trans hc)
      · omega
    · exact h2 u (by omega) hc
theorem Pt.put {n a : Nat} {l : List S36} {out out' : List Int} (h : Pt n l a out) (ha : a < n) (h0 : ¬ 0 ≤ rd out (a : Int)) (hlen : out'.length = n) (h1 : ∀ v, v < n → Con n l a v → rd out' (v : Int) = (a : Int)) (h2 : ∀ v, v < n → ¬ Con n l a v → rd out' (v : Int) = rd out (v : Int)) : Pt n l (a + 1) out' := by
  have hm : ∀ u, u < a → ¬ Con n l u a := by
    rcases h.2 a ha with ⟨p, hp, g1, g2, g3⟩ | ⟨g1, g2⟩
    · omega
    · exact g2
  refine ⟨hlen, fun v hv => ?_⟩
  by_cases c : Con n l a v
  · refine Or.inl ⟨a, by omega, h1 v hv c, c, fun u hu => ?_⟩
    rcases Nat.lt_or_ge u a with e | e
    · exact absurd (hu.trans c.symm) (hm u e)
    · exact e
  · rw [h2 v hv c]
    rcases h.2 v hv with ⟨p, hp, g1, g2, g3⟩ | ⟨g1, g2⟩
    · exact Or.inl ⟨p, by omega, g1, g2, g3⟩
    · refine Or.inr ⟨g1, fun u hu hc => ?_⟩
      by_cases e : u = a
      · subst e; exact c hc
      · exact g2 u (by omega) hc
section
variable (n : Nat) (hn : n ≤ 64) (l : List S36) (hl : l.length ≤ 100000)
include hn in
theorem pt_l1 (ll : List (List Int)) (a : Nat) (ha : a < n) (st : List Int) (hst : st.length = n) (out0 : List Int) : ∀ (d j : Nat) (out : List Int), j + d = n → out.length = n → (∀ v, v < n → rd out (v : Int) = if v < j ∧ 0 ≤ rd st (v : Int) then (a : Int) else rd out0 (v : Int)) →
    ∃ out', out'.length = n ∧ (∀ v, v < n → rd out' (v : Int) = if 0 ≤ rd st (v : Int) then (a : Int) else rd out0 (v : Int)) ∧ ∀ r, Ev (fun m => graph_Parts.l0 m ll out' (n : Int) ((a + 1 : Nat) : Int)) r → Ev (fun m => graph_Parts.l1 m ll out (a : Int) (n : Int) (a : Int) st (n : Int) (j : Int)) r := by
  intro d
  induction d with
  | zero =>
    intro j out hj hlen ho
    refine ⟨out, hlen, fun v hv => ?_, fun r hr => ?_⟩
    · rw [ho v hv]
      by_cases c : 0 ≤ rd st (v : Int)
      · rw [if_pos ⟨by omega, c⟩, if_pos c]
      · rw [if_neg (fun e => c e.2), if_neg c]
    · exact Ev.step (f := fun k => _) (fun k => by rw [graph_Parts.l1, if_neg (by omega), wn (by omega)]) hr
  | succ d ih =>
    intro j out hj hlen ho
    by_cases c : rd st (j : Int) ≥ 0
    · obtain ⟨out', h1, h2, h3⟩ := ih (j + 1) (out.set j (a : Int)) (by omega) (by rw [List.length_set, hlen]) (fun v hv => by
        rw [rd_set2 _ _ _ _ (by omega)]
        by_cases e : v = j
        · subst e; rw [if_pos rfl, if_pos ⟨by omega, c⟩]
        · rw [if_neg e, ho v hv]
          by_cases c2 : v < j ∧ 0 ≤ rd st (v : Int)
          · rw [if_pos c2, if_pos ⟨by omega, c2.2⟩]
          · rw [if_neg c2, if_neg (fun c3 => c2 ⟨by omega, c3.2⟩)])
      refine ⟨out', h1, h2, fun r hr => ?_⟩
      exact Ev.step (f := fun k => _) (fun k => by rw [graph_Parts.l1, if_pos (by omega), if_pos (by omega), if_pos (by omega), if_pos c, if_pos (by omega), wn (by omega), Int.toNat_natCast]) (h3 r hr)
    · obtain ⟨out', h1, h2, h3⟩ := ih (j + 1) out (by omega) hlen (fun v hv => by
        rw [ho v hv]
        by_cases c2 : v < j ∧ 0 ≤ rd st (v : Int)
        · rw [if_pos c2, if_pos ⟨by omega, c2.2⟩]
        · rw [if_neg c2, if_neg (fun c3 => c2 ⟨by
            by_cases e : v = j
            · subst e; exact absurd c3.2 (by omega)
            · omega, c3.2⟩)])
      refine ⟨out', h1, h2, fun r hr => ?_⟩
      exact Ev.step (f := fun k => _) (fun k => by rw [graph_Parts.l1, if_pos (by omega), if_pos (by omega), if_pos (by omega), if_neg c, wn (by omega)]) (h3 r hr)
include hn hl in
theorem pt_l0 (ll : List (List Int)) (hN : Nrs n l ll) : ∀ (d a : Nat) (out : List Int), a + d = n → Pt n l a out → ∃ out', out'.length = n ∧ (∀ v, v < n → POk n l out' v) ∧ Ev (fun m => graph_Parts.l0 m ll out (n : Int) (a : Int)) (out', 0) := by
  intro d
  induction d with
  | zero =>
    intro a out ha h
    refine ⟨out, h.1, fun v hv => ?_, Ev.step (f := fun k => _) (fun k => by rw [graph_Parts.l0, if_neg (by omega)]) (Ev.now _)⟩
    rcases h.2 v hv with ⟨p, hp, g1, g2, g3⟩ | ⟨g1, g2⟩
    · exact ⟨p, g1, g2, g3⟩
    · exact absurd (Con.refl v) (g2 v (by omega))
  | succ d ih =>
    intro a out ha h
    have hlen := h.1
    by_cases c : rd out (a : Int) ≥ 0
    · obtain ⟨out', h1, h2, hev⟩ := ih (a + 1) out (by omega) (h.skip (by omega) c)
      exact ⟨out', h1, h2, Ev.step (f := fun k => _) (fun k => by rw [graph_Parts.l0, if_pos (by omega), if_pos (by omega), if_pos (by omega), if_pos c, wn (by omega)]) hev⟩
    · obtain ⟨st, hst, hsev⟩ := spread_ev n (by omega) l hl ll hN a (by omega)
      obtain ⟨out1, g1, g2, g3⟩ := pt_l1 n hn ll a (by omega) st hst.len out n 0 out (by omega) hlen (fun v hv => by rw [if_neg (by omega)])
      obtain ⟨out', h1, h2, hev⟩ := ih (a + 1) out1 (by omega) (h.put (by omega) c g1 (fun v hv hc => by rw [g2 v hv, if_pos ((hst.con hv).2 hc)]) (fun v hv hc => by rw [g2 v hv, if_neg (fun e => hc ((hst.con hv).1 e))]))
      refine ⟨out', h1, h2, ?_⟩
      refine Ev.step (f := fun k => _) (fun k => by rw [graph_Parts.l0, if_pos (by omega), if_pos (by omega), if_pos (by omega), if_neg c]) ?_
      refine Ev.bind hsev ?_
      rw [hst.len]
      exact g3 _ hev
include hn hl in
theorem parts_ev : ∃ out, out.length = n ∧ (∀ v, v < n → POk n l out v) ∧ Ev (fun m => graph_Parts.f m (n : Int) l) (out, 0) := by
  obtain ⟨ll, he, hN⟩ := near_ok n l (by omega) hl
  obtain ⟨out, h1, h2, hev⟩ := pt_l0 n hn l hl ll hN n 0 (List.replicate n (-1)) (by omega) ⟨List.length_replicate, fun v hv => Or.inr ⟨rd_rep _ _ _ hv, fun u hu => by omega⟩⟩
  refine ⟨out, h1, h2, ?_⟩
  unfold graph_Parts.f
  simp only [if_neg (show ¬ (n : Int) < 0 by omega), decide_eq_false (show ¬ (n : Int) > 64 by omega)]
  exact Ev.step (f := fun k => _) (fun k => by rw [graph_Parts.j0, if_neg Bool.false_ne_true, he, Option.bind_some, rep_ok n (by omega), Option.bind_some, List.length_replicate]; rfl) hev
/-! The document's. -/
include hn in
theorem rp_l1 (i : Nat) (hi : i < n) (st : List Int) (hst : st.length = n) (out0 : List Int) : ∀ (j : Nat) (out : List Int), j ≤ n → out.length = n → (∀ v, v ≠ i → rd out (v : Int) = rd out0 (v : Int)) →
    ((∃ p : Nat, j ≤ p ∧ p < n ∧ rd out (i : Int) = (p : Int) ∧ 0 ≤ rd st (p : Int) ∧ ∀ u : Nat, j ≤ u → u < n → 0 ≤ rd st (u : Int) → p ≤ u) ∨ ∀ u : Nat, j ≤ u → u < n → ¬ 0 ≤ rd st (u : Int)) →
    ∃ out', out'.length = n ∧ (∀ v, v ≠ i → rd out' (v : Int) = rd out0 (v : Int)) ∧ ((∃ p : Nat, p < n ∧ rd out' (i : Int) = (p : Int) ∧ 0 ≤ rd st (p : Int) ∧ ∀ u : Nat, u < n → 0 ≤ rd st (u : Int) → p ≤ u) ∨ ∀ u : Nat, u < n → ¬ 0 ≤ rd st (u : Int)) ∧
      ∀ r, Ev (fun m => thalwegref25_Parts.l0 m (n : Int) l out' ((i + 1 : Nat) : Int)) r → Ev (fun m => thalwegref25_Parts.l1 m (n : Int) l out (i : Int) st ((j : Int) - 1)) r := by
  intro j
  induction j with
  | zero =>
    intro out hj hlen ho h
    refine ⟨out, hlen, ho, ?_, fun r hr => Ev.step (f := fun k => _) (fun k => by rw [thalwegref25_Parts.l1, if_neg (by omega), wn (by omega)]) hr⟩
    rcases h with ⟨p, _, h1, h2, h3, h4⟩ | h
    · exact Or.inl ⟨p, h1, h2, h3, fun u hu h0 => h4 u (by omega) hu h0⟩
    · exact Or.inr fun u hu => h u (by omega) hu
  | succ j ih =>
    intro out hj hlen ho h
    have hw : wrap64 (((j + 1 : Nat) : Int) - 1 - 1) = (j : Int) - 1 := by rw [w64 (by omega) (by omega)]; omega
    have hj0 : ((j + 1 : Nat) : Int) - 1 = (j : Int) := by omega
    by_cases c : rd st (j : Int) ≥ 0
    · obtain ⟨out', h1, h2, h3, h4⟩ := ih (out.set i (j : Int)) (by omega) (by rw [List.length_set, hlen]) (fun v hv => by rw [rd_set2 _ _ _ _ (by omega), if_neg hv]; exact ho v hv)
        (Or.inl ⟨j, Nat.le_refl _, by omega, by rw [rd_set2 _ _ _ _ (by omega), if_pos rfl], c, fun u hu _ _ => hu⟩)
      refine ⟨out', h1, h2, h3, fun r hr => ?_⟩
      exact Ev.step (f := fun k => _) (fun k => by rw [thalwegref25_Parts.l1, hw, hj0, if_pos (by omega), if_pos (by omega), if_pos (by omega), if_pos c, if_pos (by omega), if_pos (by omega), Int.toNat_natCast]) (h4 r hr)
    · obtain ⟨out', h1, h2, h3, h4⟩ := ih out (by omega) hlen ho (by
        have hle : ∀ u : Nat, j ≤ u → 0 ≤ rd st (u : Int) → j + 1 ≤ u := fun u hu h0 => by
          by_cases e : u = j
          · subst e; exact absurd h0 c
          · omega
        rcases h with ⟨p, h0, h1, h2, h3, h4⟩ | h
        · exact Or.inl ⟨p, by omega, h1, h2, h3, fun u hu hun h0 => h4 u (hle u hu h0) hun h0⟩
        · exact Or.inr fun u hu hun h0 => h u (hle u hu h0) hun h0)
      refine ⟨out', h1, h2, h3, fun r hr => ?_⟩
      exact Ev.step (f := fun k => _) (fun k => by rw [thalwegref25_Parts.l1, hw, hj0, if_pos (by omega), if_pos (by omega), if_pos (by omega), if_neg c]) (h4 r hr)
include hn hl in
theorem rp_l0 : ∀ (d i : Nat) (out : List Int), i + d = n → out.length = n → (∀ v, v < i → POk n l out v) → ∃ out', out'.length = n ∧ (∀ v, v < n → POk n l out' v) ∧ Ev (fun m => thalwegref25_Parts.l0 m (n : Int) l out (i : Int)) (out', 0) := by
  intro d
  induction d with
  | zero =>
    intro i out hi hlen h
    exact ⟨out, hlen, fun v hv => h v (by omega), Ev.step (f := fun k => _) (fun k => by rw [thalwegref25_Parts.l0, if_neg (by omega)]) (Ev.now _)⟩
  | succ d ih =>
    intro i out hi hlen h
    obtain ⟨st, hst, hsev⟩ := rsteps_ev n hn l hl i (by omega)
    obtain ⟨out1, g1, g2, g3, g4⟩ := rp_l1 n hn l i (by omega) st hst.len out n out (Nat.le_refl _) hlen (fun v hv => rfl) (Or.inr fun u hu hun => by omega)
    obtain ⟨out', h1, h2, hev⟩ := ih (i + 1) out1 (by omega) g1 (fun v hv => by
      by_cases e : v = i
      · subst e
        rcases g3 with ⟨p, k1, k2, k3, k4⟩ | k
        · exact ⟨p, k2, ((hst.con k1).1 k3).symm, fun u hu => by
            rcases Nat.lt_or_ge u n with hun | hun
            · exact k4 u hun ((hst.con hun).2 hu.symm)
            · omega⟩
        · exact absurd (show 0 ≤ rd st (v : Int) by rw [hst.src]; exact Int.le_refl _) (k v (by omega))
      · obtain ⟨p, k1, k2, k3⟩ := h v (by omega)
        exact ⟨p, by rw [g2 v e]; exact k1, k2, k3⟩)
    refine ⟨out', h1, h2, ?_⟩
    refine Ev.step (f := fun k => _) (fun k => by rw [thalwegref25_Parts.l0, if_pos (by omega), show wrap64 ((n : Int) - 1) = (n : Int) - 1 from w64 (by omega) (by omega)]) ?_
    exact Ev.bind hsev (g4 _ hev)
include hn hl in
theorem rparts_ev : ∃ out, out.length = n ∧ (∀ v, v < n → POk n l out v) ∧ Ev (fun m => thalwegref25_Parts.f m (n : Int) l) (out, 0) := by
  obtain ⟨out, h1, h2, hev⟩ := rp_l0 n hn l hl n 0 (List.replicate n 0) (by omega) List.length_replicate (fun v hv => by omega)
  refine ⟨out, h1, h2, ?_⟩
  unfold thalwegref25_Parts.f
  simp only [if_neg (show ¬ (n : Int) < 0 by omega), decide_eq_false (show ¬ (n : Int) > 64 by omega)]
  exact Ev.step (f := fun k => _) (fun k => by rw [thalwegref25_Parts.j0, if_neg Bool.false_ne_true, if_pos (by omega), if_pos (by omega), Int.toNat_natCast]; rfl) hev
end
theorem parts_bad (n : Int) (l : List S36) (h : n < 0 ∨ n > 64) : Ev (fun k => graph_Parts.f k n l) ([], 1) := by
  have j : Ev (fun k => graph_Parts.j0 k n l true) ([], 1) := Ev.step (f := fun k => _) (fun k => by rw [graph_Parts.j0, if_pos rfl]) (Ev.now _)
  unfold graph_Parts.f
  by_cases c0 : n < 0
  · simp only [if_pos c0]; exact j
  · simp only [if_neg c0, decide_eq_true (show n > 64 by omega)]; exact j
theorem rparts_bad (n : Int) (l : List S36) (h : n < 0 ∨ n > 64) : Ev (fun k => thalwegref25_Parts.f k n l) ([], 1) := by
  have j : Ev (fun k => thalwegref25_Parts.j0 k n l true) ([], 1) := Ev.step (f := fun k => _) (fun k => by rw [thalwegref25_Parts.j0, if_pos rfl]) (Ev.now _)
  unfold thalwegref25_Parts.f
  by_cases c0 : n < 0
  · simp only [if_pos c0]; exact j
  · simp only [if_neg c0, decide_eq_true (show n > 64 by omega)]; exact j
end Go.Proofs.Ytbejdbgcfgllhaa.P
