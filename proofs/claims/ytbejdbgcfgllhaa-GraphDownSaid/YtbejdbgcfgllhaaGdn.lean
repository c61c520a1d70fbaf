/- Layer 25, plain: Fresh's pairs go down; next ones that go down have no cycle. -/
import Derived.Test.YtbejdbgcfgllhaaGhl
import Derived.Test.YtbejdbgcfgllhaaGww
namespace Go.Proofs.Ytbejdbgcfgllhaa.P
set_option linter.unusedSimpArgs false
set_option linter.unusedVariables false
open Go.RowKit Go.Proofs.YtbejdbgcfgllhaaW.PrintWords Go.Proofs.YtbejdbgcfgllhaaW.PrintLast Go.Proofs.YtbejdbgcfgllhaaW.PrintMore
theorem wq {i : Nat} (h : i < 100000) : wrap64 ((i : Int) + 1) = ((i + 1 : Nat) : Int) := by rw [w64 (x := (i : Int) + 1) (by omega) (by omega)]; rfl
/-- From `i` one goes down to `j`. -/
def Dn (own : List S45) (i j : Int) : Prop := 0 ≤ i ∧ i < (own.length : Int) ∧ 0 ≤ j ∧ j < (own.length : Int) ∧ lessS (rd_T45 own j) (rd_T45 own i) = true
def AllDn (own : List S45) (out : List S36) : Prop := ∀ p ∈ out, Dn own p.f0 p.f1
theorem eq45 (x y : S45) : (x.f0 == y.f0 && (x.f1 == y.f1 && (x.f2 == y.f2 && (x.f3 == y.f3 && (x.f4 == y.f4 && (x.f5 == y.f5)))))) = true ↔ x = y := by
  constructor
  · intro h
    simp only [Bool.and_eq_true, beq_iff_eq] at h
    obtain ⟨h0, h1, h2, h3, h4, h5⟩ := h
    cases x; cases y
    simp only at h0 h1 h2 h3 h4 h5
    rw [h0, h1, h2, h3, h4, h5]
  · rintro rfl
    simp only [beq_self_eq_true, Bool.and_self]
theorem fresh_l1 (own : List S45) (views : List (List S55)) (row : List S55) (hrow : row.length ≤ 30) (i : Nat) (hi : i < own.length) (h30 : i ≤ 30) (M : Int) (c : Nat) (hc : c ≤ 2000) : ∀ (d j : Nat) (out : List S36), j + d = row.length → AllDn own out → out.length ≤ c + j →
    ∃ out', AllDn own out' ∧ out'.length ≤ c + row.length ∧ ∀ r, Ev (fun m => graph_Fresh.l0 m own views out' M ((i + 1 : Nat) : Int)) r → Ev (fun m => graph_Fresh.l1 m own views out (i : Int) M (i : Int) row (row.length : Int) (j : Int)) r := by
  intro d
  induction d with
  | zero =>
    intro j out hj ho hl
    exact ⟨out, ho, by omega, fun r hr => Ev.step (f := fun k => _) (fun m => by rw [graph_Fresh.l1, if_neg (by omega), wq (by omega)]) hr⟩
  | succ d ih =>
    intro j out hj ho hl
    have hskip := ih (j + 1) out (by omega) ho (by omega)
    generalize hv : rd_T55 row (j : Int) = v
    by_cases c1 : v.f0 ≥ 0
    · by_cases c2 : v.f0 < (own.length : Int)
      · by_cases c3 : ((rd_T45 own v.f0).f0 == v.f1.f0 && ((rd_T45 own v.f0).f1 == v.f1.f1 && ((rd_T45 own v.f0).f2 == v.f1.f2 && ((rd_T45 own v.f0).f3 == v.f1.f3 && ((rd_T45 own v.f0).f4 == v.f1.f4 && ((rd_T45 own v.f0).f5 == v.f1.f5)))))) = true
        · have he := (eq45 _ _).1 c3
          have hev := lessS_ev v.f1 (rd_T45 own (i : Int))
          cases hL : lessS v.f1 (rd_T45 own (i : Int)) with
          | true =>
            rw [hL] at hev
            obtain ⟨out', h1, h2, h3⟩ := ih (j + 1) (out ++ [⟨(i : Int), v.f0⟩]) (by omega) (fun p hp => by
              rcases List.mem_append.1 hp with hp | hp
              · exact ho p hp
              · rw [List.mem_singleton] at hp
                subst hp
                exact ⟨by simp only; omega, by simp only; omega, c1, c2, by simp only; rw [he]; exact hL⟩) (by rw [List.length_append, List.length_singleton]; omega)
            refine ⟨out', h1, h2, fun r hr => ?_⟩
            refine Ev.step (f := fun k => _) (fun m => by rw [graph_Fresh.l1, if_pos (by omega), if_pos (by omega), if_pos (by omega), hv, if_pos c1, if_pos c2, if_pos c1, if_pos c3, if_pos (by omega), if_pos (by omega)]) ?_
            refine Ev.bind hev ?_
            exact Ev.congr (f := fun m => _) (fun m => by rw [if_pos rfl, if_pos (by omega), wq (by omega)]) (h3 r hr)
          | false =>
            rw [hL] at hev
            obtain ⟨out', h1, h2, h3⟩ := hskip
            refine ⟨out', h1, h2, fun r hr => ?_⟩
            refine Ev.step (f := fun k => _) (fun m => by rw [graph_Fresh.l1, if_pos (by omega), if_pos (by omega), if_pos (by omega), hv, if_pos c1, if_pos c2, if_pos c1, if_pos c3, if_pos (by omega), if_pos (by omega)]) ?_
            refine Ev.bind hev ?_
            exact Ev.congr (f := fun m => _) (fun m => by rw [if_neg Bool.false_ne_true, wq (by omega)]) (h3 r hr)
        · obtain ⟨out', h1, h2, h3⟩ := hskip
          exact ⟨out', h1, h2, fun r hr => Ev.step (f := fun k => _) (fun m => by rw [graph_Fresh.l1, if_pos (by omega), if_pos (by omega), if_pos (by omega), hv, if_pos c1, if_pos c2, if_pos c1, if_neg c3, wq (by omega)]) (h3 r hr)⟩
      · obtain ⟨out', h1, h2, h3⟩ := hskip
        exact ⟨out', h1, h2, fun r hr => Ev.step (f := fun k => _) (fun m => by rw [graph_Fresh.l1, if_pos (by omega), if_pos (by omega), if_pos (by omega), hv, if_pos c1, if_neg c2, wq (by omega)]) (h3 r hr)⟩
    · obtain ⟨out', h1, h2, h3⟩ := hskip
      exact ⟨out', h1, h2, fun r hr => Ev.step (f := fun k => _) (fun m => by rw [graph_Fresh.l1, if_pos (by omega), if_pos (by omega), if_pos (by omega), hv, if_neg c1, wq (by omega)]) (h3 r hr)⟩
theorem fresh_l0 (own : List S45) (views : List (List S55)) (M : Nat) (h1 : M ≤ own.length) (h2 : M ≤ views.length) (h30 : M ≤ 30) (hv : ∀ j : Nat, j < views.length → (rd_L8 views (j : Int)).length ≤ 30) : ∀ (d i : Nat) (out : List S36), i + d = M → AllDn own out → out.length ≤ 30 * i →
    ∃ out', AllDn own out' ∧ out'.length ≤ 900 ∧ Ev (fun m => graph_Fresh.l0 m own views out (M : Int) (i : Int)) out' := by
  intro d
  induction d with
  | zero =>
    intro i out hi ho hl
    exact ⟨out, ho, by omega, Ev.step (f := fun k => _) (fun m => by rw [graph_Fresh.l0, if_neg (by omega)]) (Ev.now _)⟩
  | succ d ih =>
    intro i out hi ho hl
    have hr := hv i (by omega)
    obtain ⟨out1, g1, g2, g3⟩ := fresh_l1 own views (rd_L8 views (i : Int)) hr i (by omega) (by omega) (M : Int) (30 * i) (by omega) (rd_L8 views (i : Int)).length 0 out (by omega) ho (by omega)
    obtain ⟨out', k1, k2, hev⟩ := ih (i + 1) out1 (by omega) g1 (by omega)
    exact ⟨out', k1, k2, Ev.step (f := fun k => _) (fun m => by rw [graph_Fresh.l0, if_pos (by omega), if_pos (by omega), if_pos (by omega)]; rfl) (g3 _ hev)⟩
theorem fresh_ev (own : List S45) (views : List (List S55)) (ho : own.length ≤ 30) (hw : views.length ≤ 30) (hv : ∀ j : Nat, j < views.length → (rd_L8 views (j : Int)).length ≤ 30) : ∃ out, AllDn own out ∧ out.length ≤ 900 ∧ Ev (fun m => graph_Fresh.f m own views) out := by
  obtain ⟨M, hM, h1, h2⟩ : ∃ M : Nat, mn (own.length : Int) (views.length : Int) = (M : Int) ∧ M ≤ own.length ∧ M ≤ views.length := by
    unfold mn
    split
    · exact ⟨views.length, rfl, by omega, Nat.le_refl _⟩
    · exact ⟨own.length, rfl, Nat.le_refl _, by omega⟩
  unfold graph_Fresh.f
  simp only [hM]
  exact fresh_l0 own views M h1 h2 (by omega) hv M 0 [] (by omega) (fun p hp => by cases hp) (by simp)
/-! No cycle. -/
theorem dn_path {own : List S45} {next : List Int} (hlen : next.length = own.length) (hd : ∀ i : Int, InR next i → InR next (rd next i) → Dn own i (rd next i)) : ∀ {a b : Int} {l : List Int}, Pth next a l b → InR next b → l ≠ [] → Lt5 (rd_T45 own b) (rd_T45 own a) := by
  intro a b l h
  induction h with
  | nil a => intro _ h; exact absurd rfl h
  | @cons a b l h1 h2 ih =>
    intro hb _
    by_cases c : l = []
    · subst c
      have e := h2.nilE
      rw [← e] at hb ⊢
      exact lessS_lt (hd a h1 hb).2.2.2.2
    · have h3 := ih hb c
      have hn : InR next (rd next a) := by
        cases l with
        | nil => exact absurd rfl c
        | cons x l => rw [← h2.head]; exact h2.inr x (List.mem_cons_self ..)
      exact h3.trans (lessS_lt (hd a h1 hn).2.2.2.2)
theorem dn_nocyc {own : List S45} {next : List Int} (hlen : next.length = own.length) (hd : ∀ i : Int, InR next i → InR next (rd next i) → Dn own i (rd next i)) (g : Int) (m : List Int) (hg : InR next g) : ¬ Wlk next g m g := fun hw =>
  (dn_path hlen hd hw.pth hg (hw.ne hg)).irrefl
end Go.Proofs.Ytbejdbgcfgllhaa.P
