/- HeightEnds: of a row just these are the least and the greatest one, or there are none. -/
import Derived.Test.YtjeahmlahkngaaaSHeightEnds
import Derived.Test.YtjeahmlahkngaaaGed
import Derived.Test.YtjeahmlahkngaaaGhr
import Derived.Test.YtjeahmlahkngaaaP16
import Derived.Test.YtjeahmlahkngaaaP11
namespace Go.Proofs.Ytjeahmlahkngaaa.Pure
set_option linter.unusedSimpArgs false
set_option linter.unusedVariables false
open Go.RowKit Go.Proofs.Ytjeahmlahkngaaa.P Go.Proofs.YtjeahmlahkngaaaW.PrintWords Go.Proofs.YtjeahmlahkngaaaW.PrintLast
theorem awake_e : Ev (fun k => thalweglaw02_awake.f k) true := Ev.of (fun k => thalweglaw02_awake.mono k) (k := 12) (by decide +kernel)
def lowS (l : List S23) : Option (Nat × Nat) → S23
  | none => ⟨false, 0, 0, 0, 0, 0⟩
  | some p => rd_T23 l (p.1 : Int)
def highS (l : List S23) : Option (Nat × Nat) → S23
  | none => ⟨false, 0, 0, 0, 0, 0⟩
  | some p => rd_T23 l (p.2 : Int)
theorem endsT_eq (l : List S23) : endsT l = ((lowS l (eGo l l.length)).f0, (lowS l (eGo l l.length)).f1, (lowS l (eGo l l.length)).f2, (lowS l (eGo l l.length)).f3, (lowS l (eGo l l.length)).f4, (lowS l (eGo l l.length)).f5, (highS l (eGo l l.length)).f0, (highS l (eGo l l.length)).f1, (highS l (eGo l l.length)).f2, (highS l (eGo l l.length)).f3, (highS l (eGo l l.length)).f4, (highS l (eGo l l.length)).f5, (eGo l l.length).isSome) := by
  unfold endsT
  cases eGo l l.length with
  | none => rfl
  | some p => rfl
theorem wn (i : Nat) (h : i < 100000) : wrap64 ((i : Int) + 1) = ((i + 1 : Nat) : Int) := by rw [w64 (x := (i : Int) + 1) (by omega) (by omega)]; rfl
theorem rends_l (l : List S23) (hl : l.length ≤ 1000) : ∀ (d i : Nat) (s : Option (Nat × Nat)), i + d = l.length → eGo l i = s → Ev (fun k => thalwegref02_Ends.l0 k l s.isSome (i : Int) (lowS l s).f0 (lowS l s).f1 (lowS l s).f2 (lowS l s).f3 (lowS l s).f4 (lowS l s).f5 (highS l s).f0 (highS l s).f1 (highS l s).f2 (highS l s).f3 (highS l s).f4 (highS l s).f5) (endsT l) := by
  intro d
  induction d with
  | zero =>
    intro i s hi hs
    have e : i = l.length := by omega
    subst e
    subst hs
    rw [endsT_eq]
    exact Ev.step (f := fun k => _) (fun k => by rw [thalwegref02_Ends.l0, if_neg (by omega)]) (Ev.now _)
  | succ d ih =>
    intro i s hi hs
    have hstep : eGo l (i + 1) = eStep l i s := by show eStep l i (eGo l i) = _; rw [hs]
    have hn := ih (i + 1) _ (by omega) hstep
    refine Ev.step (f := fun k => _) (fun k => by rw [thalwegref02_Ends.l0, if_pos (by omega), if_pos (by omega)]) ?_
    refine Ev.bind (told_k (rd_T23 l (i : Int))) ?_
    cases hk : knownS (rd_T23 l (i : Int)) with
    | false =>
      have he : eStep l i s = s := by unfold eStep; rw [hk, if_neg (by decide)]
      rw [he] at hn
      exact Ev.congr (f := fun k => _) (fun k => by rw [if_neg Bool.false_ne_true, wn i (by omega)]) hn
    | true =>
      cases s with
      | none =>
        have he : eStep l i none = some (i, i) := by unfold eStep; rw [hk]; rfl
        rw [he] at hn
        refine Ev.congr (f := fun k => _) (fun k => by rw [if_pos rfl, Option.isSome_none, if_neg Bool.false_ne_true]) ?_
        exact Ev.step (f := fun k => _) (fun k => by rw [thalwegref02_Ends.j1, if_pos rfl, if_pos (by omega), if_pos (by omega), if_neg Bool.false_ne_true, wn i (by omega)]; rfl) hn
      | some p =>
        obtain ⟨a, b⟩ := p
        refine Ev.congr (f := fun k => _) (fun k => by rw [if_pos rfl, Option.isSome_some, if_pos rfl]) ?_
        refine Ev.bind (rless_k (rd_T23 l (i : Int)) (rd_T23 l (a : Int))) ?_
        have h2 := rless_k (rd_T23 l (b : Int)) (rd_T23 l (i : Int))
        cases c1 : lessS (rd_T23 l (i : Int)) (rd_T23 l (a : Int)) with
        | true =>
          refine Ev.step (f := fun k => _) (fun k => by rw [thalwegref02_Ends.j1, if_pos rfl, if_pos (by omega), if_pos (by omega), if_pos rfl]) ?_
          refine Ev.bind h2 ?_
          cases c2 : lessS (rd_T23 l (b : Int)) (rd_T23 l (i : Int)) with
          | true =>
            have he : eStep l i (some (a, b)) = some (i, i) := by unfold eStep; rw [hk]; show some (if _ then i else a, if _ then i else b) = _; rw [c1, c2]; rfl
            rw [he] at hn
            exact Ev.congr (f := fun k => _) (fun k => by rw [if_pos rfl, wn i (by omega)]; rfl) hn
          | false =>
            have he : eStep l i (some (a, b)) = some (i, b) := by unfold eStep; rw [hk]; show some (if _ then i else a, if _ then i else b) = _; rw [c1, c2]; rfl
            rw [he] at hn
            exact Ev.congr (f := fun k => _) (fun k => by rw [if_neg Bool.false_ne_true, wn i (by omega)]; rfl) hn
        | false =>
          refine Ev.step (f := fun k => _) (fun k => by rw [thalwegref02_Ends.j1, if_neg Bool.false_ne_true, if_pos rfl, if_pos (by omega), if_pos (by omega)]) ?_
          refine Ev.bind h2 ?_
          cases c2 : lessS (rd_T23 l (b : Int)) (rd_T23 l (i : Int)) with
          | true =>
            have he : eStep l i (some (a, b)) = some (a, i) := by unfold eStep; rw [hk]; show some (if _ then i else a, if _ then i else b) = _; rw [c1, c2]; rfl
            rw [he] at hn
            exact Ev.congr (f := fun k => _) (fun k => by rw [if_pos rfl, wn i (by omega)]; rfl) hn
          | false =>
            have he : eStep l i (some (a, b)) = some (a, b) := by unfold eStep; rw [hk]; show some (if _ then i else a, if _ then i else b) = _; rw [c1, c2]; rfl
            rw [he] at hn
            exact Ev.congr (f := fun k => _) (fun k => by rw [if_neg Bool.false_ne_true, wn i (by omega)]; rfl) hn
theorem HeightEnds : thalweglaw02_HeightEnds.Pure := by
  intro l _
  have key : Ev (fun k => thalweglaw02_HeightEnds.f k l) true := by
    unfold thalweglaw02_HeightEnds.f
    by_cases c : (l.length : Int) > 100
    · simp only [if_pos c]; exact Ev.now _
    · simp only [if_neg c]
      have h1 : height_Ends.f l = some (endsT l) := by unfold height_Ends.f; rw [if_pos (by omega)]
      have h2 : Ev (fun k => thalwegref02_Ends.f k l) (endsT l) := by
        unfold thalwegref02_Ends.f
        exact rends_l l (by omega) l.length 0 none (by omega) rfl
      refine Ev.congr (f := fun k => _) (fun k => by rw [h1, Option.bind_some]) ?_
      refine Ev.bind h2 (Ev.bind awake_e ?_)
      generalize endsT l = t
      simp only [beq_self_eq_true, Bool.and_self, if_true]
      exact Ev.now _
  obtain ⟨K, hK⟩ := key
  exact ⟨K, hK K (Nat.le_refl _)⟩
end Go.Proofs.Ytjeahmlahkngaaa.Pure
