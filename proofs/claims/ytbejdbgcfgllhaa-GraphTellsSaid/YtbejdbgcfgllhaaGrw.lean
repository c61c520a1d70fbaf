/- Layer 25, plain: the document's cycle and way are those of the paths. -/
import Derived.Test.YtbejdbgcfgllhaaGwk
import Derived.Test.YtbejdbgcfgllhaaP16
import Derived.Test.YtbejdbgcfgllhaaP17
import Derived.Test.YtbejdbgcfgllhaaP18
import Derived.Test.YtbejdbgcfgllhaaP9
namespace Go.Proofs.Ytbejdbgcfgllhaa.P
set_option linter.unusedSimpArgs false
set_option linter.unusedVariables false
open Go.RowKit Go.Proofs.YtbejdbgcfgllhaaW.PrintWords Go.Proofs.YtbejdbgcfgllhaaW.PrintLast Go.Proofs.YtbejdbgcfgllhaaW.PrintMore
theorem wm {i : Nat} (h : i < 100000) : wrap64 ((i : Int) + 1) = ((i + 1 : Nat) : Int) := by rw [w64 (x := (i : Int) + 1) (by omega) (by omega)]; rfl
theorem ints_l (l : List Int) (hl : l.length ≤ 1000) : ∀ (d i : Nat), i + d = l.length → Ev (fun k => thalwegref03_Ints.l0 k l l (i : Int)) true := by
  intro d
  induction d with
  | zero => intro i hi; exact Ev.step (f := fun k => _) (fun k => by rw [thalwegref03_Ints.l0, if_neg (by omega)]) (Ev.now _)
  | succ d ih => intro i hi; exact Ev.step (f := fun k => _) (fun k => by rw [thalwegref03_Ints.l0, if_pos (by omega), if_pos (by omega), if_pos (by omega), if_pos rfl, wm (by omega)]) (ih (i + 1) (by omega))
theorem ints_ev (l : List Int) (hl : l.length ≤ 1000) : Ev (fun k => thalwegref03_Ints.f k l l) true := by
  unfold thalwegref03_Ints.f
  simp only [if_pos rfl]
  exact ints_l l hl l.length 0 (by omega)
def onV (next : List Int) (a : Int) : Int := if rd next a < 0 then -1 else if rd next a ≥ (next.length : Int) then -1 else rd next a
theorem on_in {next : List Int} {a : Int} (h : InR next a) : thalwegref25_on.f next a = some (onV next a) := by
  obtain ⟨h0, h1⟩ := h
  unfold thalwegref25_on.f onV
  rw [if_neg (by omega), if_neg (by omega), if_pos h0, if_pos h1]
  split
  · rfl
  · split
    · rfl
    · rfl
theorem onV_in {next : List Int} {a : Int} (h : InR next (rd next a)) : onV next a = rd next a := by
  unfold onV
  rw [if_neg (by have := h.1; omega), if_neg (by have := h.2; omega)]
theorem onV_out {next : List Int} {a : Int} (h : ¬ InR next (rd next a)) : onV next a = -1 := by
  unfold onV
  by_cases c : rd next a < 0
  · rw [if_pos c]
  · rw [if_neg c, if_pos (by
      rcases Int.lt_or_le (rd next a) (next.length : Int) with e | e
      · exact absurd ⟨by omega, e⟩ h
      · exact e)]
theorem Wlk.closed {next : List Int} {f b : Int} {l : List Int} (h : Wlk next f l b) {x : Int} (hx : x ∈ l) : onV next x ∈ l ∨ onV next x = -1 := by
  by_cases c : InR next (rd next x)
  · left
    rw [onV_in c]
    obtain ⟨i, hi, rfl⟩ := List.mem_iff_getElem.1 hx
    rw [h.pth.nxt i hi] at c ⊢
    by_cases c2 : i + 1 < l.length
    · rw [List.getElem_append_left c2]
      exact List.getElem_mem _
    · rw [List.getElem_append_right (by omega), List.getElem_singleton] at c ⊢
      exact h.fin c
  · exact Or.inr (onV_out c)
theorem Wlk.notf {next : List Int} {f b : Int} {l : List Int} (h : Wlk next f l b) (hf : InR next f) (hb : b ≠ f) {x : Int} (hx : x ∈ l) : onV next x ≠ f := by
  intro e
  have hl := List.length_pos_iff.2 (h.ne hf)
  have h0 := h.head hl
  by_cases c : InR next (rd next x)
  · rw [onV_in c] at e
    obtain ⟨i, hi, rfl⟩ := List.mem_iff_getElem.1 hx
    rw [h.pth.nxt i hi] at e
    by_cases c2 : i + 1 < l.length
    · rw [List.getElem_append_left c2, ← h0] at e
      exact List.pairwise_iff_getElem.1 h.nd 0 (i + 1) (by omega) c2 (by omega) e.symm
    · rw [List.getElem_append_right (by omega), List.getElem_singleton] at e
      exact hb e
  · rw [onV_out c] at e
    have := hf.1
    omega
section
variable (next : List Int) (hl : next.length ≤ 60)
/-! Way. -/
include hl in
theorem rway_l0 (t f b : Int) (l : List Int) (hw : Wlk next f l b) (ht : t ∉ l) : ∀ (d k : Nat) (out : List Int) (a : Int), k + d = next.length → out.length = k → (a ∈ l ∨ a = -1) → Ev (fun m => thalwegref25_Way.l0 m next t out a (k : Int)) ([], false) := by
  intro d
  induction d with
  | zero =>
    intro k out a hk ho ha
    refine Ev.step (f := fun k => _) (fun m => by rw [thalwegref25_Way.l0, if_neg (by omega)]) ?_
    exact Ev.step (f := fun k => _) (fun m => by rw [thalwegref25_Way.j2, if_neg Bool.false_ne_true]) (Ev.now _)
  | succ d ih =>
    intro k out a hk ho ha
    refine Ev.step (f := fun k => _) (fun m => by rw [thalwegref25_Way.l0, if_pos (by omega)]) ?_
    rcases ha with ha | rfl
    · have hr := hw.pth.inr a ha
      have hat : ¬ a = t := fun e => ht (e ▸ ha)
      refine Ev.step (f := fun k => _) (fun m => by rw [decide_eq_true hr.1, thalwegref25_Way.j2, if_pos rfl, if_pos (by omega), Option.bind_some, if_neg hat, on_in hr, Option.bind_some, wm (by omega)]) ?_
      exact ih (k + 1) _ _ (by omega) (by rw [List.length_append, List.length_singleton, ho]) (hw.closed ha)
    · exact Ev.step (f := fun k => _) (fun m => by rw [decide_eq_false (by omega), thalwegref25_Way.j2, if_neg Bool.false_ne_true]) (Ev.now _)
include hl in
theorem rway_l0t (t f b : Int) (l : List Int) (hw : Wlk next f l b) (ht : t ∈ l) : ∀ (d i : Nat) (hi : i < l.length), i + d = l.idxOf t → Ev (fun m => thalwegref25_Way.l0 m next t (l.take i) l[i] (i : Int)) (l.take (l.idxOf t + 1), true) := by
  have hlen := hw.pth.len hw.nd
  have hj := List.idxOf_lt_length_of_mem ht
  intro d
  induction d with
  | zero =>
    intro i hi hd
    have hr := hw.pth.inr l[i] (List.getElem_mem hi)
    have he : l[i] = t := by
      have := List.getElem_idxOf hj
      have e : i = l.idxOf t := by omega
      subst e
      exact this
    have htk : l.take (i + 1) = l.take i ++ [l[i]] := List.take_succ_eq_append_getElem hi
    refine Ev.step (f := fun k => _) (fun m => by rw [thalwegref25_Way.l0, if_pos (by omega)]) ?_
    refine Ev.step (f := fun k => some (l.take (l.idxOf t + 1), true)) (fun m => ?_) (Ev.now _)
    rw [decide_eq_true hr.1, thalwegref25_Way.j2, if_pos rfl, if_pos (by rw [List.length_take]; omega), Option.bind_some, if_pos he, ← htk, show i = l.idxOf t by omega]
  | succ d ih =>
    intro i hi hd
    have hr := hw.pth.inr l[i] (List.getElem_mem hi)
    have hi1 : i + 1 < l.length := by omega
    have hne : ¬ l[i] = t := fun e => by
      have h4 : (l[i] == t) = false := List.not_of_lt_findIdx (show i < l.findIdx (· == t) by have : l.idxOf t = l.findIdx (· == t) := rfl; omega)
      rw [e] at h4
      simp at h4
    have htk : l.take (i + 1) = l.take i ++ [l[i]] := List.take_succ_eq_append_getElem hi
    obtain ⟨_, hx⟩ := way_ok hw i hi1
    have hon : onV next l[i] = l[i + 1] := by rw [onV_in (by rw [hx]; exact hw.pth.inr _ (List.getElem_mem _)), hx]
    refine Ev.step (f := fun k => _) (fun m => by rw [thalwegref25_Way.l0, if_pos (by omega)]) ?_
    refine Ev.step (f := fun k => thalwegref25_Way.l0 k next t (l.take (i + 1)) l[i + 1] ((i + 1 : Nat) : Int)) (fun m => ?_) (ih (i + 1) hi1 (by omega))
    rw [decide_eq_true hr.1, thalwegref25_Way.j2, if_pos rfl, if_pos (by rw [List.length_take]; omega), Option.bind_some, if_neg hne, on_in hr, Option.bind_some, wm (by omega), ← htk, hon]
include hl in
theorem rway_ev (f t : Int) :
    (¬ InR next f ∧ Ev (fun k => thalwegref25_Way.f k next f t) ([], false)) ∨ (InR next f ∧ ∀ l b, Wlk next f l b → Ev (fun k => thalwegref25_Way.f k next f t) (if t ∈ l then (l.take (l.idxOf t + 1), true) else ([], false))) := by
  have j : Ev (fun k => thalwegref25_Way.j0 k next f t true) ([], false) := Ev.step (f := fun k => _) (fun k => by rw [thalwegref25_Way.j0, if_pos rfl]) (Ev.now _)
  unfold thalwegref25_Way.f
  by_cases c0 : f < 0
  · refine .inl ⟨fun e => by have := e.1; omega, ?_⟩
    simp only [if_pos c0]
    exact j
  · by_cases c1 : f ≥ (next.length : Int)
    · refine .inl ⟨fun e => by have := e.2; omega, ?_⟩
      simp only [if_neg c0, if_pos c1]
      exact j
    · have hf : InR next f := ⟨by omega, by omega⟩
      refine .inr ⟨hf, fun l b hw => ?_⟩
      have hlp := List.length_pos_iff.2 (hw.ne hf)
      have hh := hw.head hlp
      simp only [if_neg c0, if_neg c1]
      by_cases c2 : t < 0
      · have hm : t ∉ l := fun e => by have := (hw.pth.inr t e).1; omega
        simp only [if_pos c2, if_neg hm]
        exact j
      · by_cases c3 : t ≥ (next.length : Int)
        · have hm : t ∉ l := fun e => by have := (hw.pth.inr t e).2; omega
          simp only [if_neg c2, decide_eq_true c3, if_neg hm]
          exact j
        · simp only [if_neg c2, decide_eq_false c3]
          refine Ev.step (f := fun k => _) (fun k => by rw [thalwegref25_Way.j0, if_neg Bool.false_ne_true]) ?_
          by_cases c : t ∈ l
          · rw [if_pos c]
            have := rway_l0t next hl t f b l hw c (l.idxOf t) 0 hlp (by omega)
            rw [List.take_zero, hh] at this
            exact this
          · rw [if_neg c]
            exact rway_l0 next hl t f b l hw c next.length 0 [] f (by omega) rfl (Or.inl (hh ▸ List.getElem_mem _))
/-! Cycle. -/
include hl in
theorem rcyc_no (f b : Int) (l : List Int) (hw : Wlk next f l b) (hf : InR next f) (hb : b ≠ f) (r : List Int × Bool) (hr : Ev (fun m => thalwegref25_Cycle.l0 m next (wrap64 (f + 1))) r) : ∀ (d k : Nat) (out : List Int) (a : Int), k + d = next.length → out.length = k → (a ∈ l ∨ a = -1) →
    Ev (fun m => thalwegref25_Cycle.l1 m next f out a (k : Int)) r := by
  intro d
  induction d with
  | zero =>
    intro k out a hk ho ha
    refine Ev.step (f := fun k => _) (fun m => by rw [thalwegref25_Cycle.l1, if_neg (by omega)]) ?_
    exact Ev.step (f := fun k => _) (fun m => by rw [thalwegref25_Cycle.j2, if_neg Bool.false_ne_true]) hr
  | succ d ih =>
    intro k out a hk ho ha
    refine Ev.step (f := fun k => _) (fun m => by rw [thalwegref25_Cycle.l1, if_pos (by omega)]) ?_
    rcases ha with ha | rfl
    · have hir := hw.pth.inr a ha
      refine Ev.step (f := fun k => _) (fun m => by rw [decide_eq_true hir.1, thalwegref25_Cycle.j2, if_pos rfl, if_pos (by omega), Option.bind_some, on_in hir, Option.bind_some, if_neg (hw.notf hf hb ha), wm (by omega)]) ?_
      exact ih (k + 1) _ _ (by omega) (by rw [List.length_append, List.length_singleton, ho]) (hw.closed ha)
    · exact Ev.step (f := fun k => _) (fun m => by rw [decide_eq_false (by omega), thalwegref25_Cycle.j2, if_neg Bool.false_ne_true]) hr
include hl in
theorem rcyc_yes (f : Int) (l : List Int) (hw : Wlk next f l f) (hf : InR next f) : ∀ (d i : Nat) (hi : i < l.length), i + d + 1 = l.length → Ev (fun m => thalwegref25_Cycle.l1 m next f (l.take i) l[i] (i : Int)) (l, true) := by
  have hlen := hw.pth.len hw.nd
  intro d
  induction d with
  | zero =>
    intro i hi hd
    have hr := hw.pth.inr l[i] (List.getElem_mem hi)
    have htk : l.take (i + 1) = l.take i ++ [l[i]] := List.take_succ_eq_append_getElem hi
    have hon : onV next l[i] = f := by
      have hx := hw.pth.nxt i hi
      rw [List.getElem_append_right (by omega), List.getElem_singleton] at hx
      rw [onV_in (by rw [hx]; exact hf), hx]
    refine Ev.step (f := fun k => _) (fun m => by rw [thalwegref25_Cycle.l1, if_pos (by omega)]) ?_
    refine Ev.step (f := fun k => some (l, true)) (fun m => ?_) (Ev.now _)
    rw [decide_eq_true hr.1, thalwegref25_Cycle.j2, if_pos rfl, if_pos (by rw [List.length_take]; omega), Option.bind_some, on_in hr, Option.bind_some, if_pos hon, ← htk, List.take_of_length_le (by omega)]
  | succ d ih =>
    intro i hi hd
    have hr := hw.pth.inr l[i] (List.getElem_mem hi)
    have hi1 : i + 1 < l.length := by omega
    have htk : l.take (i + 1) = l.take i ++ [l[i]] := List.take_succ_eq_append_getElem hi
    obtain ⟨_, hx⟩ := way_ok hw i hi1
    have hon : onV next l[i] = l[i + 1] := by rw [onV_in (by rw [hx]; exact hw.pth.inr _ (List.getElem_mem _)), hx]
    have hne : ¬ onV next l[i] = f := fun e => by
      rw [hon, ← hw.head (by omega)] at e
      exact List.pairwise_iff_getElem.1 hw.nd 0 (i + 1) (by omega) hi1 (by omega) e.symm
    refine Ev.step (f := fun k => _) (fun m => by rw [thalwegref25_Cycle.l1, if_pos (by omega)]) ?_
    refine Ev.step (f := fun k => thalwegref25_Cycle.l1 k next f (l.take (i + 1)) l[i + 1] ((i + 1 : Nat) : Int)) (fun m => ?_) (ih (i + 1) hi1 (by omega))
    rw [decide_eq_true hr.1, thalwegref25_Cycle.j2, if_pos rfl, if_pos (by rw [List.length_take]; omega), Option.bind_some, on_in hr, Option.bind_some, if_neg hne, wm (by omega), ← htk, hon]
def CycP (next : List Int) (c : List Int) (is : Bool) : Prop := (is = true ∧ ∃ f, InR next f ∧ Wlk next f c f ∧ ∀ g : Int, 0 ≤ g → g < f → ∀ m, ¬ Wlk next g m g) ∨ (is = false ∧ c = [] ∧ ∀ (g : Int) m, InR next g → ¬ Wlk next g m g)
theorem CycP.uniq {next c d : List Int} {is it : Bool} (h : CycP next c is) (g : CycP next d it) : c = d ∧ is = it := by
  rcases h with ⟨rfl, f, h1, h2, h3⟩ | ⟨rfl, rfl, h3⟩
  · rcases g with ⟨rfl, e, g1, g2, g3⟩ | ⟨rfl, rfl, g3⟩
    · have he : f = e := by
        rcases Int.lt_trichotomy f e with c | c | c
        · exact absurd h2 (g3 f h1.1 c _)
        · exact c
        · exact absurd g2 (h3 e g1.1 c _)
      subst he
      exact ⟨(h2.uniq g2).1, rfl⟩
    · exact absurd h2 (g3 f _ h1)
  · rcases g with ⟨rfl, e, g1, g2, g3⟩ | ⟨rfl, rfl, g3⟩
    · exact absurd g2 (h3 e _ g1)
    · exact ⟨rfl, rfl⟩
include hl in
theorem rcyc_ev : ∃ c is, Ev (fun k => thalwegref25_Cycle.f k next) (c, is) ∧ CycP next c is := by
  have key : ∀ (d : Nat) (i : Nat), i + d = next.length → (∀ g : Int, 0 ≤ g → g < (i : Int) → ∀ m, ¬ Wlk next g m g) → ∃ c is, Ev (fun k => thalwegref25_Cycle.l0 k next (i : Int)) (c, is) ∧ CycP next c is := by
    intro d
    induction d with
    | zero =>
      intro i hi hn
      exact ⟨[], false, Ev.step (f := fun k => _) (fun m => by rw [thalwegref25_Cycle.l0, if_neg (by omega)]) (Ev.now _), .inr ⟨rfl, rfl, fun g m hg => hn g hg.1 (by have := hg.2; omega) m⟩⟩
    | succ d ih =>
      intro i hi hn
      have h1 : (i : Int) < (next.length : Int) := by omega
      have hf : InR next (i : Int) := ⟨by omega, h1⟩
      obtain ⟨l, b, hw⟩ : ∃ l b, Wlk next (i : Int) l b := ⟨_, _, wlk_ok (next.length + 1) [] (i : Int) (.nil _) List.nodup_nil (by simp)⟩
      have hlp := List.length_pos_iff.2 (hw.ne hf)
      have hh := hw.head hlp
      by_cases c : b = (i : Int)
      · subst c
        refine ⟨l, true, ?_, .inl ⟨rfl, i, hf, hw, hn⟩⟩
        refine Ev.step (f := fun k => _) (fun m => by rw [thalwegref25_Cycle.l0, if_pos h1]) ?_
        have := rcyc_yes next hl (i : Int) l hw hf (l.length - 1) 0 hlp (by omega)
        rw [List.take_zero, hh] at this
        exact this
      · obtain ⟨c2, is, he2, hp⟩ := ih (i + 1) (by omega) (fun g h0 h2 m hm => by
          rcases Int.lt_or_le g (i : Int) with e | e
          · exact hn g h0 e m hm
          · have : g = (i : Int) := by omega
            subst this
            exact c (uniq_of_back hw hm))
        refine ⟨c2, is, ?_, hp⟩
        refine Ev.step (f := fun k => _) (fun m => by rw [thalwegref25_Cycle.l0, if_pos h1]) ?_
        exact rcyc_no next hl (i : Int) b l hw hf c (c2, is) (by rw [wm (by omega)]; exact he2) next.length 0 [] (i : Int) (by omega) rfl (Or.inl (by rw [← hh]; exact List.getElem_mem _))
  exact key next.length 0 (by omega) (fun g h0 h1 => by omega)
end
end Go.Proofs.Ytbejdbgcfgllhaa.P
