/- Layer 25, plain: walks of a row of next ones: paths, cycles, the one end. -/
import Derived.Test.YtbejdbgcfgllhaaEev
namespace Go.Proofs.Ytbejdbgcfgllhaa.P
set_option linter.unusedSimpArgs false
set_option linter.unusedVariables false
open Go.RowKit Go.Proofs.YtbejdbgcfgllhaaW.PrintWords Go.Proofs.YtbejdbgcfgllhaaW.PrintLast Go.Proofs.YtbejdbgcfgllhaaW.PrintMore
def InR (next : List Int) (a : Int) : Prop := 0 ≤ a ∧ a < (next.length : Int)
/-- a row of nodes, each the next one of the one ahead of it; at: what comes behind the last -/
inductive Pth (next : List Int) : Int → List Int → Int → Prop
  | nil (a : Int) : Pth next a [] a
  | cons {a b : Int} {l : List Int} : InR next a → Pth next (rd next a) l b → Pth next a (a :: l) b
theorem Pth.snoc {next : List Int} {a b : Int} {l : List Int} (h : Pth next a l b) (hb : InR next b) : Pth next a (l ++ [b]) (rd next b) := by
  induction h with
  | nil a => exact .cons hb (.nil _)
  | cons h1 _ ih => exact .cons h1 (ih hb)
theorem Pth.inr {next : List Int} {a b : Int} {l : List Int} (h : Pth next a l b) : ∀ x ∈ l, InR next x := by
  induction h with
  | nil a => intro x hx; cases hx
  | cons h1 _ ih =>
    intro x hx
    rcases List.mem_cons.1 hx with rfl | hx
    · exact h1
    · exact ih x hx
theorem Pth.app {next : List Int} {a b : Int} {l m : List Int} (h : Pth next a (l ++ m) b) : ∃ c, Pth next a l c ∧ Pth next c m b := by
  induction l generalizing a with
  | nil => exact ⟨a, .nil a, h⟩
  | cons x l ih =>
    cases h with
    | cons h1 h2 =>
      obtain ⟨c, h3, h4⟩ := ih h2
      exact ⟨c, .cons h1 h3, h4⟩
theorem Pth.join {next : List Int} {a b c : Int} {l m : List Int} (h : Pth next a l c) (h2 : Pth next c m b) : Pth next a (l ++ m) b := by
  induction h with
  | nil a => exact h2
  | cons h1 _ ih => exact .cons h1 (ih h2)
theorem Pth.head {next : List Int} {a b x : Int} {l : List Int} (h : Pth next a (x :: l) b) : x = a := by cases h; rfl
theorem Pth.nilE {next : List Int} {a b : Int} (h : Pth next a [] b) : a = b := by cases h; rfl
/-- what follows where -/
theorem Pth.nxt {next : List Int} {a b : Int} {l : List Int} (h : Pth next a l b) (i : Nat) (hi : i < l.length) : rd next l[i] = (l ++ [b])[i + 1]'(by simp; omega) := by
  induction h generalizing i with
  | nil a => simp at hi
  | @cons a b l h1 h2 ih =>
    cases i with
    | zero =>
      show rd next a = (l ++ [b])[0]'(by simp)
      cases l with
      | nil => exact h2.nilE
      | cons y l => exact h2.head.symm
    | succ i => exact ih i (by simpa using hi)
/-- rows of nodes without any twice are not longer than the graph -/
theorem nodup_len {n : Nat} {l : List Int} (h : l.Nodup) (hr : ∀ x ∈ l, 0 ≤ x ∧ x < (n : Int)) : l.length ≤ n := by
  induction n generalizing l with
  | zero =>
    cases l with
    | nil => simp
    | cons x l => have := hr x List.mem_cons_self; omega
  | succ n ih =>
    have h1 := ih (l := l.filter (fun x => x != (n : Int))) (h.sublist List.filter_sublist) (fun x hx => by
      obtain ⟨hx1, hx2⟩ := List.mem_filter.1 hx
      have := hr x hx1
      have hne : x ≠ (n : Int) := by simpa using hx2
      omega)
    have h2 : l.length ≤ (l.filter (fun x => x != (n : Int))).length + 1 := by
      clear ih hr h1
      induction l with
      | nil => simp
      | cons x l ih =>
        rw [List.nodup_cons] at h
        by_cases hx : x = (n : Int)
        · have : l.filter (fun y => y != (n : Int)) = l := List.filter_eq_self.2 (fun y hy => by
            have : y ≠ (n : Int) := fun e => h.1 (by rw [hx, ← e]; exact hy)
            simpa using this)
          rw [List.filter_cons_of_neg (by simp [hx]), this]
          simp
        · rw [List.filter_cons_of_pos (by simpa using hx)]
          have := ih h.2
          simp only [List.length_cons]
          omega
    omega
theorem Pth.len {next : List Int} {a b : Int} {l : List Int} (h : Pth next a l b) (hn : l.Nodup) : l.length ≤ next.length := nodup_len hn h.inr
/-- the end of a walk: where there is none behind, or one comes again -/
structure Wlk (next : List Int) (f : Int) (l : List Int) (b : Int) : Prop where
  pth : Pth next f l b
  nd : l.Nodup
  fin : InR next b → b ∈ l
/-- one and only one -/
theorem Wlk.uniq {next : List Int} {f b c : Int} {l m : List Int} (h : Wlk next f l b) (h2 : Wlk next f m c) : l = m ∧ b = c := by
  have key : ∀ (l m : List Int) (f : Int) (pre : List Int), (∀ x ∈ pre, InR next x) → Pth next f l b → Pth next f m c → (pre ++ l).Nodup → (pre ++ m).Nodup → (InR next b → b ∈ pre ++ l) → (InR next c → c ∈ pre ++ m) → l = m ∧ b = c := by
    intro l
    induction l with
    | nil =>
      intro m f pre hp h1 h2 n1 n2 e1 e2
      have hb := h1.nilE
      subst hb
      cases h2 with
      | nil => exact ⟨rfl, rfl⟩
      | cons g1 g2 =>
        have := e1 g1
        rw [List.append_nil] at this
        rw [List.nodup_append] at n2
        exact absurd rfl (n2.2.2 _ this _ List.mem_cons_self)
    | cons x l ih =>
      intro m f pre hp h1 h2 n1 n2 e1 e2
      have hx := h1.head
      subst hx
      cases h1 with
      | cons a1 a2 =>
        cases h2 with
        | nil =>
          have := e2 a1
          rw [List.append_nil] at this
          rw [List.nodup_append] at n1
          exact absurd rfl (n1.2.2 _ this _ List.mem_cons_self)
        | @cons _ _ m b1 b2 =>
          obtain ⟨r1, r2⟩ := ih m _ (pre ++ [x]) (fun y hy => (List.mem_append.1 hy).elim (hp y) (fun e => by rw [List.mem_singleton.1 e]; exact a1)) a2 b2 (by simpa using n1) (by simpa using n2) (by simpa using e1) (by simpa using e2)
          exact ⟨by rw [r1], r2⟩
  exact key l m f [] (fun x hx => by cases hx) h.pth h2.pth (by simpa using h.nd) (by simpa using h2.nd) (by simpa using h.fin) (by simpa using h2.fin)
/-- a cycle, seen from any of its nodes -/
theorem cyc_turn {next : List Int} {a b : Int} {l m : List Int} (h1 : Pth next a l b) (h2 : Pth next b m a) (hn : (l ++ m).Nodup) (hne : m ≠ []) : Wlk next b (m ++ l) b :=
  ⟨h2.join h1, (List.perm_append_comm).nodup_iff.1 hn, fun _ => by
    cases m with
    | nil => exact absurd rfl hne
    | cons x m => rw [h2.head]; simp⟩
/-- a walk that comes again to one of its own: that one lies on a cycle -/
theorem Wlk.back {next : List Int} {f b : Int} {l : List Int} (h : Wlk next f l b) (hb : b ∈ l) : ∃ m, Wlk next b m b := by
  obtain ⟨s, t, rfl⟩ := List.append_of_mem hb
  obtain ⟨c, h1, h2⟩ := h.pth.app
  have hc := h2.head
  subst hc
  have hn := (List.nodup_append.1 h.nd).2.1
  exact ⟨b :: t, h2, hn, fun _ => List.mem_cons_self⟩
/-- each node of a cycle comes again to itself -/
theorem Wlk.each {next : List Int} {f : Int} {l : List Int} (h : Wlk next f l f) {x : Int} (hx : x ∈ l) : ∃ m, Wlk next x m x := by
  obtain ⟨s, t, rfl⟩ := List.append_of_mem hx
  obtain ⟨c, h1, h2⟩ := h.pth.app
  have hc := h2.head
  subst hc
  exact ⟨_, cyc_turn h1 h2 h.nd (by simp)⟩
def wlk (next : List Int) : Nat → List Int → Int → List Int × Int
  | 0, out, a => (out, a)
  | k + 1, out, a => if 0 ≤ a ∧ a < (next.length : Int) then (if a ∈ out then (out, a) else wlk next k (out ++ [a]) (rd next a)) else (out, a)
theorem wlk_ok {next : List Int} {f : Int} : ∀ (k : Nat) (out : List Int) (a : Int), Pth next f out a → out.Nodup → next.length < out.length + k → Wlk next f (wlk next k out a).1 (wlk next k out a).2 := by
  intro k
  induction k with
  | zero =>
    intro out a h hn hk
    have := h.len hn
    omega
  | succ k ih =>
    intro out a h hn hk
    unfold wlk
    by_cases c : 0 ≤ a ∧ a < (next.length : Int)
    · rw [if_pos c]
      by_cases d : a ∈ out
      · rw [if_pos d]
        exact ⟨h, hn, fun _ => d⟩
      · rw [if_neg d]
        refine ih _ _ (h.snoc c) ?_ (by rw [List.length_append]; simp; omega)
        rw [List.nodup_append]
        exact ⟨hn, by simp, fun x hx y hy e => by rw [List.mem_singleton.1 hy] at e; exact d (e ▸ hx)⟩
    · rw [if_neg c]
      exact ⟨h, hn, fun g => absurd g c⟩
theorem Wlk.ne {next : List Int} {f b : Int} {l : List Int} (h : Wlk next f l b) (hf : InR next f) : l ≠ [] := by
  intro e
  subst e
  have hb := h.pth.nilE
  subst hb
  have := h.fin hf
  cases this
theorem Wlk.head {next : List Int} {f b : Int} {l : List Int} (h : Wlk next f l b) (hp : 0 < l.length) : l[0] = f := by
  obtain ⟨p, _, _⟩ := h
  cases l with
  | nil => simp at hp
  | cons x l => exact p.head
/-- a way: the row as far as a node of it -/
theorem way_ok {next : List Int} {f b : Int} {l : List Int} (h : Wlk next f l b) (i : Nat) (hi : i + 1 < l.length) : InR next l[i] ∧ rd next l[i] = l[i + 1] := by
  refine ⟨h.pth.inr _ (List.getElem_mem _), ?_⟩
  rw [h.pth.nxt i (by omega), List.getElem_append_left hi]
theorem cyc_next {next : List Int} {f : Int} {l : List Int} (h : Wlk next f l f) (i : Nat) (hi : i < l.length) : InR next l[i] ∧ rd next l[i] = l[(i + 1) % l.length]'(Nat.mod_lt _ (by omega)) := by
  refine ⟨h.pth.inr _ (List.getElem_mem _), ?_⟩
  rw [h.pth.nxt i hi]
  by_cases c : i + 1 < l.length
  · rw [List.getElem_append_left c]
    congr 1
    exact (Nat.mod_eq_of_lt c).symm
  · rw [List.getElem_append_right (by omega)]
    have e : i + 1 = l.length := by omega
    have h0 := h.head (by omega)
    have e2 : (i + 1) % l.length = 0 := by rw [e, Nat.mod_self]
    simp only [e2, e, Nat.sub_self]
    simp [h0]
theorem cyc_least {next : List Int} {f : Int} {l : List Int} (h : Wlk next f l f) (hm : ∀ g : Int, 0 ≤ g → g < f → ∀ m, ¬ Wlk next g m g) : ∀ x ∈ l, f ≤ x := by
  intro x hx
  rcases Int.lt_or_le x f with e | e
  · obtain ⟨m, hm2⟩ := h.each hx
    exact absurd hm2 (hm x (h.pth.inr x hx).1 e m)
  · exact e
/-- where there is no cycle a walk ends at one that has no next one: just one of its nodes -/
theorem ends_one {next : List Int} {f b : Int} {l : List Int} (h : Wlk next f l b) (hf : InR next f) (hc : ∀ (g : Int) m, InR next g → ¬ Wlk next g m g) : ∃ e, InR next e ∧ ∀ k, (k ∈ l ∧ ¬ InR next (rd next k)) ↔ k = e := by
  have hb : ¬ InR next b := fun hb => by
    obtain ⟨m, hm⟩ := h.back (h.fin hb)
    exact hc b m hb hm
  have hl := h.ne hf
  have hlen : 0 < l.length := List.length_pos_iff.2 hl
  refine ⟨l[l.length - 1], h.pth.inr _ (List.getElem_mem _), fun k => ⟨fun ⟨hk, hk2⟩ => ?_, fun hk => ?_⟩⟩
  · obtain ⟨i, hi, rfl⟩ := List.mem_iff_getElem.1 hk
    by_cases c : i + 1 < l.length
    · have := (way_ok h i c).2
      rw [this] at hk2
      exact absurd (h.pth.inr _ (List.getElem_mem _)) hk2
    · congr 1
      omega
  · subst hk
    refine ⟨List.getElem_mem _, ?_⟩
    rw [h.pth.nxt _ (by omega), List.getElem_append_right (by omega)]
    simpa using hb
theorem uniq_of_back {next : List Int} {f b : Int} {l m : List Int} (h : Wlk next f l b) (h2 : Wlk next f m f) : b = f := (h.uniq h2).2
end Go.Proofs.Ytbejdbgcfgllhaa.P
