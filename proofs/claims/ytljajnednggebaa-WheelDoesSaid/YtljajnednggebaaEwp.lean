/- Layer 11: two wheels, one beside the other; what is due of two times. -/
import Derived.Test.YtljajnednggebaaEwl
import Derived.Test.YtljajnednggebaaP3
namespace Go.Proofs.Ytljajnednggebaa.P
set_option linter.unusedSimpArgs false
set_option linter.unusedVariables false
open Go.RowKit Go.Maps Go.Proofs.YtljajnednggebaaW.PrintWords Go.Proofs.YtljajnednggebaaW.PrintLast Go.Proofs.YtljajnednggebaaW.PrintMore
theorem same_go (L : List S35) (hL : L.length ≤ 1000000000000) : ∀ (n i : Nat), i + n = L.length → ∀ k, thalwegref11_Same.l0 (k + (n + 1)) L L (i : Int) = some true := by
  intro n
  induction n with
  | zero =>
    intro i hi k
    simp only [thalwegref11_Same.l0, Nat.add_eq, Nat.add_zero]
    rw [if_neg (by omega)]
  | succ n ih =>
    intro i hi k
    have hh := ih (i + 1) (by omega) k
    rw [show ((i + 1 : Nat) : Int) = (i : Int) + 1 by omega] at hh
    obtain ⟨m, hm⟩ : ∃ m, m = k + (n + 1) := ⟨_, rfl⟩
    rw [← hm] at hh
    rw [show k + (n + 1 + 1) = m + 1 by omega]
    simp only [thalwegref11_Same.l0]
    rw [if_pos (by omega), if_pos (by omega), if_pos (by omega), if_neg (by simp), w64 (by omega) (by omega)]
    exact hh
theorem same_f (L : List S35) (hL : L.length ≤ 1000000000000) : thalwegref11_Same.f (L.length + 1) L L = some true := by
  unfold thalwegref11_Same.f
  rw [if_pos rfl]
  simpa using same_go L hL L.length 0 (by omega) 0
theorem same_n {A0 : Option Addr} {c0 : Nat} {A1 : Option Addr} {c1 n : Nat} {L : List S35} {w : World} (hr0 : Kd.C k35 w A0 n L) (hc0 : n ≤ c0) (hr1 : Kd.C k35 w A1 n L) (hc1 : n ≤ c1) (hn : L.length = n) (hL : n ≤ 1000000000000) :
    Calls Try.prog 15 #[.slice A0 n c0, .slice A1 n c1] w fun e w' => e = .returned (.bool true) ∧ Drawn0 w w' := by
  subst hn
  exact thalwegref11_Same.calls _ A0 c0 L A1 c1 L true w hr0 hc0 hr1 hc1 (same_f L hL)
theorem dueN_le (L : List S35) (t : Int) : dueN L t ≤ L.length := by
  unfold dueN
  exact (List.takeWhile_sublist _).length_le
theorem dueN_cons (o : S35) (r : List S35) (t : Int) : dueN (o :: r) t = if o.f0 ≤ t then dueN r t + 1 else 0 := by
  unfold dueN
  by_cases h : o.f0 ≤ t
  · rw [List.takeWhile_cons_of_pos (by simpa using h), if_pos h, List.length_cons]
  · rw [List.takeWhile_cons_of_neg (by simpa using h), if_neg h]
    rfl
theorem due_split {now later : Int} (h : now ≤ later) (L : List S35) : dueN L now + dueN (L.drop (dueN L now)) later = dueN L later := by
  induction L with
  | nil => rfl
  | cons o r ih =>
    rw [dueN_cons o r now]
    by_cases h1 : o.f0 ≤ now
    · rw [if_pos h1, dueN_cons o r later, if_pos (Int.le_trans h1 h), List.drop_succ_cons]
      omega
    · rw [if_neg h1, List.drop_zero, Nat.zero_add]
theorem due_again (L : List S35) (now : Int) : dueN (L.drop (dueN L now)) now = 0 := by
  have := due_split (Int.le_refl now) L
  omega
theorem next_late (t : Int) : ∀ (L : List S35) (v : Int), nextL (L.drop (dueN L t)) = (v, true) → t < v := by
  intro L
  induction L with
  | nil => intro v h; simp [nextL] at h
  | cons o r ih =>
    intro v h
    rw [dueN_cons] at h
    by_cases h1 : o.f0 ≤ t
    · rw [if_pos h1, List.drop_succ_cons] at h
      exact ih v h
    · rw [if_neg h1, List.drop_zero] at h
      simp only [nextL, Prod.mk.injEq] at h
      omega
def cntD (L : List S35) (t : Int) (i : Nat) : Int := (((L.take i).filter fun o => decide (o.f0 ≤ t)).length : Int)
theorem cntD_step {L : List S35} {t y : Int} (h0 : 0 ≤ y) (h1 : y < (L.length : Int)) : cntD L t (y.toNat + 1) = cntD L t y.toNat + (if (rd_T35 L y).f0 ≤ t then 1 else 0) := by
  unfold cntD
  rw [rd35_at h0 h1, List.take_succ_eq_append_getElem (by omega), List.filter_append, List.length_append]
  by_cases h : (L[y.toNat]'(by omega)).f0 ≤ t
  · simp [h]
  · simp [h]
theorem cntD_le (L : List S35) (t : Int) (i : Nat) : 0 ≤ cntD L t i ∧ cntD L t i ≤ L.length := by
  unfold cntD
  have h1 := List.length_filter_le (fun o : S35 => decide (o.f0 ≤ t)) (L.take i)
  rw [List.length_take] at h1
  omega
theorem cntD_all {L : List S35} (hs : TS L) (t : Int) : cntD L t L.length = (dueN L t : Int) := by
  unfold cntD
  rw [List.take_length]
  induction L with
  | nil => rfl
  | cons o r ih =>
    have h0 := List.pairwise_cons.1 hs
    rw [dueN_cons]
    by_cases h : o.f0 ≤ t
    · rw [if_pos h, List.filter_cons_of_pos (by simpa using h), List.length_cons]
      have := ih h0.2
      omega
    · rw [if_neg h, List.filter_cons_of_neg (by simpa using h), List.filter_eq_nil_iff.2 (fun p hp => by have := h0.1 p hp; unfold tlt at this; simp; omega)]
      rfl
/-- two wheels; F: what they may touch -/
def W2 (w0 : World) (F : Nat → Prop) (w : World) (ga Na : Nat) (La : List S35) (gb Nb : Nat) (Lb : List S35) : Prop :=
  ∃ Fa Fb : Nat → Prop, (∀ k, F k ↔ Fa k ∨ Fb k) ∧ Wst w0 Fa w ga Na La ∧ Wst w0 Fb w gb Nb Lb ∧ ∀ k, Fa k → ¬ Fb k
section
variable {w0 w w' : World} {F : Nat → Prop} {ga gb Na Nb N2 : Nat} {La Lb L2 : List S35}
theorem W2.swap (h : W2 w0 F w ga Na La gb Nb Lb) : W2 w0 F w gb Nb Lb ga Na La := by
  obtain ⟨Fa, Fb, h1, h2, h3, h4⟩ := h
  exact ⟨Fb, Fa, fun k => (h1 k).trans Or.comm, h3, h2, fun k hb ha => h4 k ha hb⟩
theorem W2.below (h : W2 w0 F w ga Na La gb Nb Lb) (hb : Below w.heap.size w w') : W2 w0 F w' ga Na La gb Nb Lb := by
  obtain ⟨Fa, Fb, h1, h2, h3, h4⟩ := h
  exact ⟨Fa, Fb, h1, h2.below hb, h3.below hb, h4⟩
theorem W2.bl (h : W2 w0 F w ga Na La gb Nb Lb) : Below w0.heap.size w0 w := by
  obtain ⟨Fa, Fb, h1, h2, h3, h4⟩ := h
  exact h2.2.bl
theorem W2.lt (h : W2 w0 F w ga Na La gb Nb Lb) : ∀ k, F k → k < w.heap.size := by
  obtain ⟨Fa, Fb, h1, h2, h3, h4⟩ := h
  exact fun k hk => ((h1 k).1 hk).elim (h2.1 k) (h3.1 k)
theorem W2.ok (h : W2 w0 F w ga Na La gb Nb Lb) : Okt La := by
  obtain ⟨Fa, Fb, h1, h2, h3, h4⟩ := h
  exact h2.2.1
/-- what an operation with the first wheel leaves -/
theorem W2.first {Fa Fb : Nat → Prop} (h1 : ∀ k, F k ↔ Fa k ∨ Fb k) (h3 : Wst w0 Fb w gb Nb Lb) (h4 : ∀ k, Fa k → ¬ Fb k) {Fn : Nat → Prop} (k1 : ∀ k, Fn k → Fa k ∨ w.heap.size ≤ k) (k2 : Fr w Fa w') (k3 : Wst w0 Fn w' ga N2 L2) :
    (∀ k, (Fn k ∨ Fb k) → F k ∨ w.heap.size ≤ k) ∧ Fr w F w' ∧ W2 w0 (fun k => Fn k ∨ Fb k) w' ga N2 L2 gb Nb Lb := by
  refine ⟨fun k hk => ?_, ⟨k2.sz, fun k hk hn => k2.fr k hk (fun e => hn ((h1 k).2 (.inl e)))⟩, Fn, Fb, fun _ => Iff.rfl, k3, h3.keep (fun k hF => k2.fr k (h3.1 k hF) (fun e => h4 k e hF)) k2.sz k3.2.bl, fun k hn hF => ?_⟩
  · rcases hk with hk | hk
    · exact (k1 k hk).imp (fun e => (h1 k).2 (.inl e)) id
    · exact .inl ((h1 k).2 (.inr hk))
  · rcases k1 k hn with e | e
    · exact h4 k e hF
    · have := h3.1 k hF
      omega
end
def X2 (w0 w w' : World) (F : Nat → Prop) (ga Na : Nat) (La : List S35) (gb Nb : Nat) (Lb : List S35) (F' : Nat → Prop) : Prop := (∀ k, F' k → F k ∨ w.heap.size ≤ k) ∧ Fr w F w' ∧ W2 w0 F' w' ga Na La gb Nb Lb
theorem X2.swap {w0 w w' : World} {F F' : Nat → Prop} {ga gb Na Nb : Nat} {La Lb : List S35} (h : X2 w0 w w' F ga Na La gb Nb Lb F') : X2 w0 w w' F gb Nb Lb ga Na La F' := ⟨h.1, h.2.1, h.2.2.swap⟩
section
variable {w0 w : World} {F : Nat → Prop} {ga gb Na Nb : Nat} {La Lb : List S35}
theorem set_2 (h : W2 w0 F w ga Na La gb Nb Lb) (hN : Na ≤ 1000000000) (key t : Int) (hk : wf64 key) (ht : wf64 t) :
    Calls Try.prog 10 #[.pointer (some ⟨ga, 0, none⟩), .int .i64 key, .int .i64 t] w fun e w' => e = .returned (.int .i64 (setE La key t)) ∧ ∃ F', W2 w0 F' w' ga (Na + 1) (setR La key t) gb Nb Lb := by
  obtain ⟨Fa, Fb, h1, h2, h3, h4⟩ := h
  refine (set_w h2 hN key t hk ht).mono ?_
  rintro e w' ⟨rfl, Fn, k1, k2, k3⟩
  exact ⟨rfl, _, (W2.first h1 h3 h4 k1 k2 k3).2.2⟩
theorem due_2 (h : W2 w0 F w ga Na La gb Nb Lb) (now : Int) {n : Nat} (hn : dueN La now = n) :
    Calls Try.prog 12 #[.pointer (some ⟨ga, 0, none⟩), .int .i64 now] w fun e w' => ∃ A c F', e = .returned (.slice A n c) ∧ X2 w0 w w' F ga Na (La.drop n) gb Nb Lb F' ∧ (Kd.int .i64).R 3 w' w0.heap.size (fun k => ¬ F' k) (.slice A n c) ((La.take n).map S35.f1) ∧ n ≤ c := by
  subst hn
  have hw0 := below_size h.bl
  obtain ⟨Fa, Fb, h1, h2, h3, h4⟩ := h
  refine (due_w h2 now).mono ?_
  rintro e w' ⟨v, Ax, cx, rfl, Fn, k1, k2, k3, _, k5⟩
  have hlen : ((La.take (dueN La now)).map S35.f1).length = dueN La now := by
    rw [List.length_map, List.length_take]
    have := dueN_le La now
    omega
  obtain ⟨A, c, rfl, hlc⟩ := row_n k5 hlen
  refine ⟨A, c, _, rfl, W2.first h1 h3 h4 k1 k2 k3, ?_, hlc⟩
  refine Kd.R_lower (Kd.R_mono (Kd.R_bound k5) (fun k hk hF => ?_)) hw0
  rcases hF with hF | hF
  · exact hk.1 hF
  · have := h3.1 k hF
    have := hk.2.1
    omega
theorem next_2 {a : Int} {b : Bool} (h : W2 w0 F w ga Na La gb Nb Lb) (hn : nextL La = (a, b)) :
    Calls Try.prog 13 #[.pointer (some ⟨ga, 0, none⟩)] w fun e w' => e = .returned (.tuple #[.int .i64 a, .bool b]) ∧ w = w' := by
  obtain ⟨Fa, Fb, h1, h2, h3, h4⟩ := h
  exact next_e h2 hn
theorem list_2 (h : W2 w0 F w ga Na La gb Nb Lb) :
    Calls Try.prog 11 #[.pointer (some ⟨ga, 0, none⟩)] w fun e w' => ∃ A c, e = .returned (.slice A La.length c) ∧ k35.R 35 w' w0.heap.size (fun k => ¬ F k) (.slice A La.length c) La ∧ La.length ≤ c ∧ Below w.heap.size w w' := by
  have hlt := h.lt
  have hw0 := below_size h.bl
  obtain ⟨Fa, Fb, h1, h2, h3, h4⟩ := h
  refine (list_w h2).mono ?_
  rintro e w' ⟨v, rfl, ho, hb⟩
  obtain ⟨A, c, rfl, hlc⟩ := row_n ho rfl
  exact ⟨A, c, rfl, R_fresh ho hlt hw0, hlc, hb⟩
theorem new_2 {g : Nat} (h : WS w0 w g 0 []) :
    Calls Try.prog 8 #[] w fun e w' => ∃ g2, e = .returned (.pointer (some ⟨g2, 0, none⟩)) ∧ ∃ F', W2 w0 F' w' g 0 [] g2 0 [] := by
  obtain ⟨Fa, h⟩ := h
  refine (new_w h.2.bl).mono ?_
  rintro e w' ⟨g2, rfl, ⟨Fn, k1, _, k3⟩, hb⟩
  refine ⟨g2, rfl, _, Fa, Fn, fun _ => Iff.rfl, h.below hb, k3, fun k ha hn => ?_⟩
  have := h.1 k ha
  have := (k1 k hn).resolve_left (fun e => e)
  omega
end
end Go.Proofs.Ytljajnednggebaa.P
