/- Layer 11: a wheel and the document's beside it. -/
import Derived.Test.YtljajnednggebaaEwn
namespace Go.Proofs.Ytljajnednggebaa.P
set_option linter.unusedSimpArgs false
set_option linter.unusedVariables false
open Go.RowKit Go.Maps Go.Proofs.YtljajnednggebaaW.PrintWords Go.Proofs.YtljajnednggebaaW.PrintLast Go.Proofs.YtljajnednggebaaW.PrintMore
/-- a wheel, the document's wheel, and what else is to stay (E) -/
def J2 (w0 w : World) (E : Nat → Option Obj) (g N : Nat) (L : List S35) (x : Nat) (Lr : List S35) : Prop :=
  ∃ F G : Nat → Prop, Wst w0 F w g N L ∧ Xw w x G Lr ∧ ¬ F x ∧ (∀ k, G k → ¬ F k ∧ k < w.heap.size) ∧ w0.heap.size ≤ x ∧ ∀ k o, E k = some o → w.heap[k]? = some o ∧ ¬ F k ∧ k ≠ x
theorem KB.bl {w0 w w' : World} {x : Nat} (h : KB w w' x) (hb : Below w0.heap.size w0 w) (hx : w0.heap.size ≤ x) : Below w0.heap.size w0 w' := hb.trans ⟨h.2.os, h.2.tape, h.2.output, h.2.size, fun k hk => h.2.block k (Nat.lt_of_lt_of_le hk hx)⟩
section
variable {w0 w w' : World} {E : Nat → Option Obj} {g N N' x : Nat} {L L' Lr Lr' : List S35} {F F' G : Nat → Prop}
theorem Xw.lt (h : Xw w x G Lr) : x < w.heap.size := by
  obtain ⟨A, c, h, _⟩ := h
  exact blk_lt h
theorem Xw.fr (h : Xw w x G Lr) (hx : ¬ F x) (hG : ∀ k, G k → ¬ F k ∧ k < w.heap.size) (hf : Fr w F w') : Xw w' x G Lr := by
  have hlt := h.lt
  obtain ⟨A, c, h1, h2, h3, h4⟩ := h
  exact ⟨A, c, (hf.fr x hlt hx).trans h1, h2, Kd.F_step h3 (fun k hk hl => hf.fr k hl (hG k hk).1), h4⟩
theorem J2.mkw (h2 : Xw w x G Lr) (h3 : ¬ F x) (h4 : ∀ k, G k → ¬ F k ∧ k < w.heap.size) (h5 : w0.heap.size ≤ x) (h6 : ∀ k o, E k = some o → w.heap[k]? = some o ∧ ¬ F k ∧ k ≠ x) (k1 : ∀ k, F' k → F k ∨ w.heap.size ≤ k) (k2 : Fr w F w') (k3 : Wst w0 F' w' g N' L') :
    Xw w' x G Lr ∧ ¬ F' x ∧ (∀ k, G k → ¬ F' k ∧ k < w'.heap.size) ∧ ∀ k o, E k = some o → w'.heap[k]? = some o ∧ ¬ F' k ∧ k ≠ x := by
  have hlt := h2.lt
  have hno : ∀ k, k < w.heap.size → ¬ F k → ¬ F' k := fun k hk hn hf => (k1 k hf).elim hn (fun e => by omega)
  refine ⟨h2.fr h3 h4 k2, hno x hlt h3, fun k hk => ⟨hno k (h4 k hk).2 (h4 k hk).1, Nat.lt_of_lt_of_le (h4 k hk).2 k2.sz⟩, fun k o hk => ?_⟩
  obtain ⟨a, b, c⟩ := h6 k o hk
  exact ⟨(k2.fr k (blk_lt a) b).trans a, hno k (blk_lt a) b, c⟩
theorem J2.wheel (h2 : Xw w x G Lr) (h3 : ¬ F x) (h4 : ∀ k, G k → ¬ F k ∧ k < w.heap.size) (h5 : w0.heap.size ≤ x) (h6 : ∀ k o, E k = some o → w.heap[k]? = some o ∧ ¬ F k ∧ k ≠ x) (hn : Nx w0 F w w' g N' L') : J2 w0 w' E g N' L' x Lr := by
  obtain ⟨F', k1, k2, k3⟩ := hn
  obtain ⟨a, b, c, d⟩ := J2.mkw h2 h3 h4 h5 h6 k1 k2 k3
  exact ⟨F', G, k3, a, b, c, h5, d⟩
theorem Wst.kb (h1 : Wst w0 F w g N L) (h3 : ¬ F x) (h5 : w0.heap.size ≤ x) (hk : KB w w' x) : Wst w0 F w' g N L :=
  h1.keep (fun k hF => hk.1.2 k (h1.1 k hF) (fun e => h3 (e ▸ hF)) (by simp)) hk.1.1 (hk.bl h1.2.bl h5)
theorem J2.ref (h1 : Wst w0 F w g N L) (h3 : ¬ F x) (h4 : ∀ k, G k → ¬ F k ∧ k < w.heap.size) (h5 : w0.heap.size ≤ x) (h6 : ∀ k o, E k = some o → w.heap[k]? = some o ∧ ¬ F k ∧ k ≠ x) (hn : Rd w w' x G Lr') : J2 w0 w' E g N L x Lr' := by
  obtain ⟨k1, G', k2, k3⟩ := hn
  refine ⟨F, fun k => G' k ∧ k < w'.heap.size, h1.kb h3 h5 k1, ?_, h3, fun k hk => ⟨?_, hk.2⟩, h5, fun k o hk => ?_⟩
  · obtain ⟨A, c, a1, a2, a3, a4⟩ := k2
    exact ⟨A, c, a1, a2, Kd.F_bound a3, fun hh => a4 hh.1⟩
  · rcases k3 k hk.1 with e | e
    · exact (h4 k e).1
    · exact fun hF => by have := h1.1 k hF; omega
  · obtain ⟨a, b, c⟩ := h6 k o hk
    exact ⟨(k1.1.2 k (blk_lt a) c (by simp)).trans a, b, c⟩
theorem J2.below (h : J2 w0 w E g N L x Lr) (hb : Below w.heap.size w w') : J2 w0 w' E g N L x Lr := by
  obtain ⟨F, G, h1, h2, h3, h4, h5, h6⟩ := h
  exact J2.wheel h2 h3 h4 h5 h6 (h1.nx hb)
theorem J2.drew (h : J2 w0 w E g N L x Lr) : J2 w0 w.drew E g N L x Lr := h.below (below_drew (Below.refl _ _))
theorem J2.bl (h : J2 w0 w E g N L x Lr) : Below w0.heap.size w0 w := by
  obtain ⟨F, G, h1, _⟩ := h
  exact h1.2.bl
theorem J2.ok (h : J2 w0 w E g N L x Lr) : Okt L := by
  obtain ⟨F, G, h1, _⟩ := h
  exact h1.2.1
theorem J2.extra (h : J2 w0 w E g N L x Lr) {k : Nat} {o : Obj} (he : E k = some o) : w.heap[k]? = some o := by
  obtain ⟨F, G, _, _, _, _, _, h6⟩ := h
  exact (h6 k o he).1
theorem J2.wide (h : J2 w0 w E g N L x Lr) (hn : N ≤ N') : J2 w0 w E g N' L x Lr := by
  obtain ⟨F, G, h1, h2⟩ := h
  exact ⟨F, G, h1.wide hn, h2⟩
/-- another block that is to stay -/
def Ex (k : Nat) (o : Obj) : Nat → Option Obj := fun j => if j = k then some o else none
theorem ex_at (k : Nat) (o : Obj) : Ex k o k = some o := if_pos rfl
theorem J2.more (h : J2 w0 w (fun _ => none) g N L x Lr) {k : Nat} {o : Obj} (hk : k = w.heap.size) (hb : Below w.heap.size w w') (ho : w'.heap[k]? = some o) : J2 w0 w' (Ex k o) g N L x Lr := by
  obtain ⟨F, G, h1, h2, h3, h4, h5, h6⟩ := h
  have hlt := h2.lt
  refine ⟨F, G, h1.below hb, h2.below hb, h3, fun j hj => ⟨(h4 j hj).1, Nat.lt_of_lt_of_le (h4 j hj).2 hb.size⟩, h5, fun j p hj => ?_⟩
  replace hj : (if j = k then some o else none) = some p := hj
  split at hj
  · rename_i e
    injection hj with hj
    subst hj; subst e
    exact ⟨ho, fun hF => by have := h1.1 j hF; omega, by omega⟩
  · cases hj
theorem J2.less (h : J2 w0 w E g N L x Lr) : J2 w0 w (fun _ => none) g N L x Lr := by
  obtain ⟨F, G, h1, h2, h3, h4, h5, h6⟩ := h
  exact ⟨F, G, h1, h2, h3, h4, h5, fun k o hk => by cases hk⟩
theorem J2.seen (h : J2 w0 w E g N L x Lr) : ∃ A c, w.heap[x]? = some (.cells #[.slice A Lr.length c] 44 (0, 0)) ∧ Lr.length ≤ c ∧ k35.C w A Lr.length Lr := by
  obtain ⟨F, G, _, ⟨A, c, a1, a2, a3, _⟩, _⟩ := h
  exact ⟨A, c, a1, a2, Kd.F_now a3⟩
theorem jset (h : J2 w0 w E g N L x Lr) (hN : N ≤ 1000000000) (key t : Int) (hk : wf64 key) (ht : wf64 t) :
    Calls Try.prog 10 #[.pointer (some ⟨g, 0, none⟩), .int .i64 key, .int .i64 t] w fun e w' => e = .returned (.int .i64 (setE L key t)) ∧ J2 w0 w' E g (N + 1) (setR L key t) x Lr := by
  obtain ⟨F, G, h1, h2, h3, h4, h5, h6⟩ := h
  refine (set_w h1 hN key t hk ht).mono ?_
  rintro e w' ⟨rfl, hn⟩
  exact ⟨rfl, J2.wheel h2 h3 h4 h5 h6 hn⟩
theorem jrset (h : J2 w0 w E g N L x Lr) (hl : Lr.length ≤ 1024) (key t : Int) :
    Calls Try.prog 16 #[.pointer (some ⟨x, 0, none⟩), .int .i64 key, .int .i64 t] w fun e w' => e = .returned (.int .i64 (setE Lr key t)) ∧ J2 w0 w' E g N L x (setR Lr key t) := by
  obtain ⟨F, G, h1, h2, h3, h4, h5, h6⟩ := h
  refine (rSet_w h2 hl key t).mono ?_
  rintro e w' ⟨rfl, hn⟩
  exact ⟨rfl, J2.ref h1 h3 h4 h5 h6 hn⟩
theorem jstop (h : J2 w0 w E g N L x Lr) (key : Int) (hk : wf64 key) :
    Calls Try.prog 17 #[.pointer (some ⟨g, 0, none⟩), .int .i64 key] w fun e w' => e = .returned (.int .i64 (if (tm L key).isSome then 0 else 7)) ∧ J2 w0 w' E g N (dropL L key) x Lr := by
  obtain ⟨F, G, h1, h2, h3, h4, h5, h6⟩ := h
  refine (stop_w h1 key hk).mono ?_
  rintro e w' ⟨rfl, hn⟩
  exact ⟨rfl, J2.wheel h2 h3 h4 h5 h6 hn⟩
theorem jrstop (h : J2 w0 w E g N L x Lr) (hl : Lr.length ≤ 1024) (key : Int) :
    Calls Try.prog 18 #[.pointer (some ⟨x, 0, none⟩), .int .i64 key] w fun e w' => e = .returned (.int .i64 (if (tm Lr key).isSome then 0 else 7)) ∧ J2 w0 w' E g N L x (dropL Lr key) := by
  obtain ⟨F, G, h1, h2, h3, h4, h5, h6⟩ := h
  refine (rStop_w h2 hl key).mono ?_
  rintro e w' ⟨rfl, hn⟩
  exact ⟨rfl, J2.ref h1 h3 h4 h5 h6 hn.rd⟩
theorem jnext (h : J2 w0 w E g N L x Lr) {a : Int} {b : Bool} (hn : nextL L = (a, b)) :
    Calls Try.prog 13 #[.pointer (some ⟨g, 0, none⟩)] w fun e w' => e = .returned (.tuple #[.int .i64 a, .bool b]) ∧ w = w' := by
  obtain ⟨F, G, h1, _⟩ := h
  exact next_e h1 hn
theorem jrnext (h : J2 w0 w E g N L x Lr) {a : Int} {b : Bool} (hn : nextL Lr = (a, b)) :
    Calls Try.prog 20 #[.pointer (some ⟨x, 0, none⟩)] w fun e w' => e = .returned (.tuple #[.int .i64 a, .bool b]) ∧ w = w' := by
  obtain ⟨F, G, _, h2, _⟩ := h
  have := rnext_w h2
  rw [hn] at this
  exact this
theorem jlist (h : J2 w0 w E g N L x Lr) {n : Nat} (hn : L.length = n) :
    Calls Try.prog 11 #[.pointer (some ⟨g, 0, none⟩)] w fun e w' => ∃ A c, e = .returned (.slice A n c) ∧ k35.C w' A n L ∧ n ≤ c ∧ J2 w0 w' E g N L x Lr ∧ Below w.heap.size w w' := by
  have h' := h
  obtain ⟨F, G, h1, _⟩ := h
  refine (list_n h1 hn).mono ?_
  rintro e w' ⟨A, c, rfl, hC, hlc, hb⟩
  exact ⟨A, c, rfl, hC, hlc, h'.below hb, hb⟩
/-- beside them a row of numbers that was given out -/
def J2d (w0 w : World) (E : Nat → Option Obj) (g N : Nat) (L : List S35) (x : Nat) (Lr : List S35) (v : Value) (X : List Int) : Prop :=
  ∃ F G : Nat → Prop, Wst w0 F w g N L ∧ Xw w x G Lr ∧ ¬ F x ∧ (∀ k, G k → ¬ F k ∧ k < w.heap.size) ∧ w0.heap.size ≤ x ∧ (∀ k o, E k = some o → w.heap[k]? = some o ∧ ¬ F k ∧ k ≠ x) ∧ (Kd.int .i64).R 3 w w0.heap.size (fun k => k ≠ x) v X
theorem J2d.j2 {v : Value} {X : List Int} (h : J2d w0 w E g N L x Lr v X) : J2 w0 w E g N L x Lr := by
  obtain ⟨F, G, h1, h2, h3, h4, h5, h6, _⟩ := h
  exact ⟨F, G, h1, h2, h3, h4, h5, h6⟩
theorem due_len {L : List S35} {now : Int} : ((L.take (dueN L now)).map S35.f1).length = dueN L now := by
  rw [List.length_map, List.length_take]
  have := dueN_le L now
  omega
theorem jdue (h : J2 w0 w E g N L x Lr) (now : Int) {n : Nat} (hn : dueN L now = n) :
    Calls Try.prog 12 #[.pointer (some ⟨g, 0, none⟩), .int .i64 now] w fun e w' => ∃ A c, e = .returned (.slice A n c) ∧ n ≤ c ∧ J2d w0 w' E g N (L.drop n) x Lr (.slice A n c) ((L.take n).map S35.f1) := by
  subst hn
  obtain ⟨F, G, h1, h2, h3, h4, h5, h6⟩ := h
  have hlt := h2.lt
  have hw0 := below_size h1.2.bl
  refine (due_w h1 now).mono ?_
  rintro e w' ⟨v, Ax, cx, rfl, F', k1, k2, k3, _, k5⟩
  obtain ⟨A, c, rfl, hlc⟩ := row_n k5 due_len
  obtain ⟨a, b, c', d⟩ := J2.mkw h2 h3 h4 h5 h6 k1 k2 k3
  exact ⟨A, c, rfl, hlc, F', G, k3, a, b, c', h5, d, Kd.R_lower (Kd.R_mono (Kd.R_bound k5) (fun k hk => by have := hk.2.1; omega)) hw0⟩
theorem jrdue {v : Value} {X : List Int} (h : J2d w0 w E g N L x Lr v X) (hl : Lr.length ≤ 1024) (now : Int) {n : Nat} (hn : dueN Lr now = n) :
    Calls Try.prog 19 #[.pointer (some ⟨x, 0, none⟩), .int .i64 now] w fun e w' => ∃ A c, e = .returned (.slice A n c) ∧ n ≤ c ∧ J2 w0 w' E g N L x (Lr.drop n) ∧ (Kd.int .i64).C w' A n ((Lr.take n).map S35.f1) ∧ (Kd.int .i64).R 3 w' w0.heap.size (fun k => k ≠ x) v X := by
  subst hn
  obtain ⟨F, G, h1, h2, h3, h4, h5, h6, h7⟩ := h
  refine (rdue_w h2 (fun k hk => (h4 k hk).2) hl now).mono ?_
  rintro e w' ⟨v2, rfl, k1, k2, k3⟩
  obtain ⟨A, c, rfl, hlc⟩ := row_n k3 due_len
  exact ⟨A, c, rfl, hlc, J2.ref h1 h3 h4 h5 h6 ⟨k1, G, k2, fun k hk => .inl hk⟩, row_C k3 due_len, Kd.R_keep h7 k1.1 (fun k hk => hk)⟩
/-- while the document's row is its own -/
def J1 (w0 w : World) (g N : Nat) (L : List S35) (x : Nat) (Lr : List S35) : Prop :=
  ∃ (F : Nat → Prop) (A : Option Addr) (c : Nat), Wst w0 F w g N L ∧ w.heap[x]? = some (.cells #[.slice A Lr.length c] 44 (0, 0)) ∧ k35.R 35 w w0.heap.size (fun k => ¬ F k ∧ k ≠ x) (.slice A Lr.length c) Lr ∧ ¬ F x ∧ w0.heap.size ≤ x
theorem J1.new (h : Nx w0 (fun _ => False) w w' g 0 []) {w2 : World} (hx : x = w'.heap.size) (hb : Below w'.heap.size w' w2) (ho : w2.heap[x]? = some (.cells #[.slice none 0 0] 44 (0, 0))) : J1 w0 w2 g 0 [] x [] := by
  obtain ⟨F, _, _, h⟩ := h
  refine ⟨F, none, 0, h.below hb, ho, Kd.R_nil _ _ _ _ _, fun hF => by have := h.1 x hF; omega, ?_⟩
  rw [hx]
  exact below_size h.2.bl
theorem J1.j2 (h : J1 w0 w g N L x Lr) : J2 w0 w (fun _ => none) g N L x Lr := by
  obtain ⟨F, A, c, h1, h2, h3, h4, h5⟩ := h
  exact ⟨F, fun k => (¬ F k ∧ k ≠ x) ∧ k < w.heap.size, h1, ⟨A, c, h2, (Kd.R_reads' h3).2.1, Kd.F_bound (Kd.R_F h3), fun hh => hh.1.2 rfl⟩, h4, fun k hk => ⟨hk.1.1, hk.2⟩, h5, fun k o hk => by cases hk⟩
theorem jset1 (h : J1 w0 w g N L x Lr) (hN : N ≤ 1000000000) (key t : Int) {v : Int} (hk : wf64 key) (ht : wf64 t) (hv : setE L key t = v) :
    Calls Try.prog 10 #[.pointer (some ⟨g, 0, none⟩), .int .i64 key, .int .i64 t] w fun e w' => e = .returned (.int .i64 v) ∧ J1 w0 w' g (N + 1) (setR L key t) x Lr := by
  subst hv
  obtain ⟨F, A, c, h1, h2, h3, h4, h5⟩ := h
  have hlt := blk_lt h2
  refine (set_w h1 hN key t hk ht).mono ?_
  rintro e w' ⟨rfl, F', k1, k2, k3⟩
  have hno : ∀ k, k < w.heap.size → ¬ F k → ¬ F' k := fun k hk hn hf => (k1 k hf).elim hn (fun e => by omega)
  refine ⟨rfl, F', A, c, k3, (k2.fr x hlt h4).trans h2, ?_, hno x hlt h4, h5⟩
  exact Kd.R_mono (Kd.R_step (Kd.R_mono (ok := fun k => (¬ F k ∧ k ≠ x) ∧ w0.heap.size ≤ k ∧ k < w.heap.size ∧ _) (Kd.R_bound h3) (fun k hk => hk)) (fun k hk hl => k2.fr k hl hk.1.1)) (fun k hk => ⟨hno k hk.2.2.1 hk.1.1, hk.1.2⟩)
theorem J1.below (h : J1 w0 w g N L x Lr) (hb : Below w.heap.size w w') : J1 w0 w' g N L x Lr := by
  obtain ⟨F, A, c, h1, h2, h3, h4, h5⟩ := h
  exact ⟨F, A, c, h1.below hb, (hb.block x (blk_lt h2)).trans h2, Kd.R_below h3 hb, h4, h5⟩
theorem J1.push {A A2 : Option Addr} {c c2 : Nat} {Lr2 : List S35} (h1 : Wst w0 F w g N L) (h2 : w.heap[x]? = some (.cells #[.slice A Lr.length c] 44 (0, 0))) (h3 : k35.R 35 w w0.heap.size (fun k => ¬ F k ∧ k ≠ x) (.slice A Lr.length c) Lr) (h4 : ¬ F x) (h5 : w0.heap.size ≤ x) (hg : w.grownBy w' (Value.slice A Lr.length c).ownBlock) (hr : k35.R 35 w' w0.heap.size (fun k => ¬ F k ∧ k ≠ x) (.slice A2 Lr2.length c2) Lr2) :
    J1 w0 (w'.setCell ⟨x, 0, none⟩ (.slice A2 Lr2.length c2)) g N L x Lr2 := by
  have hw0 := below_size h1.2.bl
  have hown := h3.1
  have hb0 := fun k hk => Kd.R_base h3 k hk
  have hx : w'.heap[x]? = some (.cells #[.slice A Lr.length c] 44 (0, 0)) := (hg.block x (blk_lt h2) (fun e => (hown x e.symm).2 rfl)).trans h2
  have hbl := pw_below_grown h1.2.bl _ hw0 hg hb0
  have h1' : Wst w0 F w' g N L := h1.keep (fun k hF => hg.block k (h1.1 k hF) (fun e => (hown k e.symm).1 hF)) hg.size hbl
  have hkb : KB w' (w'.setCell ⟨x, 0, none⟩ (.slice A2 Lr2.length c2)) x := (KB.refl w' x).set _
  exact ⟨F, A2, c2, h1'.kb h4 h5 hkb, blk_put hx 0 _ rfl, Kd.R_far hr (fun k hk e => hk.2 (by have : k = x := e; exact this)) _, h4, h5⟩
end
end Go.Proofs.Ytljajnednggebaa.P
