/- Layer 25, plain: the program's spread tells the steps. -/
import Derived.Test.YtbejdbgcfgllhaaGad
import Derived.Test.YtbejdbgcfgllhaaGrp
import Derived.Test.YtbejdbgcfgllhaaP7
import Derived.Test.YtbejdbgcfgllhaaP15
namespace Go.Proofs.Ytbejdbgcfgllhaa.P
set_option linter.unusedSimpArgs false
set_option linter.unusedVariables false
open Go.RowKit Go.Proofs.YtbejdbgcfgllhaaW.PrintWords Go.Proofs.YtbejdbgcfgllhaaW.PrintLast Go.Proofs.YtbejdbgcfgllhaaW.PrintMore
theorem rep_ok (n : Nat) (hn : n ≤ 100000) : slices_Repeat_int_int.f [-1] (n : Int) = some (List.replicate n (-1)) := by
  unfold slices_Repeat_int_int.f
  simp only
  rw [if_pos (by omega)]
  rfl
theorem rdL_get (ll : List (List Int)) (a : Nat) : rd_L3 ll (a : Int) = ll.getD a [] := rfl
/-- The state of spread's loop: `q` waits. -/
structure Qi (n : Nat) (E : Nat → Nat → Prop) (s : Nat) (out q : List Int) : Prop where
  sp : Sp n E s out
  inq : ∀ x ∈ q, ∃ u : Nat, x = (u : Int) ∧ u < n ∧ 0 ≤ rd out (u : Int)
  cl : ∀ v : Nat, v < n → 0 ≤ rd out (v : Int) → (v : Int) ∉ q → ∀ b : Nat, E v b → 0 ≤ rd out (b : Int) ∧ rd out (b : Int) ≤ rd out (v : Int) + 1
  sorted : q.Pairwise (fun x y => rd out x ≤ rd out y)
  near : ∀ v : Nat, v < n → 0 ≤ rd out (v : Int) → ∀ x ∈ q, rd out (v : Int) ≤ rd out x + 1
theorem Qi.init {n s : Nat} {E : Nat → Nat → Prop} (hs : s < n) : Qi n E s ((List.replicate n (-1)).set s 0) [(s : Int)] := by
  have hl : s < (List.replicate n (-1 : Int)).length := by rw [List.length_replicate]; exact hs
  have hr : ∀ v : Nat, v < n → rd ((List.replicate n (-1 : Int)).set s 0) (v : Int) = if v = s then 0 else -1 := fun v hv => by
    rw [rd_set2 _ _ _ _ hl, rd_rep _ _ _ hv]
  refine ⟨Sp.init hs, fun x hx => ?_, fun v hv h0 hq => ?_, List.pairwise_singleton _ _, fun v hv h0 x hx => ?_⟩
  · rw [List.mem_singleton] at hx
    exact ⟨s, hx, hs, by rw [hr s hs, if_pos rfl]; decide⟩
  · rw [hr v hv] at h0
    by_cases c : v = s
    · subst c; exact absurd (List.mem_singleton.2 rfl) hq
    · rw [if_neg c] at h0; exact absurd h0 (by decide)
  · rw [List.mem_singleton] at hx
    subst hx
    rw [hr v hv, hr s hs, if_pos rfl]
    by_cases c : v = s
    · rw [if_pos c]; decide
    · rw [if_neg c]; decide
/-- A node not seen before is put at the end. -/
theorem Qi.push {n s : Nat} {E : Nat → Nat → Prop} {out t : List Int} {u b : Nat} (h : Qi n E s out ((u : Int) :: t)) (hE : ∀ u v, E u v → u < n ∧ v < n) (hb : b < n) (hb0 : rd out (b : Int) < 0) (e : E u b) :
    Qi n E s (out.set b (rd out (u : Int) + 1)) ((u : Int) :: t ++ [(b : Int)]) ∧ (∀ v : Nat, v < n → 0 ≤ rd out (v : Int) → rd (out.set b (rd out (u : Int) + 1)) (v : Int) = rd out (v : Int)) ∧ rd (out.set b (rd out (u : Int) + 1)) (b : Int) = rd out (u : Int) + 1 := by
  have hbl : b < out.length := by rw [h.sp.len]; exact hb
  have hr := fun v => rd_set2 out b v (rd out (u : Int) + 1) hbl
  obtain ⟨u', hu1, hu, h0⟩ := h.inq (u : Int) (List.mem_cons_self ..)
  have hu2 : u' = u := by omega
  subst hu2
  have keep : ∀ v : Nat, v < n → 0 ≤ rd out (v : Int) → rd (out.set b (rd out (u' : Int) + 1)) (v : Int) = rd out (v : Int) := fun v hv h0 => by
    rw [hr, if_neg (fun e2 => by rw [e2] at h0; omega)]
  have keepq : ∀ x ∈ (u' : Int) :: t, rd (out.set b (rd out (u' : Int) + 1)) x = rd out x := fun x hx => by
    obtain ⟨v, rfl, hv, h1⟩ := h.inq x hx
    exact keep v hv h1
  have hB : rd (out.set b (rd out (u' : Int) + 1)) (b : Int) = rd out (u' : Int) + 1 := by rw [hr, if_pos rfl]
  refine ⟨⟨h.sp.put hu h0 hb hb0 e, fun x hx => ?_, fun v hv hv0 hq c hc => ?_, ?_, fun v hv hv0 x hx => ?_⟩, keep, hB⟩
  · rcases List.mem_append.1 hx with hx | hx
    · obtain ⟨v, rfl, hv, h1⟩ := h.inq x hx
      exact ⟨v, rfl, hv, by rw [keep v hv h1]; exact h1⟩
    · rw [List.mem_singleton] at hx
      exact ⟨b, hx, hb, by rw [hB]; omega⟩
  · rw [List.mem_append, not_or] at hq
    have hvb : v ≠ b := fun e2 => hq.2 (by rw [e2]; exact List.mem_singleton.2 rfl)
    have h1 : 0 ≤ rd out (v : Int) := by rw [hr, if_neg hvb] at hv0; exact hv0
    have := h.cl v hv h1 hq.1 c hc
    rw [keep v hv h1, keep c (hE _ _ hc).2 this.1]
    exact this
  · rw [List.pairwise_append]
    refine ⟨h.sorted.imp_of_mem (fun hx hy hxy => by rw [keepq _ hx, keepq _ hy]; exact hxy), List.pairwise_singleton _ _, fun x hx y hy => ?_⟩
    rw [List.mem_singleton] at hy
    subst hy
    rw [keepq x hx, hB]
    obtain ⟨v, rfl, hv, h1⟩ := h.inq x hx
    exact h.near v hv h1 _ (List.mem_cons_self ..)
  · have hle : ∀ y ∈ (u' : Int) :: t, rd out (u' : Int) ≤ rd out y := fun y hy => by
      rcases List.mem_cons.1 hy with rfl | hy
      · omega
      · exact (List.pairwise_cons.1 h.sorted).1 y hy
    rcases List.mem_append.1 hx with hx | hx
    · rw [keepq x hx]
      by_cases c : v = b
      · rw [c, hB]
        have := hle x hx
        omega
      · have h1 : 0 ≤ rd out (v : Int) := by rw [hr, if_neg c] at hv0; exact hv0
        rw [keep v hv h1]
        exact h.near v hv h1 x hx
    · rw [List.mem_singleton] at hx
      subst hx
      rw [hB]
      by_cases c : v = b
      · rw [c, hB]; omega
      · have h1 : 0 ≤ rd out (v : Int) := by rw [hr, if_neg c] at hv0; exact hv0
        rw [keep v hv h1]
        have := h.near v hv h1 _ (List.mem_cons_self ..)
        omega
theorem Qi.pop {n s : Nat} {E : Nat → Nat → Prop} {out t : List Int} {u : Nat} (h : Qi n E s out ((u : Int) :: t)) (hd : ∀ b : Nat, E u b → 0 ≤ rd out (b : Int) ∧ rd out (b : Int) ≤ rd out (u : Int) + 1) : Qi n E s out t := by
  refine ⟨h.sp, fun x hx => h.inq x (List.mem_cons_of_mem _ hx), fun v hv h0 hq c hc => ?_, (List.pairwise_cons.1 h.sorted).2, fun v hv h0 x hx => h.near v hv h0 x (List.mem_cons_of_mem _ hx)⟩
  by_cases e : v = u
  · subst e; exact hd c hc
  · refine h.cl v hv h0 (fun hm => ?_) c hc
    rcases List.mem_cons.1 hm with hm | hm
    · exact e (by omega)
    · exact hq hm
theorem l1_push (k : Nat) (ll : List (List Int)) (out q row : List Int) (i b u : Nat) (h1 : i < row.length) (hb : rd row (i : Int) = (b : Int)) (hbl : b < out.length) (c : rd out (b : Int) < 0) (hq0 : 0 < q.length) (hu : rd q 0 = (u : Int)) (hul : u < out.length) (hql : q.length < 17592186044416) :
    graph_spread.l1 (k + 1) ll out q row (row.length : Int) (i : Int) = graph_spread.l1 k ll (out.set b (wrap64 (rd out (u : Int) + 1))) (q ++ [(b : Int)]) row (row.length : Int) (wrap64 ((i : Int) + 1)) := by
  rw [graph_spread.l1, if_pos (Int.ofNat_lt.2 h1), if_pos (Int.natCast_nonneg i), if_pos (Int.ofNat_lt.2 h1), hb, if_pos (Int.natCast_nonneg b), if_pos (Int.ofNat_lt.2 hbl), if_pos c, if_pos (show (0 : Int) < (q.length : Int) from Int.ofNat_lt.2 hq0), hu, if_pos (Int.natCast_nonneg u), if_pos (Int.ofNat_lt.2 hul), if_pos hql, Int.toNat_natCast]
theorem l1_skip (k : Nat) (ll : List (List Int)) (out q row : List Int) (i b : Nat) (h1 : i < row.length) (hb : rd row (i : Int) = (b : Int)) (hbl : b < out.length) (c : ¬ rd out (b : Int) < 0) :
    graph_spread.l1 (k + 1) ll out q row (row.length : Int) (i : Int) = graph_spread.l1 k ll out q row (row.length : Int) (wrap64 ((i : Int) + 1)) := by
  rw [graph_spread.l1, if_pos (Int.ofNat_lt.2 h1), if_pos (Int.natCast_nonneg i), if_pos (Int.ofNat_lt.2 h1), hb, if_pos (Int.natCast_nonneg b), if_pos (Int.ofNat_lt.2 hbl), if_neg c]
theorem sp_l (n : Nat) (hn : n ≤ 100000) (l : List S36) (hl : l.length ≤ 100000) (ll : List (List Int)) (hN : Nrs n l ll) (s : Nat) (hs : s < n) : ∀ (m : Nat) (out q : List Int), q.length + unv out = m → m ≤ n → Qi n (Adj n l) s out q →
    ∃ r, IsD n (Adj n l) s r ∧ Ev (fun k => graph_spread.l0 k ll out q) r := by
  have hE : ∀ u v, Adj n l u v → u < n ∧ v < n := fun u v h => h.lt
  intro m
  induction m with
  | zero =>
    intro out q hm _ h
    have hq : q = [] := List.eq_nil_of_length_eq_zero (by omega)
    subst hq
    refine ⟨out, h.sp.done hs hE (fun v hv h0 b hb => h.cl v hv h0 (fun hx => by cases hx) b hb), ?_⟩
    refine Ev.step (f := fun k => _) (fun k => by simp only [graph_spread.l0]; rfl) ?_
    simp only [List.length_nil, if_neg (show ¬ ((0 : Nat) : Int) > 0 by omega)]
    exact Ev.now _
  | succ m ih =>
    have inner : ∀ (row : List Int) (d i : Nat) (out t : List Int) (u : Nat), i + d = row.length → row.length ≤ 100000 → (∀ x : Int, x ∈ row ↔ ∃ b : Nat, x = (b : Int) ∧ Adj n l u b) → (t.length + 1) + unv out = m + 1 → m + 1 ≤ n → Qi n (Adj n l) s out ((u : Int) :: t) →
        (∀ b : Nat, (b : Int) ∈ row.take i → 0 ≤ rd out (b : Int) ∧ rd out (b : Int) ≤ rd out (u : Int) + 1) →
        ∃ r, IsD n (Adj n l) s r ∧ Ev (fun k => graph_spread.l1 k ll out ((u : Int) :: t) row (row.length : Int) (i : Int)) r := by
      intro row d
      induction d with
      | zero =>
        intro i out t u hi hrl hrm hm hmn h hd
        obtain ⟨r, hr, hev⟩ := ih out t (by omega) (by omega) (h.pop (fun b hb => hd b (by rw [List.take_of_length_le (by omega)]; exact (hrm _).2 ⟨b, rfl, hb⟩)))
        refine ⟨r, hr, ?_⟩
        refine Ev.step (f := fun k => _) (fun k => by simp only [graph_spread.l1]; rfl) ?_
        simp only [if_neg (show ¬ (i : Int) < (row.length : Int) by omega), List.length_cons, if_pos (show (1 : Int) ≤ ((t.length + 1 : Nat) : Int) by omega)]
        exact hev
      | succ d ihd =>
        intro i out t u hi hrl hrm hm hmn h hd
        obtain ⟨u', hu1, hu, h0⟩ := h.inq (u : Int) (List.mem_cons_self ..)
        have hu2 : u' = u := Int.ofNat_inj.1 hu1.symm
        subst hu2
        have hi1 : i < row.length := by omega
        obtain ⟨b, hb, hA⟩ := (hrm _).1 (List.getElem_mem hi1)
        have hbn := hA.lt.2
        have hrow : rd row (i : Int) = (b : Int) := by rw [rd_elem _ _ hi1]; exact hb
        have htk : row.take (i + 1) = row.take i ++ [(b : Int)] := by rw [List.take_succ_eq_append_getElem hi1, hb]
        clear hb
        have hlen := h.sp.len
        have hcnt := h.sp.cnt u' hu h0
        have hwi : wrap64 ((i : Int) + 1) = ((i + 1 : Nat) : Int) := by rw [w64 (x := (i : Int) + 1) (by omega) (by omega)]; rfl
        have hwd : wrap64 (rd out (u' : Int) + 1) = rd out (u' : Int) + 1 := w64 (by omega) (by omega)
        by_cases c : rd out (b : Int) < 0
        · obtain ⟨hq, hk, hB⟩ := h.push hE hbn c hA
          have hU := unv_set out b (rd out (u' : Int) + 1) (by omega) c (by omega)
          have hd2 : ∀ b2 : Nat, (b2 : Int) ∈ row.take (i + 1) → 0 ≤ rd (out.set b (rd out (u' : Int) + 1)) (b2 : Int) ∧ rd (out.set b (rd out (u' : Int) + 1)) (b2 : Int) ≤ rd (out.set b (rd out (u' : Int) + 1)) (u' : Int) + 1 := fun b2 hm2 => by
            rw [htk, List.mem_append, List.mem_singleton] at hm2
            rcases hm2 with hm2 | hm2
            · obtain ⟨h3, h4⟩ := hd b2 hm2
              obtain ⟨b3, hb3, hA3⟩ := (hrm _).1 (List.mem_of_mem_take hm2)
              have e3 : b2 = b3 := Int.ofNat_inj.1 hb3
              subst e3
              rw [hk b2 hA3.lt.2 h3, hk u' hu h0]
              exact ⟨h3, h4⟩
            · have e3 : b2 = b := Int.ofNat_inj.1 hm2
              subst e3
              rw [hB, hk u' hu h0]
              exact ⟨by omega, Int.le_refl _⟩
          obtain ⟨r, hr, hev⟩ := ihd (i + 1) _ (t ++ [(b : Int)]) u' (by omega) hrl hrm (by rw [List.length_append, List.length_singleton]; omega) hmn hq hd2
          refine ⟨r, hr, ?_⟩
          refine Ev.step (f := fun k => _) (fun k => by rw [l1_push k ll out ((u' : Int) :: t) row i b u' hi1 hrow (by omega) c (by rw [List.length_cons]; omega) rfl (by omega) (by rw [List.length_cons]; omega), hwd, hwi]) ?_
          exact hev
        · have hd2 : ∀ b2 : Nat, (b2 : Int) ∈ row.take (i + 1) → 0 ≤ rd out (b2 : Int) ∧ rd out (b2 : Int) ≤ rd out (u' : Int) + 1 := fun b2 hm2 => by
            rw [htk, List.mem_append, List.mem_singleton] at hm2
            rcases hm2 with hm2 | hm2
            · exact hd b2 hm2
            · have e3 : b2 = b := Int.ofNat_inj.1 hm2
              subst e3
              exact ⟨by omega, h.near b2 hbn (by omega) _ (List.mem_cons_self ..)⟩
          obtain ⟨r, hr, hev⟩ := ihd (i + 1) out t u' (by omega) hrl hrm hm hmn h hd2
          refine ⟨r, hr, ?_⟩
          refine Ev.step (f := fun k => _) (fun k => by rw [l1_skip k ll out _ row i b hi1 hrow (by omega) c, hwi]) ?_
          exact hev
    intro out q hm hmn h
    match q, hm, h with
    | [], hm, h =>
      refine ⟨out, h.sp.done hs hE (fun v hv h0 b hb => h.cl v hv h0 (fun hx => by cases hx) b hb), ?_⟩
      refine Ev.step (f := fun k => _) (fun k => by simp only [graph_spread.l0]; rfl) ?_
      simp only [List.length_nil, if_neg (show ¬ ((0 : Nat) : Int) > 0 by omega)]
      exact Ev.now _
    | x :: t, hm, h =>
      obtain ⟨u, rfl, hu, h0⟩ := h.inq x (List.mem_cons_self ..)
      obtain ⟨r, hr, hev⟩ := inner (ll.getD u []) (ll.getD u []).length 0 out t u (by omega) (by have := hN.rl u hu; omega) (hN.mem u hu) hm hmn h (fun b hb => by rw [List.take_zero] at hb; cases hb)
      refine ⟨r, hr, ?_⟩
      refine Ev.step (f := fun k => _) (fun k => by simp only [graph_spread.l0]; rfl) ?_
      simp only [List.length_cons, rd_cons0, rdL_get, hN.len, if_pos (show ((t.length + 1 : Nat) : Int) > 0 by omega), if_pos (show (0 : Int) < ((t.length + 1 : Nat) : Int) by omega), if_pos (show (0 : Int) ≤ (u : Int) by omega), if_pos (show (u : Int) < (n : Int) by omega)]
      exact hev
theorem spread_ev (n : Nat) (hn : n ≤ 100000) (l : List S36) (hl : l.length ≤ 100000) (ll : List (List Int)) (hN : Nrs n l ll) (s : Nat) (hs : s < n) :
    ∃ r, IsD n (Adj n l) s r ∧ Ev (fun k => graph_spread.f k ll (s : Int)) r := by
  have hu := unv_set (List.replicate n (-1 : Int)) s 0 (by rw [List.length_replicate]; exact hs) (by rw [rd_rep _ _ _ hs]; decide) (by decide)
  have hu0 : unv (List.replicate n (-1 : Int)) = n := by
    unfold unv
    rw [List.countP_replicate, if_pos (by decide)]
  obtain ⟨r, hr, hev⟩ := sp_l n hn l hl ll hN s hs n _ _ (by rw [List.length_singleton]; omega) (Nat.le_refl _) (Qi.init hs)
  refine ⟨r, hr, ?_⟩
  unfold graph_spread.f
  simp only [hN.len, rep_ok n hn, Option.bind_some, List.length_replicate, if_pos (show (0 : Int) ≤ (s : Int) by omega), if_pos (show (s : Int) < (n : Int) by omega), Int.toNat_natCast]
  exact hev
/-- What Steps tells: a mistake, or the numbers of steps. -/
theorem steps_bad (n : Int) (l : List S36) (s : Int) (h : n < 0 ∨ n > 64 ∨ s < 0 ∨ s ≥ n) : Ev (fun k => graph_Steps.f k n l s) ([], 1) := by
  have j : Ev (fun k => graph_Steps.j0 k n l s true) ([], 1) := Ev.step (f := fun k => _) (fun k => by simp only [graph_Steps.j0]; rfl) (by simp only [if_true]; exact Ev.now _)
  unfold graph_Steps.f
  by_cases c0 : n < 0
  · simp only [if_pos c0]; exact j
  · by_cases c1 : n > 64
    · simp only [if_neg c0, if_pos c1]; exact j
    · by_cases c2 : s < 0
      · simp only [if_neg c0, if_neg c1, if_pos c2]; exact j
      · simp only [if_neg c0, if_neg c1, if_neg c2, decide_eq_true (show s ≥ n by omega)]; exact j
theorem steps_ev (n : Nat) (hn : n ≤ 64) (l : List S36) (hl : l.length ≤ 100000) (s : Nat) (hs : s < n) : ∃ r, IsD n (Adj n l) s r ∧ Ev (fun k => graph_Steps.f k (n : Int) l (s : Int)) (r, 0) := by
  obtain ⟨ll, he, hN⟩ := near_ok n l (by omega) hl
  obtain ⟨r, hr, hev⟩ := spread_ev n (by omega) l hl ll hN s hs
  refine ⟨r, hr, ?_⟩
  unfold graph_Steps.f
  simp only [if_neg (show ¬ (n : Int) < 0 by omega), if_neg (show ¬ (n : Int) > 64 by omega), if_neg (show ¬ (s : Int) < 0 by omega), decide_eq_false (show ¬ (s : Int) ≥ (n : Int) by omega)]
  refine Ev.step (f := fun k => _) (fun k => by simp only [graph_Steps.j0]; rfl) ?_
  simp only [Bool.false_eq_true, if_false, he, Option.bind_some]
  exact Ev.bind hev (Ev.now _)
end Go.Proofs.Ytbejdbgcfgllhaa.P
