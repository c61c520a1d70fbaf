/- Rows of structs of two numbers, cell by cell; copy at elements of whatever size, into a row that is known whole. -/

import Derived.Test.YtljajnednggebaaP0
import Derived.Test.YtljajnednggebaaEev
import Derived.Laws.CopyOwn
import Derived.Lib.AppendZerosOnto
import Derived.Lib.Overlaps
import Derived.Lib.SliceRun
namespace Go.Proofs.Ytljajnednggebaa.P
set_option linter.unusedSimpArgs false
set_option linter.unusedVariables false
open Go.RowKit Go.Proofs.YtljajnednggebaaW.PrintWords Go.Proofs.YtljajnednggebaaW.PrintLast Go.Proofs.YtljajnednggebaaW.PrintMore
theorem info35 : (Try.prog.info? 35).map (fun i => (i.zero, i.size, i.bytes)) = some (some (.agg #[(.int .i64 0), (.int .i64 0)]), 2, 16) := by kernel_rfl
def fl (x : S35) : List Value := [.int .i64 x.f0, .int .i64 x.f1]
def flat (xs : List S35) : List Value := xs.flatMap fl
theorem flat_length (xs : List S35) : (flat xs).length = xs.length * 2 := by
  induction xs with
  | nil => rfl
  | cons x r ih => simp only [flat, List.flatMap_cons, List.length_append, List.length_cons] at ih ⊢; rw [ih]; simp [fl]; omega
theorem flat_append (xs ys : List S35) : flat (xs ++ ys) = flat xs ++ flat ys := by simp [flat]
theorem flat_take (xs : List S35) (k : Nat) : (flat xs).take (k * 2) = flat (xs.take k) := by
  induction xs generalizing k with
  | nil => simp [flat]
  | cons x r ih =>
    cases k with
    | zero => simp [flat]
    | succ k =>
      have h := ih k
      simp only [flat, List.flatMap_cons, List.take_succ_cons] at h ⊢
      rw [show (k + 1) * 2 = k * 2 + 1 + 1 by omega]
      simp only [fl, List.cons_append, List.nil_append, List.take_succ_cons] at h ⊢
      rw [h]
theorem flat_drop (xs : List S35) (k : Nat) : (flat xs).drop (k * 2) = flat (xs.drop k) := by
  induction xs generalizing k with
  | nil => simp [flat]
  | cons x r ih =>
    cases k with
    | zero => simp [flat]
    | succ k =>
      have h := ih k
      simp only [flat, List.flatMap_cons, List.drop_succ_cons] at h ⊢
      rw [show (k + 1) * 2 = k * 2 + 1 + 1 by omega]
      simp only [fl, List.cons_append, List.nil_append, List.drop_succ_cons] at h ⊢
      rw [h]
theorem flat_one (xs : List S35) : ∀ v ∈ flat xs, v.oneCell' = true := by
  intro v hv
  simp only [flat, List.mem_flatMap, fl, List.mem_cons, List.not_mem_nil, or_false] at hv
  obtain ⟨x, _, rfl | rfl⟩ := hv <;> rfl
theorem reps_flat {R : S35 → List Value → Prop} (hR : ∀ p c, R p c → c = fl p) : ∀ (ps : List S35) (cs : List Value), Reps R 2 ps cs → cs = flat ps := by
  intro ps
  induction ps with
  | nil => intro cs h; exact List.eq_nil_of_length_eq_zero (by rw [h.1]; simp)
  | cons p ps ih =>
    intro cs h
    have h0 := hR _ _ (h.2 0 p rfl)
    rw [Nat.zero_mul, List.drop_zero] at h0
    have h1 := ih (cs.drop 2) ⟨by rw [List.length_drop, h.1, List.length_cons]; omega, fun j q hq => by
      have := h.2 (j + 1) q (by simpa using hq)
      rw [List.drop_drop, show 2 + j * 2 = (j + 1) * 2 by omega]
      exact this⟩
    rw [← List.take_append_drop 2 cs, h0, h1]
    simp [flat]
theorem flat_reps {R : S35 → List Value → Prop} (hR : ∀ p, R p (fl p)) (ps : List S35) : Reps R 2 ps (flat ps) := by
  refine ⟨flat_length ps, fun j p hp => ?_⟩
  have hj : j < ps.length := (List.getElem?_eq_some_iff.1 hp).1
  rw [flat_drop, List.drop_eq_getElem_cons hj]
  have : ps[j] = p := (List.getElem?_eq_some_iff.1 hp).2
  rw [this]
  have e : (flat (p :: ps.drop (j + 1))).take 2 = fl p := by simp [flat, fl]
  rw [e]
  exact hR p
theorem own_flat {w : World} {base : Nat} {ok : Nat → Prop} {v : Value} {xs : List S35} (h : k35.R 35 w base ok v xs) : w.ownsRow base 35 2 v xs.length (flat xs) := by
  obtain ⟨_, inner, ho, hr⟩ := h
  have := reps_flat (fun p c hp => k35_openM hp) xs inner hr
  subst this
  exact ho
theorem flat_own {w : World} {base : Nat} {v : Value} {xs : List S35} (h : w.ownsRow base 35 2 v xs.length (flat xs)) : k35.R 35 w base (fun _ => True) v xs :=
  ⟨fun _ _ => trivial, flat xs, h, flat_reps (fun p => k35_mkM _ _ _ p) xs⟩
theorem read_flat {w : World} {ad : Addr} {n : Nat} {xs : List S35} (h : k35.C w (some ad) n xs) : ∀ j v, (flat xs)[j]? = some v → w.cell? (ad.add j) = some v := by
  obtain ⟨inner, hr, hc⟩ := ReadsRow.inner_ h
  have := reps_flat (fun p c hp => k35_open hp) xs inner hr
  subst this
  exact hc
/-- copy at elements of sz cells, into a row that is known whole -/
theorem run_copy_rowS {P : Program} (w : World) (dT sT ty elem : TypeId) (sz : Nat) (g o dLen dCap : Nat) (a : Addr) (sLen sCap : Nat) (cur : Array Value) (t : TypeId) (cs : List Value)
    (hu : P.underlying dT = some (.slice elem)) (hs : (P.info? elem).map (·.size) = some sz)
    (hg : w.heap[g]? = some (.cells cur t (0, 0))) (hn : cs.length = Nat.min sLen dLen * sz)
    (hsrc : ∀ j v, cs[j]? = some v → w.cell? (a.add j) = some v) (hfit : o + cs.length ≤ cur.size) (h1 : ∀ v ∈ cs, v.oneCell' = true) :
    (Builtin.copy_ #[dT, sT] ty #[.slice (some ⟨g, o, none⟩) dLen dCap, .slice (some a) sLen sCap]).run P w =
      .ok (goInt (Nat.min sLen dLen)) (w.setRow g (cur.toList.take o ++ cs ++ cur.toList.drop (o + cs.length)).toArray) := by
  have hl := run_firstCells_some (P := P) w sz (Nat.min sLen dLen) a sLen sCap cs hn hsrc
  have hst := run_storeCells_at P g o t cs 0 cur w hg (by simpa using hfit) h1
  cases hq : P.info? elem with
  | none => simp [hq] at hs
  | some i =>
    have hi : i.size = sz := by simpa [hq] using hs
    simp [Builtin.copy_, run_underlying hu, Builtin.lenOf, sizeOf, typeInfo, hq, hi, hl, hst]
theorem grown_setRow {W : World} (g : Nat) (cs : Array Value) : W.grownBy (W.setRow g cs) (some g) :=
  ⟨rfl, rfl, rfl, by simp [World.setRow], fun k _ hk => setRow_other W g k cs (fun e => hk (by rw [e]))⟩
theorem wpList_copyS {P : Program} {w : World} {ops : Array Oper} {rest : List Oper} {o : Oper} {a : Act} {Q : Exit → Act → World → Prop} (hgd : o.guard = none) (d s : Operand) (dT sT : TypeId)
    (ho : o.op = .call { callee := .builtin .copy, args := #[d, s], argTypes := #[dT, sT] }) (elem : TypeId) (sz : Nat) (hu : P.underlying dT = some (.slice elem)) (hsz : (P.info? elem).map (·.size) = some sz)
    (g off dLen dCap : Nat) (ad : Addr) (sLen sCap : Nat) (hd : a.eval d = .slice (some ⟨g, off, none⟩) dLen dCap) (hs : a.eval s = .slice (some ad) sLen sCap)
    (cur : List Value) (t : TypeId) (hg : w.heap[g]? = some (.cells cur.toArray t (0, 0))) (cs : List Value) (hn : cs.length = Nat.min sLen dLen * sz)
    (hsrc : ∀ j v, cs[j]? = some v → w.cell? (ad.add j) = some v) (hfit : off + cs.length ≤ cur.length) (h1 : ∀ v ∈ cs, v.oneCell' = true)
    (h : ∀ w' n, Aside0 (w'.heap[g]? = some (.cells (splice cur off cs).toArray t (0, 0))) → Aside0 (w.grownBy w' (some g)) → wpList P ops Q rest (a.put o.dst (goInt n)) w') : wpList P ops Q (o :: rest) a w := by
  refine wpList_plain hgd fun K hK => ?_
  have hrun := run_copy_rowS (P := P) w dT sT o.type elem sz g off dLen dCap ad sLen sCap cur.toArray t cs hu hsz hg hn hsrc (by simpa using hfit) h1
  unfold Oper.wp
  simp [execOp, ho, resolve, invoke, builtin, hd, hs, hrun, Result.andThen]
  exact hK _ _ (h _ _ ⟨by simpa [splice] using setRow_heap w g _ _ t _ hg⟩ ⟨grown_setRow _ _⟩)
theorem step_copyS {P : Program} {ops : Array Oper} {o : Oper} {a : Act} {w : World} {K : Act → World → Prop} {Q : Exit → Act → World → Prop} {E : Prop} (hgd : o.guard = none) (d s : Operand) (dT sT : TypeId)
    (ho : o.op = .call { callee := .builtin .copy, args := #[d, s], argTypes := #[dT, sT] }) (elem : TypeId) (sz : Nat) (hu : P.underlying dT = some (.slice elem)) (hsz : (P.info? elem).map (·.size) = some sz)
    (g off dLen dCap : Nat) (ad : Addr) (sLen sCap : Nat) (hd : a.eval d = .slice (some ⟨g, off, none⟩) dLen dCap) (hs : a.eval s = .slice (some ad) sLen sCap)
    (cur : List Value) (t : TypeId) (hg : w.heap[g]? = some (.cells cur.toArray t (0, 0))) (cs : List Value) (hn : cs.length = Nat.min sLen dLen * sz)
    (hsrc : ∀ j v, cs[j]? = some v → w.cell? (ad.add j) = some v) (hfit : off + cs.length ≤ cur.length) (h1 : ∀ v ∈ cs, v.oneCell' = true)
    (h : ∀ w' n, Aside0 (w'.heap[g]? = some (.cells (splice cur off cs).toArray t (0, 0))) → Aside0 (w.grownBy w' (some g)) → K (a.put o.dst (goInt n)) w') :
    if Region.wanted o (yielded ops a.tmps) = true then Oper.wp P o a w K Q else E := by
  have hw : Region.wanted o (yielded ops a.tmps) = true := by simp [Region.wanted, hgd]
  rw [if_pos hw]
  have hrun := run_copy_rowS (P := P) w dT sT o.type elem sz g off dLen dCap ad sLen sCap cur.toArray t cs hu hsz hg hn hsrc (by simpa using hfit) h1
  unfold Oper.wp
  simp [execOp, ho, resolve, invoke, builtin, hd, hs, hrun, Result.andThen]
  exact h _ _ ⟨by simpa [splice] using setRow_heap w g _ _ t _ hg⟩ ⟨grown_setRow _ _⟩
/-- 'append(s, make(S, k)...)' where there is no room -/
theorem wpList_zerosS {P : Program} {w : World} {ops : Array Oper} {rest : List Oper} {o : Oper} {a : Act} {Q : Exit → Act → World → Prop} (hgd : o.guard = none) (s x : Operand) (t tn e : TypeId)
    (ho : o.op = .call { callee := .builtin .append, args := #[s, x], argTypes := #[t, tn] }) (z : Value) (sz bytes : Nat) (ht : P.underlying t = some (.slice e)) (htn : P.underlying tn = some (.int .i64))
    (hinfo : (P.info? e).map (fun i => (i.zero, i.size, i.bytes)) = some (some z, sz, bytes)) (hz : z.cells.size = sz) (hs0 : 0 < sz)
    (ad : Addr) (sLen sCap : Nat) (m : Int) (k N : Nat) (hN : sLen + k = N) (hs : a.eval s = .slice (some ad) sLen sCap) (hx : a.eval x = .int .i64 m) (hm : m = k) (olds : List Value) (hl : olds.length = sLen * sz)
    (hsrc : ∀ j v, olds[j]? = some v → w.cell? (ad.add j) = some v) (h0 : 0 < k) (hroom : sCap < sLen + k) (hbig : (sLen + k) * bytes ≤ 140737488355328) (hb0 : 0 < bytes)
    (h : ∀ w' c zs, Aside0 (w'.heap[w.heap.size]? = some (.cells (olds ++ zs).toArray e (0, 0))) → Aside0 (N ≤ c ∧ c ≤ 9223372036854775807 ∧ zs.length = (c - sLen) * sz) → Aside0 (w.grownBy w' none) →
      wpList P ops Q rest (a.put o.dst (.slice (some ⟨w.heap.size, 0, none⟩) N c)) w') : wpList P ops Q (o :: rest) a w := by
  obtain ⟨i0, hi, hzz⟩ := Option.map_eq_some_iff.1 hinfo
  simp only [Prod.mk.injEq] at hzz
  obtain ⟨hz0, hz1, hz2⟩ := hzz
  subst hN
  subst hz1
  subst hz2
  subst hm
  have hlen : sLen + k ≤ 140737488355328 := Nat.le_trans (Nat.le_mul_of_pos_right _ hb0) hbig
  have hold : (Builtin.firstCells i0.size sLen (.slice (some ad) sLen sCap)).run P w.drew = .ok olds.toArray w.drew := run_firstCells_some w.drew i0.size sLen ad sLen sCap olds hl (fun j v hj => hsrc j v hj)
  have hk48 : k * i0.bytes ≤ 281474976710656 := Nat.le_trans (Nat.mul_le_mul_right _ (by omega : k ≤ sLen + k)) (by omega)
  have hrun := Lib.run_append_grow_zeros (P := P) w t tn o.type e i0 z .i64 .i64 ht htn hi hz0 (some ad) sLen sCap olds hold k h0 hs0 hroom (by omega) hk48 (growslice_fits hroom hbig)
  have hge := grownCap_ge w (sLen + k) sCap e
  have hle := grownCap_le_maxLen w (sLen + k) sCap e (by unfold maxLen; omega)
  unfold maxLen at hle
  refine wpList_plain hgd fun K hK => ?_
  unfold Oper.wp execOp
  simp only [ho, resolve, invoke, builtin, Sem.run_bind, Sem.run_pure, Result.andThen_ok, List.map_toArray, List.map_cons, List.map_nil, hs, hx, hrun]
  refine hK _ _ (h _ _ (Builtin.zeroCells z.cells k ++ Builtin.zeroCells z.cells (grownCap w (sLen + k) sCap e - (sLen + k))).toList ⟨?_⟩ ⟨hge, hle, ?_⟩ ⟨⟨rfl, rfl, rfl, by simp, fun q hq _ => heap_alloc_old w.drew _ hq⟩⟩)
  · have hn := heap_alloc_new w.drew (.cells (olds.toArray ++ Builtin.zeroCells z.cells k ++ Builtin.zeroCells z.cells (grownCap w (sLen + k) sCap e - (sLen + k))) e)
    rw [show w.drew.heap.size = w.heap.size from rfl] at hn
    rw [hn]
    congr 2
    apply Array.ext'
    simp [List.append_assoc]
  · simp only [Array.toList_append, List.length_append, Array.length_toList, size_zeroCells, hz]
    rw [← Nat.add_mul]
    congr 1
    omega
end Go.Proofs.Ytljajnednggebaa.P
