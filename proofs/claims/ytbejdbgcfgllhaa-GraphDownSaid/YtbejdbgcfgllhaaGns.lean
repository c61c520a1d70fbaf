/- Layer 25: graph.near: rows under way. -/
import Derived.Test.YtbejdbgcfgllhaaP6
import Derived.Test.YtbejdbgcfgllhaaGrp
import Derived.ArgAppend
import Derived.Deep.Upon
namespace Go.Proofs.Ytbejdbgcfgllhaa.P
set_option linter.unusedSimpArgs false
set_option linter.unusedVariables false
open Go.RowKit Go.Proofs.YtbejdbgcfgllhaaW.PrintWords Go.Proofs.YtbejdbgcfgllhaaW.PrintLast Go.Proofs.YtbejdbgcfgllhaaW.PrintMore
theorem lit1_step {P : Program} {ops : Array Oper} {o : Oper} {a : Act} {Q : Exit → Act → World → Prop} {Kc : Act → World → Prop} {W : World} (hw : Region.wanted o (yielded ops a.tmps) = true) {N : Tmp} (_hd : o.dst = some N) {cs : Array Value} {t : TypeId} {n : Nat}
    (hrun : (execOp a.eval o).run P W = .ok (.value (.slice (some ⟨W.heap.size, 0, none⟩) n n)) (W.alloc (.cells cs t (0, 0))))
    (h : ∀ g, g = W.heap.size → ∀ w1, w1.heap[g]? = some (.cells cs t (0, 0)) → Below W.heap.size W w1 → Kc (a.put o.dst (.slice (some ⟨g, 0, none⟩) n n)) w1) : if Region.wanted o (yielded ops a.tmps) = true then Oper.wp P o a W Kc Q else Kc (a.put o.dst undef) W :=
  event_step hw hrun (h _ rfl _ (blk_new W _) (below_alloc (Below.refl _ _) _))
/-- what append leaves behind a row that is still looked at -/
def AppPost (W w1 : World) (base : Nat) (v v1 : Value) (xs : List Int) (y : Int) : Prop :=
  (Kd.int .i64).R 3 w1 base (fun _ => True) v1 (xs ++ [y]) ∧ (Kd.int .i64).R 3 w1 base (fun _ => True) v xs ∧ W.grownBy w1 v.ownBlock ∧ (v1.ownBlock = v.ownBlock ∨ ∃ b, v1.ownBlock = some b ∧ W.heap.size ≤ b)
theorem app_run {P : Program} {W : World} {base : Nat} {ty : TypeId} {t : TypeId} (ht : P.underlying t = some (.slice 3)) (hinfo : (P.info? 3).map (fun i => (i.zero, i.size, i.bytes)) = some (some (.int .i64 0), 1, 8))
    {v : Value} {xs : List Int} {y : Int} {gl : Nat} (hgl : W.heap[gl]? = some (.cells #[.int .i64 y] 3 (0, 0))) (HO : (Kd.int .i64).R 3 W base (fun _ => True) v xs) (hbase : base ≤ W.heap.size) (hl : xs.length + 1 ≤ 1000000) :
    ∃ v1 w1, (Builtin.append_ #[t, t] ty #[v, .slice (some ⟨gl, 0, none⟩) 1 1]).run P W = .ok v1 w1 ∧ AppPost W w1 base v v1 xs y := by
  obtain ⟨i0, hi, hzz⟩ := Option.map_eq_some_iff.1 hinfo
  simp only [Prod.mk.injEq] at hzz
  obtain ⟨hz0, hz1, hz2⟩ := hzz
  have hn : ∀ j u, [Value.int .i64 y][j]? = some u → W.cell? ((⟨gl, 0, none⟩ : Addr).add j) = some u := by
    intro j u hj
    rw [add_plain]
    exact (blk_cell hgl j).trans (by simpa using hj)
  have h1 : ∀ u ∈ [Value.int .i64 y], u.oneCell' = true := by
    intro u hu
    rw [List.mem_singleton.1 hu]
    rfl
  rcases (Kd.own_of_R HO).2 with ⟨rfl, hx0⟩ | ⟨g, cap, cur, rfl, hb, hh, hnc, hcm, hcs, htk⟩
  · have hx : xs = [] := List.eq_nil_of_length_eq_zero hx0
    subst hx
    obtain ⟨v1, w1, hrun, h2, hg, _, hat⟩ := run_append_own_at (P := P) W base t ty 3 i0 (.int .i64 0) 1 8 ht hi hz0 hz1 hz2 rfl (by decide) (.slice none 0 0) 0 [] (World.ownsRow_nil W _ 3 1) ⟨gl, 0, none⟩ 1 1 [.int .i64 y] rfl hn h1 (by decide) (by decide) hbase
    refine ⟨v1, w1, hrun, ?_, Kd.R_nil _ _ _ _ _, hg, ?_⟩
    · exact Kd.R_of_own (by simpa [encs] using h2) (fun _ _ => trivial)
    · rcases hat with hat | hat
      · exact .inl hat
      · exact .inr ⟨_, hat, Nat.le_refl _⟩
  · rw [Nat.mul_one] at hcs htk
    have hel : (encs (Value.int .i64) xs).length = xs.length := by simp [encs]
    by_cases hr : xs.length + 1 ≤ cap
    · have hrun := run_append_room_cells (P := P) W t ty 3 i0 ht hi g 0 xs.length cap ⟨gl, 0, none⟩ 1 1 [.int .i64 y] (by rw [hz1]; rfl) hn h1 hr
        (fun j hj => by
          rw [blk_cell hh, hz1]
          simp only [List.length_singleton] at hj
          rw [Array.getElem?_eq_getElem (by omega)]
          rfl) (fun j hj => blk_frozen hh _)
      rw [hz1, Nat.mul_one, Nat.zero_add] at hrun
      have hw : W.setCells g xs.length [.int .i64 y] = W.setCell ⟨g, xs.length, none⟩ (.int .i64 y) := rfl
      rw [hw] at hrun
      refine ⟨_, _, hrun, ?_, ?_, ⟨rfl, rfl, rfl, by rw [World.size_setCell]; exact Nat.le_refl _, fun k hk hne => Below.heap_setCell W ⟨g, xs.length, none⟩ _ k (fun e => hne (by rw [e]; rfl))⟩, .inl rfl⟩
      · refine Kd.R_of_own ⟨by simp [encs], .inr ⟨g, cap, _, by simp, hb, blk_set hh _ _, by simp; omega, hcm, by simp [hcs], ?_⟩⟩ (fun _ _ => trivial)
        rw [Array.toList_setIfInBounds, Nat.mul_one, List.length_append, List.length_singleton]
        rw [show encs (Value.int .i64) (xs ++ [y]) = encs (Value.int .i64) xs ++ [.int .i64 y] by simp [encs], ← htk]
        have hlt : xs.length < cur.toList.length := by simp; omega
        rw [List.take_add_one, List.take_set_of_le (Nat.le_refl _), List.getElem?_set_self hlt]
        rfl
      · refine Kd.R_of_own ⟨by simp [encs], .inr ⟨g, cap, _, rfl, hb, blk_set hh _ _, hnc, hcm, by simp [hcs], ?_⟩⟩ (fun _ _ => trivial)
        rw [Array.toList_setIfInBounds, Nat.mul_one, List.take_set_of_le (Nat.le_refl _), htk]
    · obtain ⟨v1, w1, hrun, r1, r2⟩ := run_append_arg_grows (P := P) W t ty 3 i0 (.int .i64 0) 1 8 ht hi hz0 hz1 hz2 rfl (by decide) ⟨g, 0, none⟩ xs.length cap (encs (Value.int .i64) xs) (by rw [hel, Nat.mul_one])
        (fun j u hj => by
          rw [add_plain, blk_cell hh]
          have hjl : j < xs.length := by
            have := (List.getElem?_eq_some_iff.1 hj).1
            omega
          rw [← htk, List.getElem?_take_of_lt hjl] at hj
          simpa using hj) ⟨gl, 0, none⟩ 1 1 [.int .i64 y] rfl hn (by omega) (by simp only [maxLen]; omega) (by omega)
      obtain ⟨hlen, hcase⟩ := r1
      rcases hcase with ⟨_, h0⟩ | ⟨g1, cap1, cur1, rfl, hb1, hh1, hn1, hm1, hs1, ht1⟩
      · omega
      · refine ⟨_, w1, hrun, ?_, ?_, ⟨r2.os, r2.tape, r2.output, r2.size, fun k hk _ => r2.block k hk (by simp)⟩, .inr ⟨g1, rfl, hb1⟩⟩
        · have he : encs (Value.int .i64) (xs ++ [y]) = encs (Value.int .i64) xs ++ [.int .i64 y] := by simp [encs]
          refine Kd.R_of_own ⟨by simp [encs], .inr ⟨g1, cap1, cur1, by simp, by omega, hh1, by simpa using hn1, hm1, hs1, ?_⟩⟩ (fun _ _ => trivial)
          rw [he, List.length_append, List.length_singleton]
          exact ht1
        · exact Kd.R_of_own ⟨by simp [encs], .inr ⟨g, cap, cur, rfl, hb, (r2.block g (blk_lt hh) (by simp)).trans hh, hnc, hcm, by rw [Nat.mul_one]; exact hcs, by rw [Nat.mul_one]; exact htk⟩⟩ (fun _ _ => trivial)
section
variable {P : Program} {ops : Array Oper} {o : Oper} {a : Act} {Q : Exit → Act → World → Prop} {Kc : Act → World → Prop}
theorem app_step {w0 W : World} (base : Nat) (hw : Region.wanted o (yielded ops a.tmps) = true) (s x : Operand) (t : TypeId) (ho : o.op = .call { callee := .builtin .append, args := #[s, x], argTypes := #[t, t] })
    (ht : P.underlying t = some (.slice 3)) (hinfo : (P.info? 3).map (fun i => (i.zero, i.size, i.bytes)) = some (some (.int .i64 0), 1, 8))
    (v : Value) (xs : List Int) (y : Int) (gl : Nat) (hs : a.eval s = v) (hx : a.eval x = .slice (some ⟨gl, 0, none⟩) 1 1) (hgl : W.heap[gl]? = some (.cells #[.int .i64 y] 3 (0, 0))) (HO : (Kd.int .i64).R 3 W base (fun _ => True) v xs)
    (HB : Below base w0 W) (hbase : base ≤ W.heap.size) (hl : xs.length + 1 ≤ 1000000) (h : ∀ v1 w1, AppPost W w1 base v v1 xs y → Below base w0 w1 → Kc (a.put o.dst v1) w1) :
    if Region.wanted o (yielded ops a.tmps) = true then Oper.wp P o a W Kc Q else Kc (a.put o.dst undef) W := by
  obtain ⟨v1, w1, hr1, hp⟩ := app_run (P := P) (W := W) (base := base) (ty := o.type) ht hinfo hgl HO hbase hl
  rw [if_pos hw]
  unfold Oper.wp execOp
  simp only [ho, resolve, invoke, builtin, Sem.run_bind, Sem.run_pure, Result.andThen_ok, List.map_toArray, List.map_cons, List.map_nil, hs, hx, hr1]
  exact h v1 w1 hp (pw_below_grown HB _ hbase hp.2.2.1 (fun k hk => Kd.R_base HO k hk))
end
/-- the rows under way: block g holds n of them, no two in one block -/
structure NR (w wr : World) (g n : Nat) (vs : List Value) (ll : List (List Int)) : Prop where
  bl : Below w.heap.size w wr
  gb : w.heap.size ≤ g
  hh : wr.heap[g]? = some (.cells vs.toArray 22 (0, 0))
  ln : vs.length = n
  lm : ll.length = n
  ro : ∀ (i : Nat) (v : Value) (xs : List Int), vs[i]? = some v → ll[i]? = some xs → (Kd.int .i64).R 3 wr w.heap.size (fun _ => True) v xs
  ap : ∀ (i j : Nat) (v u : Value) (k : Nat), vs[i]? = some v → vs[j]? = some u → v.ownBlock = some k → u.ownBlock = some k → i = j
structure Cd (w wr : World) (vs : List Value) (a : Nat) (v2 : Value) (xs : List Int) : Prop where
  r : (Kd.int .i64).R 3 wr w.heap.size (fun _ => True) v2 xs
  ap : ∀ (j : Nat) (u : Value) (k : Nat), vs[j]? = some u → v2.ownBlock = some k → u.ownBlock = some k → j = a
section
variable {w wr w' w1 : World} {g n : Nat} {vs : List Value} {ll : List (List Int)} {a b : Nat} {va vb v2 v3 : Value} {xa xb : List Int} {x y : Int}
theorem NR.below (h : NR w wr g n vs ll) (hb : Below wr.heap.size wr w') : NR w w' g n vs ll := ⟨below_step h.bl hb, h.gb, blk_below h.hh hb, h.ln, h.lm, fun i v xs hv hx => Kd.R_below (h.ro i v xs hv hx) hb, h.ap⟩
theorem Cd.below (h : Cd w wr vs a v2 xa) (hb : Below wr.heap.size wr w') : Cd w w' vs a v2 xa := ⟨Kd.R_below h.r hb, h.ap⟩
theorem NR.far (h : NR w wr g n vs ll) {v : Value} {xs : List Int} (hr : (Kd.int .i64).R 3 wr w.heap.size (fun _ => True) v xs) : some g ≠ v.ownBlock := Kd.R_ne hr h.hh (by decide)
theorem NR.app (h : NR w wr g n vs ll) (ha : vs[a]? = some va) (hx : ll[a]? = some xa) (hp : AppPost wr w1 w.heap.size va v2 xa y) (hb : Below w.heap.size w w1) : NR w w1 g n vs ll ∧ Cd w w1 vs a v2 (xa ++ [y]) := by
  obtain ⟨h1, h2, hg, hat⟩ := hp
  have hra := h.ro a va xa ha hx
  refine ⟨⟨hb, h.gb, (hg.block g (blk_lt h.hh) (h.far hra)).trans h.hh, h.ln, h.lm, ?_, h.ap⟩, h1, ?_⟩
  · intro i v xs hv hxs
    by_cases hia : i = a
    · subst hia
      obtain rfl := Option.some.inj (ha.symm.trans hv)
      obtain rfl := Option.some.inj (hx.symm.trans hxs)
      exact h2
    · exact Kd.R_grown2 (h.ro i v xs hv hxs) rfl hg (fun k hk e => hia (h.ap i a v va k hv ha e.symm hk))
  · intro j u k hu hk hku
    rcases hat with e | ⟨b, e, hlt⟩
    · exact h.ap j a u va k hu ha hku (e ▸ hk)
    · obtain rfl := Option.some.inj (hk.symm.trans e)
      have hj : j < n := by
        have := (List.getElem?_eq_some_iff.1 hu).1
        rw [h.ln] at this
        exact this
      have := Kd.R_lt (h.ro j u _ hu (List.getElem?_eq_getElem (by rw [h.lm]; exact hj))) k hku
      omega
theorem NR.app2 (h : NR w wr g n vs ll) (hc : a ≠ b → Cd w wr vs a v2 xa) (hb : vs[b]? = some vb) (hx : ll[b]? = some xb) (hp : AppPost wr w1 w.heap.size vb v3 xb y) (hbl : Below w.heap.size w w1) :
    NR w w1 g n vs ll ∧ (a ≠ b → Cd w w1 vs a v2 xa) ∧ Cd w w1 vs b v3 (xb ++ [y]) ∧ (a ≠ b → ∀ k, v2.ownBlock = some k → v3.ownBlock = some k → False) := by
  obtain ⟨n1, c1⟩ := h.app hb hx hp hbl
  refine ⟨n1, fun hab => ⟨Kd.R_grown2 (hc hab).r rfl hp.2.2.1 (fun k hk e => hab ((hc hab).ap b vb k hb e.symm hk).symm), (hc hab).ap⟩, c1, fun hab k h2 h3 => ?_⟩
  rcases hp.2.2.2 with e | ⟨q, e, hlt⟩
  · exact hab ((hc hab).ap b vb k hb h2 (e ▸ h3)).symm
  · obtain rfl := Option.some.inj (h3.symm.trans e)
    have := Kd.R_lt (hc hab).r k h2
    omega
theorem NR.put (h : NR w wr g n vs ll) (ha : a < n) (hb : b < n) (hc : a ≠ b → Cd w wr vs a v2 xa) (hd : Cd w wr vs b v3 xb) (hap : a ≠ b → ∀ k, v2.ownBlock = some k → v3.ownBlock = some k → False) :
    NR w ((wr.setCell ⟨g, a, none⟩ v2).setCell ⟨g, b, none⟩ v3) g n ((vs.set a v2).set b v3) ((ll.set a xa).set b xb) := by
  have hm : ∀ {v : Value} {xs : List Int}, (Kd.int .i64).R 3 wr w.heap.size (fun _ => True) v xs → (Kd.int .i64).R 3 ((wr.setCell ⟨g, a, none⟩ v2).setCell ⟨g, b, none⟩ v3) w.heap.size (fun _ => True) v xs := by
    intro v xs hr
    have h1 := Kd.R_far1 hr rfl (h.far hr)
    have h2 := Kd.R_far (p := ⟨g, b, none⟩) (Kd.R_far (p := ⟨g, a, none⟩) h1 (fun k hk => hk.2) v2) (fun k hk => hk.2) v3
    exact Kd.R_mono h2 (fun _ _ => trivial)
  refine ⟨(h.bl.setCell h.gb _).setCell h.gb _, h.gb, ?_, by simp [h.ln], by simp [h.lm], ?_, ?_⟩
  · have h1 := blk_set (blk_set h.hh a v2) b v3
    simpa using h1
  · intro i v xs hv hx
    by_cases hib : i = b
    · subst hib
      rw [List.getElem?_set_self (by simp [h.ln]; exact hb)] at hv
      rw [List.getElem?_set_self (by simp [h.lm]; exact hb)] at hx
      obtain rfl := Option.some.inj hv
      obtain rfl := Option.some.inj hx
      exact hm hd.r
    · rw [List.getElem?_set_ne (Ne.symm hib)] at hv hx
      by_cases hia : i = a
      · subst hia
        rw [List.getElem?_set_self (by rw [h.ln]; exact ha)] at hv
        rw [List.getElem?_set_self (by rw [h.lm]; exact ha)] at hx
        obtain rfl := Option.some.inj hv
        obtain rfl := Option.some.inj hx
        exact hm (hc hib).r
      · rw [List.getElem?_set_ne (Ne.symm hia)] at hv hx
        exact hm (h.ro i v xs hv hx)
  · have key : ∀ i v, ((vs.set a v2).set b v3)[i]? = some v → (i = b ∧ v = v3) ∨ (i ≠ b ∧ i = a ∧ v = v2) ∨ (i ≠ b ∧ i ≠ a ∧ vs[i]? = some v) := by
      intro i v hv
      by_cases hib : i = b
      · subst hib
        rw [List.getElem?_set_self (by simp [h.ln]; exact hb)] at hv
        exact .inl ⟨rfl, (Option.some.inj hv).symm⟩
      · rw [List.getElem?_set_ne (Ne.symm hib)] at hv
        by_cases hia : i = a
        · subst hia
          rw [List.getElem?_set_self (by rw [h.ln]; exact ha)] at hv
          exact .inr (.inl ⟨hib, rfl, (Option.some.inj hv).symm⟩)
        · rw [List.getElem?_set_ne (Ne.symm hia)] at hv
          exact .inr (.inr ⟨hib, hia, hv⟩)
    intro i j v u k hv hu hk hk2
    rcases key i v hv with ⟨rfl, rfl⟩ | ⟨hi, rfl, rfl⟩ | ⟨hi, hi2, hv'⟩ <;> rcases key j u hu with ⟨rfl, rfl⟩ | ⟨hj, rfl, rfl⟩ | ⟨hj, hj2, hu'⟩
    · rfl
    · exact (hap hj k hk2 hk).elim
    · exact (hd.ap j u k hu' hk hk2).symm
    · exact (hap hi k hk hk2).elim
    · rfl
    · exact ((hc hi).ap j u k hu' hk hk2).symm
    · exact hd.ap i v k hv' hk2 hk
    · exact (hc hj).ap i v k hv' hk2 hk
    · exact h.ap i j v u k hv' hu' hk hk2
theorem NR.done (h : NR w wr g n vs ll) (hn : n ≤ maxLen) : Kd.S (Kd.slice 3 (Kd.int .i64)) 22 wr w.heap.size (fun _ => True) (.slice (some ⟨g, 0, none⟩) n n) ll := by
  refine ⟨fun k => vs.findIdx (fun v => v.ownBlock == some k), fun _ _ => trivial, vs, ?_, ?_, ?_⟩
  · refine ⟨?_, .inr ⟨g, n, vs.toArray, ?_, h.gb, h.hh, ?_, hn, ?_, ?_⟩⟩
    · show vs.length = _ * 1
      rw [List.length_zipIdx, h.lm, h.ln, Nat.mul_one]
    · rw [List.length_zipIdx, h.lm]
    · rw [List.length_zipIdx, h.lm]
      exact Nat.le_refl _
    · show vs.toArray.size = n * 1
      simp [h.ln]
    · show List.take (_ * 1) vs.toArray.toList = vs
      rw [List.length_zipIdx, h.lm, Nat.mul_one]
      exact List.take_of_length_le (by rw [h.ln]; exact Nat.le_refl _)
  · show vs.length = _ * 1
    rw [List.length_zipIdx, h.lm, h.ln, Nat.mul_one]
  · intro i p hi
    have hi2 : i < n := by
      have := (List.getElem?_eq_some_iff.1 hi).1
      rw [List.length_zipIdx, h.lm] at this
      exact this
    have hp : p = (ll[i]'(by rw [h.lm]; exact hi2), i) := by
      rw [Kd.zip_at (List.getElem?_eq_getElem (by rw [h.lm]; exact hi2))] at hi
      exact (Option.some.inj hi).symm
    subst hp
    have hvi : vs[i]? = some (vs[i]'(by rw [h.ln]; exact hi2)) := List.getElem?_eq_getElem _
    have hr := h.ro i _ _ hvi (List.getElem?_eq_getElem (by rw [h.lm]; exact hi2))
    refine ⟨vs[i]'(by rw [h.ln]; exact hi2), ?_, ?_⟩
    · show List.take 1 (List.drop (i * 1) vs) = _
      rw [Nat.mul_one, List.drop_eq_getElem_cons (by rw [h.ln]; exact hi2)]
      rfl
    · refine Kd.R_mono (Kd.R_tight2 rfl (Kd.R_reok rfl hr (ok := fun k => True ∧ some k ≠ (Value.slice (some ⟨g, 0, none⟩) n n).ownBlock) (fun k hk => ⟨trivial, fun e => h.far hr (by rw [hk]; exact e.symm)⟩))) (fun k hk => ⟨⟨trivial, ?_⟩, ?_⟩)
      · exact hk.2.2
      · show List.findIdx _ vs = i
        rw [List.findIdx_eq (by rw [h.ln]; exact hi2)]
        refine ⟨by simp [← hk.1], fun j hj => ?_⟩
        have hjl : j < vs.length := by rw [h.ln]; omega
        simp only [beq_eq_false_iff_ne, ne_eq]
        intro e
        have := h.ap j i _ _ k (List.getElem?_eq_getElem hjl) hvi e hk.1.symm
        omega
end
end Go.Proofs.Ytbejdbgcfgllhaa.P
