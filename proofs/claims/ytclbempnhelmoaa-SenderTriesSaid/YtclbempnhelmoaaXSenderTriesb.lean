/- Walks. -/
import Derived.Laws.LoneSync
import Derived.Test.YtclbempnhelmoaaXSenderTriesa
set_option linter.unusedVariables false
set_option linter.unusedSimpArgs false
set_option maxHeartbeats 8000000
set_option maxRecDepth 100000
namespace Go.Proofs.Ytclbempnhelmoaa.P
open Go.RowKit YtclbempnhelmoaaW.PrintWords YtclbempnhelmoaaW.PrintLast YtclbempnhelmoaaW.PrintMore
def Wr (g : Nat) (vw vo : Value) (O : List (It × Int)) (k : Nat) : Prop := k = g ∨ some k = vw.ownBlock ∨ some k = vo.ownBlock ∨ ∃ o ∈ O, k = o.1.p
theorem Sd.wr {w0 w : World} {F : Nat → Prop} {g : Nat} {wn tr nx : Int} {W : List S34} {O : List (It × Int)} {vw vo : Value} (h : Sd w0 w F g wn tr W O nx vw vo) : ∀ k, Wr g vw vo O k → F k := by
 rintro k (rfl | e | e | ⟨o, ho, rfl⟩)
 ·exact h.fg
 ·exact (h.roww.1 k e.symm).1
 ·exact (h.rowo.1 k e.symm).1
 ·exact (h.cnt o ho).1
structure SX (w : World) (F R : Nat → Prop) (w' : World) (F' R' : Nat → Prop) : Prop where
 sz : w.heap.size ≤ w'.heap.size
 fr : ∀ k, k < w.heap.size → ¬ R k → w'.heap[k]? = w.heap[k]?
 fp : ∀ k, F' k → F k ∨ w.heap.size ≤ k
 wr : ∀ k, R' k → R k ∨ w.heap.size ≤ k
theorem SX.refl (w : World) (F R : Nat → Prop) : SX w F R w F R := ⟨Nat.le_refl _, fun _ _ _ => rfl, fun _ h => .inl h, fun _ h => .inl h⟩
theorem SX.of_below {w w' : World} (F R : Nat → Prop) (hb : Below w.heap.size w w') : SX w F R w' F R := ⟨hb.size, fun k hk _ => hb.block k hk, fun _ h => .inl h, fun _ h => .inl h⟩
theorem SX.trans {w w1 w2 : World} {F R F1 R1 F2 R2 : Nat → Prop} (h : SX w F R w1 F1 R1) (h2 : SX w1 F1 R1 w2 F2 R2) : SX w F R w2 F2 R2 := by
 refine ⟨Nat.le_trans h.sz h2.sz, fun k hk hr => ?_, fun k hk => ?_, fun k hk => ?_⟩
 ·refine (h2.fr k (Nat.lt_of_lt_of_le hk h.sz) (fun hr1 => ?_)).trans (h.fr k hk hr)
  rcases h.wr k hr1 with e | e
  ·exact hr e
  ·omega
 ·rcases h2.fp k hk with e | e
  ·exact h.fp k e
  ·exact .inr (Nat.le_trans h.sz e)
 ·rcases h2.wr k hk with e | e
  ·exact h.wr k e
  ·exact .inr (Nat.le_trans h.sz e)
theorem SX.below {w w1 w2 : World} {F R F1 R1 : Nat → Prop} (h : SX w F R w1 F1 R1) (hb : Below w1.heap.size w1 w2) : SX w F R w2 F1 R1 := h.trans (SX.of_below F1 R1 hb)
theorem lit1_step {P : Program} {ops : Array Oper} {o : Oper} {a : Act} {Q : Exit → Act → World → Prop} {Kc : Act → World → Prop} {W : World} (hw : Region.wanted o (yielded ops a.tmps) = true) {N : Tmp} (_hd : o.dst = some N) {cs : Array Value} {t : TypeId} {n : Nat}
  (hrun : (execOp a.eval o).run P W = .ok (.value (.slice (some ⟨W.heap.size, 0, none⟩) n n)) (W.alloc (.cells cs t (0, 0))))
  (h : ∀ g, g = W.heap.size → ∀ w1, w1.heap[g]? = some (.cells cs t (0, 0)) → Below W.heap.size W w1 → Kc (a.put o.dst (.slice (some ⟨g, 0, none⟩) n n)) w1) : if Region.wanted o (yielded ops a.tmps) = true then Oper.wp P o a W Kc Q else Kc (a.put o.dst undef) W :=
 event_step hw hrun (h _ rfl _ (blk_new W _) (below_alloc (Below.refl _ _) _))
theorem lit1_event {P : Program} {ops : Array Oper} {rest : List Oper} {o : Oper} {a : Act} {Q : Exit → Act → World → Prop} {W : World} (hgd : o.guard = none) {N : Tmp} (_hd : o.dst = some N) {cs : Array Value} {t : TypeId} {n : Nat}
  (hrun : (execOp a.eval o).run P W = .ok (.value (.slice (some ⟨W.heap.size, 0, none⟩) n n)) (W.alloc (.cells cs t (0, 0))))
  (h : ∀ g, g = W.heap.size → ∀ w1, w1.heap[g]? = some (.cells cs t (0, 0)) → Below W.heap.size W w1 → wpList P ops Q rest (a.put o.dst (.slice (some ⟨g, 0, none⟩) n n)) w1) : wpList P ops Q (o :: rest) a W :=
 Kd.event_run hgd hrun (h _ rfl _ (blk_new W _) (below_alloc (Below.refl _ _) _))
section
variable {w0 w w' : World} {F : Nat → Prop} {g : Nat} {wn tr nx : Int} {W : List S34} {O : List (It × Int)} {vw vo : Value}
theorem Sd.keep (h : Sd w0 w F g wn tr W O nx vw vo) (hk : ∀ k, F k → w'.heap[k]? = w.heap[k]?) (hs : w.heap.size ≤ w'.heap.size) (hb : Below w0.heap.size w0 w') : Sd w0 w' F g wn tr W O nx vw vo :=
 ⟨hb, (hk g h.fg).trans h.blk, h.new, fun k hF => Nat.lt_of_lt_of_le (h.lt k hF) hs, h.fg, Kd.R_step h.roww (fun k ho _ => hk k ho.1), Kd.R_step h.rowo (fun k ho _ => hk k ho.1), fun o ho => ⟨(h.cnt o ho).1, (h.cnt o ho).2.1, (h.cnt o ho).2.2.1, (hk _ (h.cnt o ho).1).trans (h.cnt o ho).2.2.2⟩, h.apart⟩
theorem Sd.below (h : Sd w0 w F g wn tr W O nx vw vo) (hb : Below w.heap.size w w') : Sd w0 w' F g wn tr W O nx vw vo :=
 h.keep (fun k hk => hb.block k (h.lt k hk)) hb.size (below_step h.bl hb)
theorem Sd.push (h : Sd w0 w F g wn tr W O nx vw vo) {v2 : Value} {W2 : List S34} (hr : k34.R 34 w' w0.heap.size (fun k => (F k ∨ w.heap.size ≤ k) ∧ k ≠ g ∧ some k ≠ vo.ownBlock ∧ ∀ o ∈ O, k ≠ o.1.p) v2 W2) (hg : w.grownBy w' vw.ownBlock) (hat : v2.ownBlock = vw.ownBlock ∨ ∃ b, v2.ownBlock = some b ∧ w.heap.size ≤ b) :
  Sd w0 (w'.setCell ⟨g, 2, none⟩ v2) (fun k => (F k ∨ w.heap.size ≤ k) ∧ k < w'.heap.size) g wn tr W2 O nx v2 vo := by
 have hw0 := below_size h.bl
 have hbase : ∀ k, vw.ownBlock = some k → w0.heap.size ≤ k := fun k hk => Kd.R_base h.roww k hk
 have hgl := blk_lt h.blk
 have hgw : some g ≠ vw.ownBlock := fun e => (h.roww.1 g e.symm).2.1 rfl
 have hx := (hg.block g hgl hgw).trans h.blk
 have hsz : w'.heap.size ≤ (w'.setCell ⟨g, 2, none⟩ v2).heap.size := ((Below.refl 0 w').setCell (Nat.zero_le g) v2).size
 refine ⟨(pw_below_grown h.bl _ hw0 hg hbase).setCell h.new _, blk_put hx 2 v2 rfl, h.new, fun k hk => Nat.lt_of_lt_of_le hk.2 hsz, ⟨.inl h.fg, blk_lt hx⟩, ?_, ?_, fun o ho => ?_, h.apart⟩
 ·exact Kd.R_mono (Kd.R_far (Kd.R_bound hr) (fun k hk e => hk.1.2.1 e) v2) (fun k hk => ⟨⟨hk.1.1, hk.2.2.1⟩, hk.1.2⟩)
 ·have hb := Kd.R_bound h.rowo
  refine Kd.R_mono (Kd.R_far (Kd.R_grown (Kd.R_mono hb (ok' := fun k => (F k ∧ k ≠ g ∧ some k ≠ vw.ownBlock ∧ ∀ o ∈ O, k ≠ o.1.p) ∧ k < w.heap.size) (fun k hk => ⟨hk.1, hk.2.2.1⟩)) hg (fun k hk => hk.1.2.2.1)) (fun k hk e => hk.1.2.1 e) v2) (fun k hk => ⟨⟨.inl hk.1.1, Nat.lt_of_lt_of_le hk.2 hg.size⟩, hk.1.2.1, fun e => ?_, hk.1.2.2.2⟩)
  rcases hat with e2 | ⟨b, e2, hbl⟩
  ·exact hk.1.2.2.1 (e.trans e2)
  ·have := Option.some.inj (e.trans e2)
   have := hk.2
   omega
 ·obtain ⟨a, b, c, d⟩ := h.cnt o ho
  have hne : some o.1.p ≠ vw.ownBlock := fun e => (h.roww.1 _ e.symm).2.2.2 o ho rfl
  have hd := (hg.block _ (blk_lt d) hne).trans d
  exact ⟨⟨.inl a, blk_lt hd⟩, b, c, (Below.heap_setCell w' ⟨g, 2, none⟩ v2 o.1.p b).trans hd⟩
theorem Sd.pushX (h : Sd w0 w F g wn tr W O nx vw vo) {v2 : Value} (hg : w.grownBy w' vw.ownBlock) (hat : v2.ownBlock = vw.ownBlock ∨ ∃ b, v2.ownBlock = some b ∧ w.heap.size ≤ b) :
  SX w F (Wr g vw vo O) (w'.setCell ⟨g, 2, none⟩ v2) (fun k => (F k ∨ w.heap.size ≤ k) ∧ k < w'.heap.size) (Wr g v2 vo O) := by
 have hsz : w'.heap.size ≤ (w'.setCell ⟨g, 2, none⟩ v2).heap.size := ((Below.refl 0 w').setCell (Nat.zero_le g) v2).size
 refine ⟨Nat.le_trans hg.size hsz, fun k hk hr => ?_, fun k hk => hk.1, fun k hk => ?_⟩
 ·exact (Below.heap_setCell w' ⟨g, 2, none⟩ v2 k (fun e => hr (.inl e))).trans (hg.block k hk (fun e => hr (.inr (.inl e))))
 ·rcases hk with e | e | e | e
  ·exact .inl (.inl e)
  ·rcases hat with e2 | ⟨b, e2, hbl⟩
   ·exact .inl (.inr (.inl (e.trans e2)))
   ·have := Option.some.inj (e.trans e2)
    exact .inr (this ▸ hbl)
  ·exact .inl (.inr (.inr (.inl e)))
  ·exact .inl (.inr (.inr (.inr e)))
end
theorem RO_some {w : World} {base : Nat} {ok : Nat → Prop} {v : Value} {X : List S34} (h : k34.R 34 w base ok v X) : ∃ A m c, v = .slice A m c := by
 obtain ⟨A, c, e, _⟩ := Kd.R_reads h
 exact ⟨A, _, c, e⟩
theorem oneO_C {w : World} {h : Nat} {x : S34} (hv : w.heap[h]? = some (.cells #[.int .i64 x.f0, .int .i64 x.f1, .bool x.f2.f0, .int .i64 x.f2.f1, .int .i64 x.f2.f2, .int .i64 x.f2.f3, .int .i64 x.f2.f4, .int .i64 x.f2.f5, .int .i64 x.f3.f0, .int .i64 x.f3.f1, .int .i64 x.f3.f2, .int .i64 x.f4] 34 (0, 0))) : k34.C w (some ⟨h, 0, none⟩) 1 [x] := by
 refine ⟨rfl, by omega, fun _ => ⟨_, rfl, fun j p hp => ?_⟩⟩
 have hj : j = 0 := by have := (List.getElem?_eq_some_iff.1 hp).1; simpa using this
 subst hj
 obtain rfl : x = p := by simpa using hp
 refine ⟨[.int .i64 x.f0, .int .i64 x.f1, .bool x.f2.f0, .int .i64 x.f2.f1, .int .i64 x.f2.f2, .int .i64 x.f2.f3, .int .i64 x.f2.f4, .int .i64 x.f2.f5, .int .i64 x.f3.f0, .int .i64 x.f3.f1, .int .i64 x.f3.f2, .int .i64 x.f4], rfl, k34_mk w x, fun i u hu => ?_⟩
 rw [show 0 * k34.sz + i = i by omega, add_plain]
 exact (blk_cell hv i).trans (by simpa using hu)
theorem Sd.fresh {w0 w : World} {F : Nat → Prop} {g : Nat} {wn tr nx : Int} {W : List S34} {O : List (It × Int)} {vw vo : Value} (h : Sd w0 w F g wn tr W O nx vw vo) : ∀ k, w.heap.size ≤ k → (F k ∨ w.heap.size ≤ k) ∧ k ≠ g ∧ some k ≠ vo.ownBlock ∧ ∀ o ∈ O, k ≠ o.1.p := fun k hk =>
 ⟨.inr hk, fun e => by have := blk_lt h.blk; omega, fun e => by have := Kd.R_lt h.rowo k e.symm; omega, fun o ho e => by have := blk_lt (h.cnt o ho).2.2.2; omega⟩
def spu.T7 : Bool × List (List Nat × List Nat) := (true, [([], []), ([], []), ([1], [1]), ([2], [2]), ([3], [3]), ([], []), ([5], [5]), ([4, 6], [4, 6]), ([0, 0, 1, 2, 3, 4, 5, 6, 7], [0]), ([8, 0, 1, 2, 3, 4, 5, 6, 7], [8]), ([9, 7, 7, 0, 1, 2, 3, 4, 5, 6, 7], [7, 9])])
def spu.B7 : List Nat := [0, 0, 2, 6, 14, 0, 32, 126, 255, 511, 1023]
theorem spu.tab7 : rtab .any (opsOf Try.f11 7) = spu.T7 := by kernel_rfl
theorem spu.bits7 : waitsOk spu.T7.2 spu.B7 = true := by kernel_rfl
theorem spush_ok {w0 w : World} {F : Nat → Prop} {g : Nat} {wn tr nx : Int} {W : List S34} {O : List (It × Int)} {vw vo : Value} (h : Sd w0 w F g wn tr W O nx vw vo) (hl : W.length < 1024) (K : Nat) (a0 : Int) (a1 : Int) (a2 : Bool) (a3 : Int) (a4 : Int) (a5 : Int) (a6 : Int) (a7 : Int) (a8 : Int) (a9 : Int) (a10 : Int) (a11 : Int) (hk : object_Check.f K a0 a1 a2 a3 a4 a5 a6 a7 a8 a9 a10 a11 = some 0) :
  Calls Try.prog 11 #[.pointer (some ⟨g, 0, none⟩), .agg #[.int .i64 a0, .int .i64 a1, .bool a2, .int .i64 a3, .int .i64 a4, .int .i64 a5, .int .i64 a6, .int .i64 a7, .int .i64 a8, .int .i64 a9, .int .i64 a10, .int .i64 a11]] w fun e w' => e = .returned (.int .i64 0) ∧ ∃ F' v2, Sd w0 w' F' g wn tr (W ++ [⟨a0, a1, ⟨a2, a3, a4, a5, a6, a7⟩, ⟨a8, a9, a10⟩, a11⟩]) O nx v2 vo ∧ SX w F (Wr g vw vo O) w' F' (Wr g v2 vo O) := by
 obtain ⟨A, c, rfl, hlc, hC⟩ := Kd.R_reads h.roww
 have HS := Aside0.mk h
 have HK := Aside0.mk hk
 have HL := Aside0.mk hl
 have q4 : decide ((W.length : Int) ≥ 1024) = false := decide_eq_false (by omega)
 clear h hk hl hlc hC
 go_enter Try.func11, Try.ntmps11
 go_upto_region 7 with (first
  | ((with_reducible refine gate_dst (N := 3) rfl ?_); refine box_event ?hg (N := 3) ?hd (cs := #[.int .i64 a0, .int .i64 a1, .bool a2, .int .i64 a3, .int .i64 a4, .int .i64 a5, .int .i64 a6, .int .i64 a7, .int .i64 a8, .int .i64 a9, .int .i64 a10, .int .i64 a11]) (t := 34) ?hr ?_; (case hd => rfl); (case hg => rfl); (case hr => first | (go_simp; done) | (go_simp; rfl) | rfl | kernel_rfl); intro gb hgb w1 hbox hb; have BX := Aside0.mk hbox; have HS1 := Aside0.mk (HS.out.below hb); have BW1 := Aside0.mk hb; have o0 := (blk_cell BX.out 0).trans rfl; have o1 := (blk_cell BX.out 1).trans rfl; have o2 := (blk_cell BX.out 2).trans rfl; have o3 := (blk_cell BX.out 3).trans rfl; have o4 := (blk_cell BX.out 4).trans rfl; have o5 := (blk_cell BX.out 5).trans rfl; have o6 := (blk_cell BX.out 6).trans rfl; have o7 := (blk_cell BX.out 7).trans rfl; have o8 := (blk_cell BX.out 8).trans rfl; have o9 := (blk_cell BX.out 9).trans rfl; have o10 := (blk_cell BX.out 10).trans rfl; have o11 := (blk_cell BX.out 11).trans rfl; clear hb hbox hgb)
  | (go_at_call 26; (with_reducible refine (object_Check.calls K a0 a1 a2 a3 a4 a5 a6 a7 a8 a9 a10 a11 _ _ HK.out).mono ?_); rintro x_ w2 ⟨rfl, hb⟩; have HS2 := Aside0.mk (HS1.out.below hb); have BW2 := Aside0.mk (below_step BW1.out hb); have BY := Aside0.mk (blk_below BX.out hb); have hx : w2.cell? ⟨g, 2, none⟩ = some (.slice A W.length c) := (blk_cell HS2.out.blk 2).trans rfl; have p0 := (blk_cell BY.out 0).trans rfl; have p1 := (blk_cell BY.out 1).trans rfl; have p2 := (blk_cell BY.out 2).trans rfl; have p3 := (blk_cell BY.out 3).trans rfl; have p4 := (blk_cell BY.out 4).trans rfl; have p5 := (blk_cell BY.out 5).trans rfl; have p6 := (blk_cell BY.out 6).trans rfl; have p7 := (blk_cell BY.out 7).trans rfl; have p8 := (blk_cell BY.out 8).trans rfl; have p9 := (blk_cell BY.out 9).trans rfl; have p10 := (blk_cell BY.out 10).trans rfl; have p11 := (blk_cell BY.out 11).trans rfl; clear hb))
 refine start_ (n := 11) (S := fun w' => w'.cell? ⟨g, 2, none⟩ = some (.slice A W.length c) ∧ w'.cell? ⟨gb, 0, none⟩ = some (.int .i64 a0) ∧ w'.cell? ⟨gb, 1, none⟩ = some (.int .i64 a1) ∧ w'.cell? ⟨gb, 2, none⟩ = some (.bool a2) ∧ w'.cell? ⟨gb, 3, none⟩ = some (.int .i64 a3) ∧ w'.cell? ⟨gb, 4, none⟩ = some (.int .i64 a4) ∧ w'.cell? ⟨gb, 5, none⟩ = some (.int .i64 a5) ∧ w'.cell? ⟨gb, 6, none⟩ = some (.int .i64 a6) ∧ w'.cell? ⟨gb, 7, none⟩ = some (.int .i64 a7) ∧ w'.cell? ⟨gb, 8, none⟩ = some (.int .i64 a8) ∧ w'.cell? ⟨gb, 9, none⟩ = some (.int .i64 a9) ∧ w'.cell? ⟨gb, 10, none⟩ = some (.int .i64 a10) ∧ w'.cell? ⟨gb, 11, none⟩ = some (.int .i64 a11)) (ds := [7, 10]) #[false, false, false, false, false, false, false, false, false, false, false] (by kernel_rfl) rfl rfl ⟨hx, p0, p1, p2, p3, p4, p5, p6, p7, p8, p9, p10, p11⟩ (fun hHeld => ?_); refine with_tabW spu.tab7 spu.bits7 (fun HT_ HW_ => ?_)
 refine pure_ (i := 0) (N := some 19) (v := ?_) (a' := ?_) #[true, false, false, false, false, false, false, false, false, false, false] rfl rfl (any_of HT_.out (by kernel_rfl)) (fun _ _ _ h => h) (Or.inl ⟨by rfl, ?_⟩) ?_ ?_
 rotate_left
 ·intro w'
  go_simp
  with_reducible rfl
 rotate_left
 ·simp only [Act.put, List.setIfInBounds_toArray, List.set_cons_zero, List.set_cons_succ, i64_w, i32_w]
  rfl
 refine pure_ (i := 1) (N := some 20) (v := ?_) (a' := ?_) #[true, true, false, false, false, false, false, false, false, false, false] rfl rfl (any_of HT_.out (by kernel_rfl)) (fun _ _ _ h => h) (Or.inl ⟨by rfl, ?_⟩) ?_ ?_
 rotate_left
 ·intro w'
  go_simp
  with_reducible rfl
 rotate_left
 ·simp only [Act.put, List.setIfInBounds_toArray, List.set_cons_zero, List.set_cons_succ, i64_w, i32_w]
  rfl
 refine pure_ (i := 2) (N := some 21) (v := ?_) (a' := ?_) #[true, true, true, false, false, false, false, false, false, false, false] rfl rfl (any_of HT_.out (by kernel_rfl)) (fun _ _ _ h => h) (Or.inl ⟨by rfl, ?_⟩) ?_ ?_
 rotate_left
 ·intro w'
  go_simp
  with_reducible rfl
 rotate_left
 ·simp only [Act.put, List.setIfInBounds_toArray, List.set_cons_zero, List.set_cons_succ, i64_w, i32_w]
  rfl
 refine pure_ (i := 3) (N := some 22) (v := ?_) (a' := ?_) #[true, true, true, true, false, false, false, false, false, false, false] rfl rfl (any_of HT_.out (by kernel_rfl)) (fun _ _ _ h => h) (Or.inl ⟨by rfl, ?_⟩) ?_ ?_
 rotate_left
 ·intro w'
  go_simp
  with_reducible rfl
 rotate_left
 ·simp only [Act.put, List.setIfInBounds_toArray, List.set_cons_zero, List.set_cons_succ, i64_w, i32_w]
  rfl
 refine take_ (i := 4) (N := some 23) (v := ?_) (a' := ?_) #[true, true, true, true, true, false, false, false, false, false, false] rfl rfl (take_ofW HT_.out HW_.out (by kernel_rfl)) (fun _ _ _ h => h) (Or.inl ⟨by rfl, ?_⟩) hHeld ?_ ?_
 rotate_left
 ·rintro w' ⟨s0, s1, s2, s3, s4, s5, s6, s7, s8, s9, s10, s11, s12⟩
  go_simp
  with_reducible rfl
 rotate_left
 ·simp only [Act.put, List.setIfInBounds_toArray, List.set_cons_zero, List.set_cons_succ, i64_w, i32_w]
  rfl
 refine take_ (i := 5) (N := some 24) (v := ?_) (a' := ?_) #[true, true, true, true, true, true, false, false, false, false, false] rfl rfl (take_ofW HT_.out HW_.out (by kernel_rfl)) (fun _ _ _ h => h) (Or.inl ⟨by rfl, ?_⟩) hHeld ?_ ?_
 rotate_left
 ·rintro w' ⟨s0, s1, s2, s3, s4, s5, s6, s7, s8, s9, s10, s11, s12⟩
  go_simp
  with_reducible rfl
 rotate_left
 ·simp only [Act.put, List.setIfInBounds_toArray, List.set_cons_zero, List.set_cons_succ, i64_w, i32_w]
  rfl
 refine one_ (i := 6) (N := some 25) #[true, true, true, true, true, true, true, false, false, false, false] rfl rfl (one_of HT_.out (by kernel_rfl)) (by decide) (fun K hK => ?_)
 refine lit1_step ?hg (N := 25) ?hd (cs := #[.int .i64 a0, .int .i64 a1, .bool a2, .int .i64 a3, .int .i64 a4, .int .i64 a5, .int .i64 a6, .int .i64 a7, .int .i64 a8, .int .i64 a9, .int .i64 a10, .int .i64 a11]) (t := 34) (n := 1) ?hr ?_
 (case hd => rfl)
 (case hg => rfl)
 (case hr => first | (go_simp; done) | (go_simp; rfl))
 intro gl hgl w5 hbox hb
 have HS5 := Aside0.mk (HS2.out.below (below_step (below_drew (Below.refl _ _)) hb))
 have BW5 := Aside0.mk (below_step BW2.out (below_step (below_drew (Below.refl _ _)) hb))
 have BG := Aside0.mk hbox
 refine hK.out _ _ ⟨(hb.cell (World.block_lt_of_cell? _ _ hHeld.1)).trans hHeld.1, (hb.cell (World.block_lt_of_cell? _ _ hHeld.2.1)).trans hHeld.2.1, (hb.cell (World.block_lt_of_cell? _ _ hHeld.2.2.1)).trans hHeld.2.2.1, (hb.cell (World.block_lt_of_cell? _ _ hHeld.2.2.2.1)).trans hHeld.2.2.2.1, (hb.cell (World.block_lt_of_cell? _ _ hHeld.2.2.2.2.1)).trans hHeld.2.2.2.2.1, (hb.cell (World.block_lt_of_cell? _ _ hHeld.2.2.2.2.2.1)).trans hHeld.2.2.2.2.2.1, (hb.cell (World.block_lt_of_cell? _ _ hHeld.2.2.2.2.2.2.1)).trans hHeld.2.2.2.2.2.2.1, (hb.cell (World.block_lt_of_cell? _ _ hHeld.2.2.2.2.2.2.2.1)).trans hHeld.2.2.2.2.2.2.2.1, (hb.cell (World.block_lt_of_cell? _ _ hHeld.2.2.2.2.2.2.2.2.1)).trans hHeld.2.2.2.2.2.2.2.2.1, (hb.cell (World.block_lt_of_cell? _ _ hHeld.2.2.2.2.2.2.2.2.2.1)).trans hHeld.2.2.2.2.2.2.2.2.2.1, (hb.cell (World.block_lt_of_cell? _ _ hHeld.2.2.2.2.2.2.2.2.2.2.1)).trans hHeld.2.2.2.2.2.2.2.2.2.2.1, (hb.cell (World.block_lt_of_cell? _ _ hHeld.2.2.2.2.2.2.2.2.2.2.2.1)).trans hHeld.2.2.2.2.2.2.2.2.2.2.2.1, (hb.cell (World.block_lt_of_cell? _ _ hHeld.2.2.2.2.2.2.2.2.2.2.2.2)).trans hHeld.2.2.2.2.2.2.2.2.2.2.2.2⟩ (fun hHeld => ?_)
 clear hK K
 refine norm_ (a' := ?_) ?_ ?_
 rotate_left
 ·show Act.put _ (some 25) _ = _
  simp only [Act.put, List.setIfInBounds_toArray, List.set_cons_zero, List.set_cons_succ, i64_w, i32_w]
  rfl
 refine last_ (i := 7) (N := some 26) #[true, true, true, true, true, true, true, true, false, false, false] rfl rfl (one_of HT_.out (by kernel_rfl)) (by decide) (fun K hK => ?_)
 refine Kd.R_append_rows_step k34 (w0 := w5) w0.heap.size ?hw (.tmp 23) (.tmp 25) 46 34 (.agg #[(.int .i64 0), (.int .i64 0), (.bool false), (.int .i64 0), (.int .i64 0), (.int .i64 0), (.int .i64 0), (.int .i64 0), (.int .i64 0), (.int .i64 0), (.int .i64 0), (.int .i64 0)]) 96 rfl Try.underlying46 info34 rfl (by decide) (by omega) (.slice A W.length c) W [⟨a0, a1, ⟨a2, a3, a4, a5, a6, a7⟩, ⟨a8, a9, a10⟩, a11⟩] _ _ _ (fun k => (F k ∨ w5.heap.size ≤ k) ∧ k ≠ g ∧ some k ≠ vo.ownBlock ∧ ∀ o ∈ O, k ≠ o.1.p) (fun _ => False) rfl rfl ?aO ?aR (fun _ _ h => h) (fun _ h => h.elim) ?aF ?aB ?aS ?aL ?_
 (case hw => rfl)
 (case aR => exact oneO_C (x := ⟨a0, a1, ⟨a2, a3, a4, a5, a6, a7⟩, ⟨a8, a9, a10⟩, a11⟩) BG.out)
 (case aB => exact Below.refl _ _)
 (case aF => exact HS5.out.fresh)
 (case aO => exact Kd.R_mono HS5.out.roww (fun k hk => ⟨.inl hk.1, hk.2⟩))
 (case aS => exact below_size HS5.out.bl)
 (case aL => have := HL.out; omega)
 intro v2 w6 ho hb6 hg6 hat
 have HG := Aside0.mk ((hg6.block g (blk_lt HS5.out.blk) (fun e => (HS5.out.roww.1 g e.symm).2.1 rfl)).trans HS5.out.blk)
 have d3 : w6.cell? ⟨g, 2, none⟩ = some (.slice A W.length c) := (blk_cell HG.out 2).trans rfl
 have df : w6.frozen? ⟨g, 2, none⟩ = false := blk_frozen HG.out 2
 obtain ⟨A8, m8, c8, rfl⟩ := RO_some ho
 have HP := Aside0.mk (HS5.out.push ho hg6 hat)
 have HX := Aside0.mk ((SX.of_below F (Wr g (.slice A W.length c) vo O) BW5.out).trans (HS5.out.pushX hg6 hat))
 clear ho hb6 hg6 hat
 refine hK.out _ _ ?_
 clear hK K
 refine norm_ (a' := ?_) ?_ ?_
 rotate_left
 ·show Act.put _ (some 26) _ = _
  simp only [Act.put, List.setIfInBounds_toArray, List.set_cons_zero, List.set_cons_succ, i64_w, i32_w]
  rfl
 refine pure_ (i := 8) (N := some 27) (v := ?_) (a' := ?_) #[true, true, true, true, true, true, true, true, true, false, false] rfl rfl (any_of HT_.out (by kernel_rfl)) (fun _ _ _ h => h) (Or.inl ⟨by rfl, ?_⟩) ?_ ?_
 rotate_left
 ·intro w'
  go_simp
  with_reducible rfl
 rotate_left
 ·simp only [Act.put, List.setIfInBounds_toArray, List.set_cons_zero, List.set_cons_succ, i64_w, i32_w]
  rfl
 refine pure_ (i := 9) (N := some 28) (v := ?_) (a' := ?_) #[true, true, true, true, true, true, true, true, true, true, false] rfl rfl (any_of HT_.out (by kernel_rfl)) (fun _ _ _ h => h) (Or.inl ⟨by rfl, ?_⟩) ?_ ?_
 rotate_left
 ·intro w'
  go_simp
  with_reducible rfl
 rotate_left
 ·simp only [Act.put, List.setIfInBounds_toArray, List.set_cons_zero, List.set_cons_succ, i64_w, i32_w]
  rfl
 refine last_ (i := 10) (N := none) #[true, true, true, true, true, true, true, true, true, true, true] rfl rfl (one_of HT_.out (by kernel_rfl)) (by decide) (fun K hK => ?_)
 refine skip_ (w1 := ?_) (by rfl) rfl ?_ ?_
 rotate_left
 ·go_simp
  rfl
 refine hK.out _ _ ?_
 clear hK K
 refine done_ (done_of HT_.out (by kernel_rfl)) ?_
 go_wp2
 go_ret
 exact ⟨rfl, _, _, HP.out, HX.out⟩
theorem spush_bad {w0 w : World} {F : Nat → Prop} {g : Nat} {wn tr nx : Int} {W : List S34} {O : List (It × Int)} {vw vo : Value} (h : Sd w0 w F g wn tr W O nx vw vo) (K : Nat) (a0 : Int) (a1 : Int) (a2 : Bool) (a3 : Int) (a4 : Int) (a5 : Int) (a6 : Int) (a7 : Int) (a8 : Int) (a9 : Int) (a10 : Int) (a11 : Int) (r : Int) (hr : r ≠ 0) (hk : object_Check.f K a0 a1 a2 a3 a4 a5 a6 a7 a8 a9 a10 a11 = some r) :
  Calls Try.prog 11 #[.pointer (some ⟨g, 0, none⟩), .agg #[.int .i64 a0, .int .i64 a1, .bool a2, .int .i64 a3, .int .i64 a4, .int .i64 a5, .int .i64 a6, .int .i64 a7, .int .i64 a8, .int .i64 a9, .int .i64 a10, .int .i64 a11]] w fun e w' => e = .returned (.int .i64 1) ∧ Sd w0 w' F g wn tr W O nx vw vo ∧ Below w.heap.size w w' := by
 obtain ⟨A, c, rfl, hlc, hC⟩ := Kd.R_reads h.roww
 have HS := Aside0.mk h
 have HK := Aside0.mk hk
 have q4 : (r != 0) = true := bne_iff_ne.mpr hr
 clear h hk hlc hC hr
 go_enter Try.func11, Try.ntmps11
 go_wp2_with (first
  | ((with_reducible refine gate_dst (N := 3) rfl ?_); refine box_event ?hg (N := 3) ?hd (cs := #[.int .i64 a0, .int .i64 a1, .bool a2, .int .i64 a3, .int .i64 a4, .int .i64 a5, .int .i64 a6, .int .i64 a7, .int .i64 a8, .int .i64 a9, .int .i64 a10, .int .i64 a11]) (t := 34) ?hr ?_; (case hd => rfl); (case hg => rfl); (case hr => first | (go_simp; done) | (go_simp; rfl) | rfl | kernel_rfl); intro gb hgb w1 hbox hb; have BX := Aside0.mk hbox; have HS1 := Aside0.mk (HS.out.below hb); have BW1 := Aside0.mk hb; have o0 := (blk_cell BX.out 0).trans rfl; have o1 := (blk_cell BX.out 1).trans rfl; have o2 := (blk_cell BX.out 2).trans rfl; have o3 := (blk_cell BX.out 3).trans rfl; have o4 := (blk_cell BX.out 4).trans rfl; have o5 := (blk_cell BX.out 5).trans rfl; have o6 := (blk_cell BX.out 6).trans rfl; have o7 := (blk_cell BX.out 7).trans rfl; have o8 := (blk_cell BX.out 8).trans rfl; have o9 := (blk_cell BX.out 9).trans rfl; have o10 := (blk_cell BX.out 10).trans rfl; have o11 := (blk_cell BX.out 11).trans rfl; clear hb hbox hgb)
  | (go_at_call 26; (with_reducible refine (object_Check.calls K a0 a1 a2 a3 a4 a5 a6 a7 a8 a9 a10 a11 _ _ HK.out).mono ?_); rintro x_ w2 ⟨rfl, hb⟩; have HS2 := Aside0.mk (HS1.out.below hb); have BW2 := Aside0.mk (below_step BW1.out hb); have BY := Aside0.mk (blk_below BX.out hb); have hx : w2.cell? ⟨g, 2, none⟩ = some (.slice A W.length c) := (blk_cell HS2.out.blk 2).trans rfl; have p0 := (blk_cell BY.out 0).trans rfl; have p1 := (blk_cell BY.out 1).trans rfl; have p2 := (blk_cell BY.out 2).trans rfl; have p3 := (blk_cell BY.out 3).trans rfl; have p4 := (blk_cell BY.out 4).trans rfl; have p5 := (blk_cell BY.out 5).trans rfl; have p6 := (blk_cell BY.out 6).trans rfl; have p7 := (blk_cell BY.out 7).trans rfl; have p8 := (blk_cell BY.out 8).trans rfl; have p9 := (blk_cell BY.out 9).trans rfl; have p10 := (blk_cell BY.out 10).trans rfl; have p11 := (blk_cell BY.out 11).trans rfl; clear hb))
 go_ret
 exact ⟨rfl, HS2.out, BW2.out⟩
theorem spush_full {w0 w : World} {F : Nat → Prop} {g : Nat} {wn tr nx : Int} {W : List S34} {O : List (It × Int)} {vw vo : Value} (h : Sd w0 w F g wn tr W O nx vw vo) (hl : ¬ W.length < 1024) (K : Nat) (a0 : Int) (a1 : Int) (a2 : Bool) (a3 : Int) (a4 : Int) (a5 : Int) (a6 : Int) (a7 : Int) (a8 : Int) (a9 : Int) (a10 : Int) (a11 : Int) (hk : object_Check.f K a0 a1 a2 a3 a4 a5 a6 a7 a8 a9 a10 a11 = some 0) :
  Calls Try.prog 11 #[.pointer (some ⟨g, 0, none⟩), .agg #[.int .i64 a0, .int .i64 a1, .bool a2, .int .i64 a3, .int .i64 a4, .int .i64 a5, .int .i64 a6, .int .i64 a7, .int .i64 a8, .int .i64 a9, .int .i64 a10, .int .i64 a11]] w fun e w' => e = .returned (.int .i64 8) ∧ Sd w0 w' F g wn tr W O nx vw vo ∧ Below w.heap.size w w' := by
 obtain ⟨A, c, rfl, hlc, hC⟩ := Kd.R_reads h.roww
 have HS := Aside0.mk h
 have HK := Aside0.mk hk
 have q4 : decide ((W.length : Int) ≥ 1024) = true := decide_eq_true (by omega)
 clear h hk hl hlc hC
 go_enter Try.func11, Try.ntmps11
 go_wp2_with (first
  | ((with_reducible refine gate_dst (N := 3) rfl ?_); refine box_event ?hg (N := 3) ?hd (cs := #[.int .i64 a0, .int .i64 a1, .bool a2, .int .i64 a3, .int .i64 a4, .int .i64 a5, .int .i64 a6, .int .i64 a7, .int .i64 a8, .int .i64 a9, .int .i64 a10, .int .i64 a11]) (t := 34) ?hr ?_; (case hd => rfl); (case hg => rfl); (case hr => first | (go_simp; done) | (go_simp; rfl) | rfl | kernel_rfl); intro gb hgb w1 hbox hb; have BX := Aside0.mk hbox; have HS1 := Aside0.mk (HS.out.below hb); have BW1 := Aside0.mk hb; have o0 := (blk_cell BX.out 0).trans rfl; have o1 := (blk_cell BX.out 1).trans rfl; have o2 := (blk_cell BX.out 2).trans rfl; have o3 := (blk_cell BX.out 3).trans rfl; have o4 := (blk_cell BX.out 4).trans rfl; have o5 := (blk_cell BX.out 5).trans rfl; have o6 := (blk_cell BX.out 6).trans rfl; have o7 := (blk_cell BX.out 7).trans rfl; have o8 := (blk_cell BX.out 8).trans rfl; have o9 := (blk_cell BX.out 9).trans rfl; have o10 := (blk_cell BX.out 10).trans rfl; have o11 := (blk_cell BX.out 11).trans rfl; clear hb hbox hgb)
  | (go_at_call 26; (with_reducible refine (object_Check.calls K a0 a1 a2 a3 a4 a5 a6 a7 a8 a9 a10 a11 _ _ HK.out).mono ?_); rintro x_ w2 ⟨rfl, hb⟩; have HS2 := Aside0.mk (HS1.out.below hb); have BW2 := Aside0.mk (below_step BW1.out hb); have BY := Aside0.mk (blk_below BX.out hb); have hx : w2.cell? ⟨g, 2, none⟩ = some (.slice A W.length c) := (blk_cell HS2.out.blk 2).trans rfl; have p0 := (blk_cell BY.out 0).trans rfl; have p1 := (blk_cell BY.out 1).trans rfl; have p2 := (blk_cell BY.out 2).trans rfl; have p3 := (blk_cell BY.out 3).trans rfl; have p4 := (blk_cell BY.out 4).trans rfl; have p5 := (blk_cell BY.out 5).trans rfl; have p6 := (blk_cell BY.out 6).trans rfl; have p7 := (blk_cell BY.out 7).trans rfl; have p8 := (blk_cell BY.out 8).trans rfl; have p9 := (blk_cell BY.out 9).trans rfl; have p10 := (blk_cell BY.out 10).trans rfl; have p11 := (blk_cell BY.out 11).trans rfl; clear hb))
 go_ret
 exact ⟨rfl, HS2.out, BW2.out⟩
theorem at_ItM {w : World} {base n c : Nat} {ok : Nat → Prop} {A : Option Addr} {xs : List It} (h : kIt.R 73 w base ok (.slice A n c) xs) (i : Int) (h0 : 0 ≤ i) (h1 : i < n) : ∃ ad A1 c1, A = some ad ∧ w.cell? (ad.add (i.toNat * 3)) = some (.int .i64 (rd_It xs i).b.f0) ∧ w.cell? ⟨(ad.add (i.toNat * 3)).block, (ad.add (i.toNat * 3)).off + 1, none⟩ = some (.slice A1 (rd_It xs i).b.f1.length c1) ∧ w.cell? ⟨(ad.add (i.toNat * 3)).block, (ad.add (i.toNat * 3)).off + 2, none⟩ = some (.pointer (some ⟨(rd_It xs i).p, 0, none⟩)) ∧ k34.R 34 w base (fun k => ok k ∧ some k ≠ (Value.slice A n c).ownBlock) (.slice A1 (rd_It xs i).b.f1.length c1) (rd_It xs i).b.f1 := by
 obtain ⟨hn, _, hC⟩ := Kd.R_reads' h
 obtain ⟨ad, A1, c1, e, x0, x1, x2, _, _⟩ := at_It (n := n) (by rw [hn]; exact hC) i h0 h1
 obtain ⟨gq, cap, ev, _, _⟩ := Kd.R_form h (by omega)
 injection ev with ea en ec
 subst ea
 have hR := h
 obtain ⟨cs, _, hM, hcs, _⟩ := Kd.R_elem h zIt i h0 h1
 obtain ⟨v1, rfl, hv⟩ := kIt_openM hM
 cases e
 have h2 : w.cell? ⟨gq, i.toNat * 3 + 1, none⟩ = some v1 := hcs 1 v1 rfl
 have e1 : (⟨gq, 0, none⟩ : Addr).add (i.toNat * 3) = ⟨gq, i.toNat * 3, none⟩ := add_plain gq (i.toNat * 3)
 rw [e1] at x1
 have := Option.some.inj (h2.symm.trans x1)
 subst this
 refine ⟨_, A1, c1, rfl, x0, by rw [e1]; exact x1, x2, Kd.R_mono hv (fun k hk => ⟨hk.1, fun e => hk.2 ?_⟩)⟩
 simpa [Value.ownBlock] using e
theorem at_BM {w : World} {base n c : Nat} {ok : Nat → Prop} {A : Option Addr} {xs : List S48} (h : k48.R 48 w base ok (.slice A n c) xs) (i : Int) (h0 : 0 ≤ i) (h1 : i < n) : ∃ ad A1 c1, A = some ad ∧ w.cell? (ad.add (i.toNat * 2)) = some (.int .i64 (rd_T48 xs i).f0) ∧ w.cell? ⟨(ad.add (i.toNat * 2)).block, (ad.add (i.toNat * 2)).off + 1, none⟩ = some (.slice A1 (rd_T48 xs i).f1.length c1) ∧ k34.R 34 w base (fun k => ok k ∧ some k ≠ (Value.slice A n c).ownBlock) (.slice A1 (rd_T48 xs i).f1.length c1) (rd_T48 xs i).f1 := by
 obtain ⟨hn, _, hC⟩ := Kd.R_reads' h
 obtain ⟨ad, A1, c1, e, x0, x1, _, _⟩ := at_T48 (n := n) (by rw [hn]; exact hC) i h0 h1
 obtain ⟨gq, cap, ev, _, _⟩ := Kd.R_form h (by omega)
 injection ev with ea en ec
 subst ea
 obtain ⟨cs, _, hM, hcs, _⟩ := Kd.R_elem h z48 i h0 h1
 obtain ⟨v1, rfl, hv⟩ := k48_openM hM
 cases e
 have h2 : w.cell? ⟨gq, i.toNat * 2 + 1, none⟩ = some v1 := hcs 1 v1 rfl
 have e1 : (⟨gq, 0, none⟩ : Addr).add (i.toNat * 2) = ⟨gq, i.toNat * 2, none⟩ := add_plain gq (i.toNat * 2)
 rw [e1] at x1
 have := Option.some.inj (h2.symm.trans x1)
 subst this
 refine ⟨_, A1, c1, rfl, x0, by rw [e1]; exact x1, Kd.R_mono hv (fun k hk => ⟨hk.1, fun e => hk.2 ?_⟩)⟩
 simpa [Value.ownBlock] using e
theorem oneB_M {w : World} {base h : Nat} {ok : Nat → Prop} {x : S48} {v1 : Value} (hv : w.heap[h]? = some (.cells #[.int .i64 x.f0, v1] 48 (0, 0))) (hr : k34.R 34 w base ok v1 x.f1) : ReadsRow (k48.M w base ok) k48.sz w (some ⟨h, 0, none⟩) 1 [x] := by
 refine ⟨rfl, by omega, fun _ => ⟨_, rfl, fun j p hp => ?_⟩⟩
 have hj : j = 0 := by have := (List.getElem?_eq_some_iff.1 hp).1; simpa using this
 subst hj
 obtain rfl : x = p := by simpa using hp
 refine ⟨[.int .i64 x.f0, v1], rfl, k48_mkM w base ok x hr, fun i u hu => ?_⟩
 rw [show 0 * k48.sz + i = i by omega, add_plain]
 exact (blk_cell hv i).trans (by simpa using hu)
structure OuS (w0 w wr : World) (ok : Nat → Prop) (X : List S48) (v : Value) : Prop where
 bl : Below w.heap.size w wr
 b0 : Below w0.heap.size w0 wr
 row : k48.R 48 wr w0.heap.size (fun k => w.heap.size ≤ k ∨ ok k) v X
 own : ∀ k, v.ownBlock = some k → w.heap.size ≤ k
theorem OuS.sz {w0 w wr : World} {ok : Nat → Prop} {X : List S48} {v : Value} (h : OuS w0 w wr ok X v) : w.heap.size ≤ wr.heap.size := h.bl.size
theorem OuS.below {w0 w wr w' : World} {ok : Nat → Prop} {X : List S48} {v : Value} (h : OuS w0 w wr ok X v) (hb : Below wr.heap.size wr w') : OuS w0 w w' ok X v := ⟨below_step h.bl hb, below_step h.b0 hb, Kd.R_below h.row hb, h.own⟩
theorem OuS.appended {w0 w wr w' : World} {ok : Nat → Prop} {X X2 : List S48} {v v2 : Value} (h : OuS w0 w wr ok X v) (hw : w0.heap.size ≤ w.heap.size) (hr : k48.R 48 w' w0.heap.size (fun k => w.heap.size ≤ k ∨ ok k) v2 X2) (hb : Below w0.heap.size w0 w') (hg : wr.grownBy w' v.ownBlock) (hat : v2.ownBlock = v.ownBlock ∨ ∃ b, v2.ownBlock = some b ∧ wr.heap.size ≤ b) : OuS w0 w w' ok X2 v2 := by
 refine ⟨pw_below_grown h.bl v.ownBlock h.sz hg (fun k hk => h.own k hk), hb, hr, fun k hk => ?_⟩
 rcases hat with e | ⟨b, e, hbl⟩
 ·exact h.own k (e ▸ hk)
 ·have := Option.some.inj (e.symm.trans hk)
  have := h.sz
  omega
theorem cell_below' {w w1 : World} {a : Addr} {v : Value} (hb : Below w.heap.size w w1) (h : w.cell? a = some v) : w1.cell? a = some v := (hb.cell (World.block_lt_of_cell? _ _ h)).trans h
theorem it_rd {xs : List It} (i : Nat) (h : i < xs.length) : rd_It xs (i : Int) = xs[i] := by
 unfold rd_It
 rw [Int.toNat_natCast, List.getD_eq_getElem?_getD, List.getElem?_eq_getElem h]
 rfl
theorem sout_s {w0 w : World} {F : Nat → Prop} {g : Nat} {wn tr nx : Int} {W : List S34} {O : List (It × Int)} {vw vo : Value} (h : Sd w0 w F g wn tr W O nx vw vo) (hl : O.length ≤ 1000000) :
  Calls Try.prog 15 #[.pointer (some ⟨g, 0, none⟩)] w fun e w' => ∃ v, e = .returned v ∧ OuS w0 w w' (fun k => F k ∧ ¬ Wr g vw vo O k) ((O.map Prod.fst).map It.b) v := by
 obtain ⟨xs, hxs⟩ : ∃ xs, xs = O.map Prod.fst := ⟨_, rfl⟩
 obtain ⟨ok, hok⟩ : ∃ ok, ok = (fun k => F k ∧ ¬ Wr g vw vo O k) := ⟨_, rfl⟩
 obtain ⟨A, c, rfl, hlc, _⟩ := Kd.R_reads h.rowo
 have hrow := h.rowo
 rw [← hxs] at hrow
 rw [← hok, ← hxs]
 obtain ⟨n, hn⟩ : ∃ n, n = xs.length := ⟨_, rfl⟩
 have hx : w.cell? ⟨g, 3, none⟩ = some (.slice A n c) := by rw [hn, hxs]; exact (blk_cell h.blk 3).trans rfl
 have HR := Aside0.mk (Kd.R_mono hrow (ok' := fun k => F k ∧ k ≠ g ∧ some k ≠ vw.ownBlock ∧ ∀ o ∈ O, k ≠ o.1.p) (fun _ h => h))
 have HL := Aside0.mk (show xs.length ≤ 1000000 by rw [hxs, List.length_map]; exact hl)
 have HOK := Aside0.mk (show ∀ k, ok k → k < w.heap.size from fun k hk => by rw [hok] at hk; exact h.lt k hk.1)
 have HW0 := Aside0.mk (below_size h.bl)
 have HOW := Aside0.mk (show ∀ k, (F k ∧ k ≠ g ∧ some k ≠ vw.ownBlock ∧ ∀ o ∈ O, k ≠ o.1.p) ∧ some k ≠ (Value.slice A (O.map Prod.fst).length c).ownBlock → ok k from fun k hk => by
  rw [hok]
  refine ⟨hk.1.1, ?_⟩
  rintro (e | e | e | ⟨o, ho, e⟩)
  ·exact hk.1.2.1 e
  ·exact hk.1.2.2.1 e
  ·exact hk.2 e
  ·exact hk.1.2.2.2 o ho e)
 have S0 := Aside0.mk (show OuS w0 w w ok ((xs.take 0).map It.b) (.slice none 0 0) from ⟨Below.refl _ _, h.bl, Kd.R_nil _ _ _ _ _, fun k hk => by simp [Value.ownBlock] at hk⟩)
 have HN := Aside0.mk hn
 rw [← hxs, ← hn] at HOW
 rw [← hn] at HR
 clear h hl hrow hxs hok hn hlc
 go_enter Try.func15, Try.ntmps15
 go_wp2
 go_loopg [3, 13] n (fun kq v3' v13 wr => ∃ (x : Int) (v3 : Value), v13 = .int .i64 x ∧ v3 = v3' ∧ Aside0 (0 ≤ x) ∧ Aside0 (x + kq = n) ∧ Aside0 (OuS w0 w wr ok ((xs.take x.toNat).map It.b) v3))
 case atStart => exact ⟨0, _, rfl, rfl, ⟨by omega⟩, ⟨by omega⟩, S0⟩
 case round =>
  clear S0
  obtain ⟨x, v3, rfl, rfl, H0, HI, SS⟩ := hrel
  cases gk with
  | zero =>
   have hnl : decide (x < (n : Int)) = false := decide_eq_false (by have := HI.out; omega)
   go_wp2
   go_ret
   have hq : xs.take x.toNat = xs := List.take_of_length_le (by have := HI.out; have := HN.out; omega)
   rw [hq] at SS
   exact ⟨_, rfl, SS.out⟩
  | succ k1 =>
   have hlt := (show x < (n : Int) by have := HI.out; omega)
   have h0 := H0.out
   have hd : decide (x < (n : Int)) = true := decide_eq_true hlt
   have hb0 : x < 9223372036854775807 := by have := HL.out; have := HN.out; omega
   have hw : wrap64 (x + 1) = x + 1 := w64 (by omega) (by omega)
   have hxl : x.toNat < xs.length := by have := HN.out; omega
   have hrx : rd_It xs x = xs[x.toNat] := by rw [← it_rd x.toNat hxl]; congr 1; omega
   obtain ⟨ad, A1, c1, e_, y0, y1, y2, hi1⟩ := at_ItM HR.out x h0 hlt
   cases e_
   have HI1 := Aside0.mk (Kd.R_mono hi1 (fun k hk => HOW.out k hk))
   have hx0 := cell_below' SS.out.bl y0
   have hx1 := cell_below' SS.out.bl y1
   have hx2 := cell_below' SS.out.bl y2
   have HKE := Aside0.mk (show (xs.take x.toNat).map It.b ++ [(rd_It xs x).b] = (xs.take (x.toNat + 1)).map It.b by rw [hrx, List.take_succ_eq_append_getElem hxl, List.map_append]; rfl)
   have h0t := eq_true h0
   have hltt := eq_true hlt
   clear hrx y0 y1 y2 hi1 hxl
   go_wp2_with (first
    | ((with_reducible refine gate_dst (N := 5) rfl ?_); refine box_event ?hg (N := 5) ?hd (cs := #[.int .i64 0, .slice none 0 0, .pointer none]) (t := 73) ?hr ?_; (case hd => rfl); (case hg => rfl); (case hr => first | (go_simp; done) | (go_simp; rfl)); intro gt hg w3 hbox hb; have S3 := Aside0.mk (SS.out.below (show Below wr.heap.size wr (((w3.setCell ⟨gt, 0, none⟩ (.int .i64 (rd_It xs x).b.f0)).setCell ⟨gt, 1, none⟩ (.slice A1 (rd_It xs x).b.f1.length c1)).setCell ⟨gt, 2, none⟩ (.pointer (some ⟨(rd_It xs x).p, 0, none⟩))) from below_set (below_set (below_set hb (Nat.le_of_eq hg.symm)) (Nat.le_of_eq hg.symm)) (Nat.le_of_eq hg.symm))); have BT := Aside0.mk (blk_put (blk_put (blk_put hbox 0 (.int .i64 (rd_It xs x).b.f0) (cs' := #[.int .i64 (rd_It xs x).b.f0, .slice none 0 0, .pointer none]) rfl) 1 (.slice A1 (rd_It xs x).b.f1.length c1) (cs' := #[.int .i64 (rd_It xs x).b.f0, .slice A1 (rd_It xs x).b.f1.length c1, .pointer none]) rfl) 2 (.pointer (some ⟨(rd_It xs x).p, 0, none⟩)) (cs' := #[.int .i64 (rd_It xs x).b.f0, .slice A1 (rd_It xs x).b.f1.length c1, .pointer (some ⟨(rd_It xs x).p, 0, none⟩)]) rfl); have a0 := (blk_cell hbox 0).trans rfl; have a1 := (blk_cell hbox 1).trans rfl; have a2 := (blk_cell hbox 2).trans rfl; have af0 := blk_frozen hbox 0; have af1 := blk_frozen hbox 1; have af2 := blk_frozen hbox 2; have b0 := (blk_cell BT.out 0).trans rfl; have b1 := (blk_cell BT.out 1).trans rfl; clear hb hbox hg)
    | ((with_reducible refine gate_dst (N := 20) rfl ?_); refine lit1_event ?hg (N := 20) ?hd (cs := #[.int .i64 (rd_It xs x).b.f0, .slice A1 (rd_It xs x).b.f1.length c1]) (t := 48) (n := 1) ?hr ?_; (case hd => rfl); (case hg => rfl); (case hr => first | (go_simp; done) | (go_simp; rfl)); intro gl hg w5 hbox hb; have S5 := Aside0.mk (S3.out.below hb); have BL := Aside0.mk hbox; clear hb hbox hg)
    | ((with_reducible refine gate_builtin (b := .append) (xs := #[.tmp 17, .tmp 20]) rfl ?_); at_builtin; refine Kd.R_append_rows k48 (w0 := w0) w0.heap.size rfl (.tmp 17) (.tmp 20) 28 48 (.agg #[(.int .i64 0), (.slice none 0 0)]) 32 rfl Try.underlying28 info48 rfl (by decide) (by omega) v3 ((xs.take x.toNat).map It.b) [(rd_It xs x).b] _ _ _ (fun k => w.heap.size ≤ k ∨ ok k) ok rfl rfl ?aO ?aR (fun _ _ h => h) ?aP ?aF ?aB ?aS ?aL ?_; (case aR => exact oneB_M BL.out (Kd.R_below HI1.out S5.out.bl)); (case aB => exact S5.out.b0); (case aF => exact (fun k hk => .inl (Nat.le_trans S5.out.sz hk))); (case aP => exact (fun k hk => ⟨.inr hk, fun e => by have := S5.out.own k e.symm; have := HOK.out k hk; omega⟩)); (case aO => exact S5.out.row); (case aS => exact below_size S5.out.b0); (case aL => have := HL.out; rw [List.length_map, List.length_take]; omega); intro v2 w6 ho hb hg hat; rw [HKE.out] at ho; have SE := Aside0.mk (S5.out.appended HW0.out ho hb hg hat); clear ho hb hg hat))
   go_roundg k1
   case measure => have := HI.out; omega
   case rel => exact ⟨x + 1, _, by first | rfl | simp [hw], rfl, ⟨by omega⟩, ⟨by have := HI.out; omega⟩, ⟨by rw [show (x + 1).toNat = x.toNat + 1 by omega]; exact SE.out⟩⟩
section
variable {w0 w w' : World} {F F1 : Nat → Prop} {g : Nat} {wn tr nx : Int} {W : List S34} {O : List (It × Int)} {vw vo : Value}
theorem Sd.more (h : Sd w0 w F g wn tr W O nx vw vo) (hF : ∀ k, F k → F1 k) (hlt : ∀ k, F1 k → k < w.heap.size) : Sd w0 w F1 g wn tr W O nx vw vo :=
 ⟨h.bl, h.blk, h.new, hlt, hF g h.fg, Kd.R_mono h.roww (fun k hk => ⟨hF k hk.1, hk.2⟩), Kd.R_mono h.rowo (fun k hk => ⟨hF k hk.1, hk.2⟩), fun o ho => ⟨hF _ (h.cnt o ho).1, (h.cnt o ho).2⟩, h.apart⟩
theorem Sd.grown (h : Sd w0 w F g wn tr W O nx vw vo) {row : Option Nat} (hg : w.grownBy w' row) (hr : ∀ k, row = some k → w0.heap.size ≤ k ∧ ¬ F k) : Sd w0 w' F g wn tr W O nx vw vo :=
 h.keep (fun k hk => hg.block k (h.lt k hk) (fun e => (hr k e.symm).2 hk)) hg.size (pw_below_grown h.bl row (below_size h.bl) hg (fun k hk => (hr k hk).1))
theorem SX.more (w : World) {F F1 : Nat → Prop} (R : Nat → Prop) (h : ∀ k, F1 k → F k ∨ w.heap.size ≤ k) : SX w F R w F1 R := ⟨Nat.le_refl _, fun _ _ _ => rfl, h, fun _ h => .inl h⟩
theorem set_size (w : World) (a : Addr) (v : Value) : w.heap.size ≤ (w.setCell a v).heap.size := ((Below.refl 0 w).setCell (Nat.zero_le a.block) v).size
theorem Sd.setN (h : Sd w0 w F g wn tr W O nx vw vo) (n2 : Int) : Sd w0 (w.setCell ⟨g, 4, none⟩ (.int .i64 n2)) F g wn tr W O n2 vw vo :=
 ⟨h.bl.setCell h.new _, blk_put h.blk 4 _ rfl, h.new, fun k hk => Nat.lt_of_lt_of_le (h.lt k hk) (set_size _ _ _), h.fg, Kd.R_far (p := ⟨g, 4, none⟩) h.roww (fun k hk e => hk.2.1 e) _, Kd.R_far (p := ⟨g, 4, none⟩) h.rowo (fun k hk e => hk.2.1 e) _, fun o ho => ⟨(h.cnt o ho).1, (h.cnt o ho).2.1, (h.cnt o ho).2.2.1, (Below.heap_setCell w ⟨g, 4, none⟩ _ _ (h.cnt o ho).2.1).trans (h.cnt o ho).2.2.2⟩, h.apart⟩
theorem SX.set (w : World) (F R : Nat → Prop) {g : Nat} (i : Nat) (v : Value) (hR : R g) : SX w F R (w.setCell ⟨g, i, none⟩ v) F R := ⟨set_size _ _ _, fun k _ hk => Below.heap_setCell w ⟨g, i, none⟩ v k (fun e => hk (e ▸ hR)), fun _ h => .inl h, fun _ h => .inl h⟩
theorem SX.grown {w w' : World} (F R : Nat → Prop) {row : Option Nat} (hg : w.grownBy w' row) (hr : ∀ k, row = some k → w.heap.size ≤ k ∨ R k) : SX w F R w' F R := ⟨hg.size, fun k hk hR => hg.block k hk (fun e => by
 rcases hr k e.symm with e2 | e2
 ·omega
 ·exact hR e2), fun _ h => .inl h, fun _ h => .inl h⟩
theorem Sd.setW (h : Sd w0 w F g wn tr W O nx vw vo) {N : Nat → Prop} {v2 : Value} {W2 : List S34} (hN : ∀ k, N k → ¬ F k ∧ k < w.heap.size) (hr : k34.R 34 w w0.heap.size N v2 W2) :
  Sd w0 (w.setCell ⟨g, 2, none⟩ v2) (fun k => F k ∨ N k) g wn tr W2 O nx v2 vo := by
 refine ⟨h.bl.setCell h.new _, blk_put h.blk 2 v2 rfl, h.new, fun k hk => ?_, .inl h.fg, ?_, ?_, fun o ho => ?_, h.apart⟩
 ·rcases hk with hk | hk
  ·exact Nat.lt_of_lt_of_le (h.lt k hk) (set_size _ _ _)
  ·exact Nat.lt_of_lt_of_le (hN k hk).2 (set_size _ _ _)
 ·refine Kd.R_mono (Kd.R_far (p := ⟨g, 2, none⟩) hr (fun k hk e => (hN k hk).1 (by have : k = g := e; subst this; exact h.fg)) _) (fun k hk => ⟨.inr hk, fun e => (hN k hk).1 (e ▸ h.fg), fun e => (hN k hk).1 (h.rowo.1 k e.symm).1, fun o ho e => (hN k hk).1 (e ▸ (h.cnt o ho).1)⟩)
 ·exact Kd.R_mono (Kd.R_far (p := ⟨g, 2, none⟩) h.rowo (fun k hk e => hk.2.1 e) _) (fun k hk => ⟨.inl hk.1, hk.2.1, fun e => (hN k (hr.1 k e.symm)).1 hk.1, hk.2.2.2⟩)
 ·exact ⟨.inl (h.cnt o ho).1, (h.cnt o ho).2.1, (h.cnt o ho).2.2.1, (Below.heap_setCell w ⟨g, 2, none⟩ _ _ (h.cnt o ho).2.1).trans (h.cnt o ho).2.2.2⟩
theorem Sd.put (h : Sd w0 w F g wn tr W O nx vw vo) {v2 : Value} {x : It} {n : Int} (hp : w.heap[x.p]? = some (.cells #[.int .i32 n] 71 (0, 0))) (hpF : ¬ F x.p) (hp0 : w0.heap.size ≤ x.p)
  (hr : kIt.R 73 w' w0.heap.size (fun k => (F k ∨ w.heap.size ≤ k) ∧ k ≠ g ∧ some k ≠ vw.ownBlock ∧ ∀ o ∈ O, k ≠ o.1.p) v2 (O.map Prod.fst ++ [x])) (hg : w.grownBy w' vo.ownBlock) (hat : v2.ownBlock = vo.ownBlock ∨ ∃ b, v2.ownBlock = some b ∧ w.heap.size ≤ b) :
  Sd w0 (w'.setCell ⟨g, 3, none⟩ v2) (fun k => (F k ∨ k = x.p ∨ w.heap.size ≤ k) ∧ k < w'.heap.size) g wn tr W (O ++ [(x, n)]) nx vw v2 := by
 have hw0 := below_size h.bl
 have hbase : ∀ k, vo.ownBlock = some k → w0.heap.size ≤ k := fun k hk => Kd.R_base h.rowo k hk
 have hgl := blk_lt h.blk
 have hgw : some g ≠ vo.ownBlock := fun e => (h.rowo.1 g e.symm).2.1 rfl
 have hx := (hg.block g hgl hgw).trans h.blk
 have hpl := blk_lt hp
 have hpg : x.p ≠ g := fun e => hpF (e ▸ h.fg)
 have hpo : some x.p ≠ vo.ownBlock := fun e => hpF (h.rowo.1 _ e.symm).1
 have hsz : w'.heap.size ≤ (w'.setCell ⟨g, 3, none⟩ v2).heap.size := set_size _ _ _
 refine ⟨(pw_below_grown h.bl _ hw0 hg hbase).setCell h.new _, blk_put hx 3 v2 rfl, h.new, fun k hk => Nat.lt_of_lt_of_le hk.2 hsz, ⟨.inl h.fg, blk_lt hx⟩, ?_, ?_, fun o ho => ?_, ?_⟩
 ·have hb := Kd.R_bound h.roww
  refine Kd.R_mono (Kd.R_far (p := ⟨g, 3, none⟩) (Kd.R_grown (Kd.R_mono hb (ok' := fun k => (F k ∧ k ≠ g ∧ some k ≠ vo.ownBlock ∧ ∀ o ∈ O, k ≠ o.1.p) ∧ k < w.heap.size) (fun k hk => ⟨hk.1, hk.2.2.1⟩)) hg (fun k hk => hk.1.2.2.1)) (fun k hk e => hk.1.2.1 e) v2) (fun k hk => ⟨⟨.inl hk.1.1, Nat.lt_of_lt_of_le hk.2 hg.size⟩, hk.1.2.1, fun e => ?_, fun o ho => ?_⟩)
  ·rcases hat with e2 | ⟨b, e2, hbl⟩
   ·exact hk.1.2.2.1 (e.trans e2)
   ·have := Option.some.inj (e.trans e2)
    have := hk.2
    omega
  ·rcases List.mem_append.1 ho with ho | ho
   ·exact hk.1.2.2.2 o ho
   ·rw [List.mem_singleton.1 ho]
    exact fun e => hpF (e ▸ hk.1.1)
 ·rw [List.map_append, List.map_singleton]
  refine Kd.R_mono (Kd.R_far (p := ⟨g, 3, none⟩) (Kd.R_bound hr) (fun k hk e => hk.1.2.1 e) v2) (fun k hk => ⟨⟨?_, hk.2.2.1⟩, hk.1.2.1, hk.1.2.2.1, fun o ho => ?_⟩)
  ·rcases hk.1.1 with e | e
   ·exact .inl e
   ·exact .inr (.inr e)
  ·rcases List.mem_append.1 ho with ho | ho
   ·exact hk.1.2.2.2 o ho
   ·rw [List.mem_singleton.1 ho]
    rintro rfl
    rcases hk.1.1 with e | e
    ·exact hpF e
    ·have e2 : w.heap.size ≤ x.p := e
     omega
 ·rcases List.mem_append.1 ho with ho | ho
  ·obtain ⟨a, b, c, d⟩ := h.cnt o ho
   have hne : some o.1.p ≠ vo.ownBlock := fun e => (h.rowo.1 _ e.symm).2.2.2 o ho rfl
   have hd := (hg.block _ (blk_lt d) hne).trans d
   exact ⟨⟨.inl a, blk_lt hd⟩, b, c, (Below.heap_setCell w' ⟨g, 3, none⟩ v2 o.1.p b).trans hd⟩
  ·rw [List.mem_singleton.1 ho]
   have hd := (hg.block _ hpl hpo).trans hp
   exact ⟨⟨.inr (.inl rfl), blk_lt hd⟩, hpg, hp0, (Below.heap_setCell w' ⟨g, 3, none⟩ v2 x.p hpg).trans hd⟩
 ·refine List.pairwise_append.2 ⟨h.apart, List.pairwise_singleton _ _, fun a ha b hb e => ?_⟩
  rw [List.mem_singleton.1 hb] at e
  exact hpF (e ▸ (h.cnt a ha).1)
theorem Sd.putX (h : Sd w0 w F g wn tr W O nx vw vo) {v2 : Value} {x : It} {n : Int} {m : Nat} (hm : m ≤ x.p) (hmw : m ≤ w.heap.size) (hg : w.grownBy w' vo.ownBlock) (hat : v2.ownBlock = vo.ownBlock ∨ ∃ b, v2.ownBlock = some b ∧ w.heap.size ≤ b) {wm : World} {Fm Rm : Nat → Prop} (hs : SX wm Fm Rm w F (Wr g vw vo O)) (he : m = wm.heap.size) :
  SX wm Fm Rm (w'.setCell ⟨g, 3, none⟩ v2) (fun k => (F k ∨ k = x.p ∨ w.heap.size ≤ k) ∧ k < w'.heap.size) (Wr g vw v2 (O ++ [(x, n)])) := by
 subst he
 refine ⟨Nat.le_trans hs.sz (Nat.le_trans hg.size (set_size _ _ _)), fun k hk hr => ?_, fun k hk => ?_, fun k hk => ?_⟩
 ·have hn : ¬ Wr g vw vo O k := fun e => by
   rcases hs.wr k e with e | e
   ·exact hr e
   ·omega
  exact ((Below.heap_setCell w' ⟨g, 3, none⟩ v2 k (fun e => hn (.inl e))).trans (hg.block k (Nat.lt_of_lt_of_le hk hs.sz) (fun e => hn (.inr (.inr (.inl e)))))).trans (hs.fr k hk hr)
 ·rcases hk.1 with e | e | e
  ·exact hs.fp k e
  ·exact .inr (by omega)
  ·exact .inr (by omega)
 ·rcases hk with e | e | e | ⟨o, ho, e⟩
  ·exact hs.wr k (.inl e)
  ·exact hs.wr k (.inr (.inl e))
  ·rcases hat with e2 | ⟨b, e2, hbl⟩
   ·exact hs.wr k (.inr (.inr (.inl (e.trans e2))))
   ·have := Option.some.inj (e.trans e2)
    exact .inr (by omega)
  ·rcases List.mem_append.1 ho with ho | ho
   ·exact hs.wr k (.inr (.inr (.inr ⟨o, ho, e⟩)))
   ·rw [List.mem_singleton.1 ho] at e
    exact .inr (by rw [e]; exact hm)
end
theorem oneIt_M {w : World} {base h : Nat} {ok : Nat → Prop} {x : It} {v1 : Value} (hv : w.heap[h]? = some (.cells #[.int .i64 x.b.f0, v1, .pointer (some ⟨x.p, 0, none⟩)] 73 (0, 0))) (hr : k34.R 34 w base ok v1 x.b.f1) : ReadsRow (kIt.M w base ok) kIt.sz w (some ⟨h, 0, none⟩) 1 [x] := by
 refine ⟨rfl, by omega, fun _ => ⟨_, rfl, fun j p hp => ?_⟩⟩
 have hj : j = 0 := by have := (List.getElem?_eq_some_iff.1 hp).1; simpa using this
 subst hj
 obtain rfl : x = p := by simpa using hp
 refine ⟨[.int .i64 x.b.f0, v1, .pointer (some ⟨x.p, 0, none⟩)], rfl, kIt_mkM w base ok x hr, fun i u hu => ?_⟩
 rw [show 0 * kIt.sz + i = i by omega, add_plain]
 exact (blk_cell hv i).trans (by simpa using hu)
theorem info73 : (Try.prog.info? 73).map (fun i => (i.zero, i.size, i.bytes)) = some (some (.agg #[(.int .i64 0), (.slice none 0 0), (.pointer none)]), 3, 40) := by kernel_rfl
structure SeX (w0 w w1 : World) (F : Nat → Prop) (g : Nat) (wn tr : Int) (W : List S34) (O : List (It × Int)) (vw vo : Value) (wr : World) (F' : Nat → Prop) (O2 : List (It × Int)) (nx2 : Int) (vo2 : Value) (X : List S48) (v6 : Value) : Prop where
 sd : Sd w0 wr F' g wn tr W O2 nx2 vw vo2
 sx : SX w1 (fun k => F k ∨ (w.heap.size ≤ k ∧ k < w1.heap.size)) (Wr g vw vo O) wr F' (Wr g vw vo2 O2)
 sub : ∀ k, (F k ∨ (w.heap.size ≤ k ∧ k < w1.heap.size)) → F' k
 out : k48.R 48 wr w0.heap.size (fun k => w.heap.size ≤ k) v6 X
 own : ∀ k, v6.ownBlock = some k → w1.heap.size ≤ k ∧ ¬ F' k
structure SeF (w0 w w1 : World) (R : Nat → Prop) : Prop where
 h0 : w0.heap.size ≤ w.heap.size
 h1 : w.heap.size ≤ w1.heap.size
 lt : ∀ k, R k → k < w.heap.size
section
variable {w0 w w1 wr w' wc : World} {F F' : Nat → Prop} {g : Nat} {wn tr nx2 : Int} {W W2 : List S34} {O O2 : List (It × Int)} {vw vo vo2 v6 v2 v3 va : Value} {B X X2 : List S48}
theorem SeX.all (hf : SeF w0 w w1 (Wr g vw vo O)) (h : SeX w0 w w1 F g wn tr W O vw vo wr F' O2 nx2 vo2 X v6) (ha : k48.R 48 w1 w0.heap.size (fun k => w.heap.size ≤ k ∧ k < w1.heap.size) va B) : k48.R 48 wr w0.heap.size (fun k => w.heap.size ≤ k ∧ k < w1.heap.size) va B :=
 Kd.R_step ha (fun k hk _ => h.sx.fr k hk.2 (fun hR => by have := hf.lt k hR; omega))
theorem SeX.notW (hf : SeF w0 w w1 (Wr g vw vo O)) (h : SeX w0 w w1 F g wn tr W O vw vo wr F' O2 nx2 vo2 X v6) : ∀ k, (w.heap.size ≤ k ∧ k < w1.heap.size) → F' k ∧ ¬ Wr g vw vo2 O2 k := fun k hk => ⟨h.sub k (.inr hk), fun hR => by
 rcases h.sx.wr k hR with e | e
 ·have := hf.lt k e; omega
 ·omega⟩
theorem SeX.below (h : SeX w0 w w1 F g wn tr W O vw vo wr F' O2 nx2 vo2 X v6) (hb : Below wr.heap.size wr w') : SeX w0 w w1 F g wn tr W O vw vo w' F' O2 nx2 vo2 X v6 :=
 ⟨h.sd.below hb, h.sx.below hb, h.sub, Kd.R_below h.out hb, h.own⟩
theorem SeX.drew (h : SeX w0 w w1 F g wn tr W O vw vo wr F' O2 nx2 vo2 X v6) : SeX w0 w w1 F g wn tr W O vw vo wr.drew F' O2 nx2 vo2 X v6 := h.below (below_drew (Below.refl _ _))
theorem SeX.outp (hf : SeF w0 w w1 (Wr g vw vo O)) (h : SeX w0 w w1 F g wn tr W O vw vo wr F' O2 nx2 vo2 X v6) (hr : k48.R 48 w' w0.heap.size (fun k => w.heap.size ≤ k) v2 X2) (hg : wr.grownBy w' v6.ownBlock) (hat : v2.ownBlock = v6.ownBlock ∨ ∃ b, v2.ownBlock = some b ∧ wr.heap.size ≤ b) :
  SeX w0 w w1 F g wn tr W O vw vo w' F' O2 nx2 vo2 X2 v2 := by
 have h01 := hf.h0
 have h12 := hf.h1
 refine ⟨h.sd.grown hg (fun k hk => ⟨by have := (h.own k hk).1; omega, (h.own k hk).2⟩), ⟨Nat.le_trans h.sx.sz hg.size, fun k hk hR => ?_, h.sx.fp, h.sx.wr⟩, h.sub, hr, fun k hk => ?_⟩
 ·exact (hg.block k (Nat.lt_of_lt_of_le hk h.sx.sz) (fun e => by have := (h.own k e.symm).1; omega)).trans (h.sx.fr k hk hR)
 ·rcases hat with e | ⟨b, e, hbl⟩
  ·exact h.own k (e ▸ hk)
  ·obtain rfl := Option.some.inj (e.symm.trans hk)
   exact ⟨Nat.le_trans h.sx.sz hbl, fun hF => by have := h.sd.lt _ hF; omega⟩
theorem SeX.setp (hf : SeF w0 w w1 (Wr g vw vo O)) (h : SeX w0 w w1 F g wn tr W O vw vo wr F' O2 nx2 vo2 X v6) {p : Nat} {cs : Array Value} (hp : wr.heap[p]? = some (.cells cs 71 (0, 0))) (hpF : ¬ F' p) (hp1 : w1.heap.size ≤ p) (j : Nat) (u : Value) :
  SeX w0 w w1 F g wn tr W O vw vo (wr.setCell ⟨p, j, none⟩ u) F' O2 nx2 vo2 X v6 := by
 have h01 := hf.h0
 have h12 := hf.h1
 refine ⟨h.sd.keep (fun k hk => Below.heap_setCell wr ⟨p, j, none⟩ u k (fun e => hpF (by have e2 : k = p := e; exact e2 ▸ hk))) (set_size _ _ _) (below_set h.sd.bl (by omega)), ⟨Nat.le_trans h.sx.sz (set_size _ _ _), fun k hk hR => ?_, h.sx.fp, h.sx.wr⟩, h.sub, Kd.R_set h.out hp (by decide) j u, h.own⟩
 exact (Below.heap_setCell wr ⟨p, j, none⟩ u k (fun e => by have e2 : k = p := e; omega)).trans (h.sx.fr k hk hR)
theorem SeX.put (hf : SeF w0 w w1 (Wr g vw vo O)) (h : SeX w0 w w1 F g wn tr W O vw vo wr F' O2 nx2 vo2 X v6) {x : It} {n : Int} (hp : wr.heap[x.p]? = some (.cells #[.int .i32 n] 71 (0, 0))) (hpF : ¬ F' x.p) (hp1 : w1.heap.size ≤ x.p)
  (hr : kIt.R 73 w' w0.heap.size (fun k => (F' k ∨ wr.heap.size ≤ k) ∧ k ≠ g ∧ some k ≠ vw.ownBlock ∧ ∀ o ∈ O2, k ≠ o.1.p) v2 (O2.map Prod.fst ++ [x])) (hg : wr.grownBy w' vo2.ownBlock) (hat : v2.ownBlock = vo2.ownBlock ∨ ∃ b, v2.ownBlock = some b ∧ wr.heap.size ≤ b) :
  SeX w0 w w1 F g wn tr W O vw vo (w'.setCell ⟨g, 3, none⟩ v2) (fun k => (F' k ∨ k = x.p ∨ wr.heap.size ≤ k) ∧ k < w'.heap.size) (O2 ++ [(x, n)]) nx2 v2 X v6 := by
 have h01 := hf.h0
 have h12 := hf.h1
 have hsz := h.sx.sz
 have hgl : some g ≠ vo2.ownBlock := fun e => (h.sd.rowo.1 g e.symm).2.1 rfl
 have hx := (hg.block g (blk_lt h.sd.blk) hgl).trans h.sd.blk
 refine ⟨h.sd.put hp hpF (by omega) hr hg hat, h.sd.putX (m := w1.heap.size) hp1 hsz hg hat h.sx rfl, fun k hk => ⟨.inl (h.sub k hk), Nat.lt_of_lt_of_le (h.sd.lt k (h.sub k hk)) hg.size⟩, Kd.R_set (Kd.R_over' h.out (Kd.R_typed h.sd.rowo) (by decide) hg) hx (by decide) 3 v2, fun k hk => ⟨(h.own k hk).1, fun hF => ?_⟩⟩
 have hkl := Kd.R_lt h.out k hk
 rcases hF.1 with e | e | e
 ·exact (h.own k hk).2 e
 ·obtain ⟨cells, hc⟩ := Kd.R_typed h.out k hk
  rw [e, hp] at hc
  simp at hc
 ·omega
theorem SeX.setN (h : SeX w0 w w1 F g wn tr W O vw vo wr F' O2 nx2 vo2 X v6) (n2 : Int) : SeX w0 w w1 F g wn tr W O vw vo (wr.setCell ⟨g, 4, none⟩ (.int .i64 n2)) F' O2 n2 vo2 X v6 :=
 ⟨h.sd.setN n2, h.sx.trans (SX.set wr F' _ 4 _ (.inl rfl)), h.sub, Kd.R_set h.out h.sd.blk (by decide) 4 _, h.own⟩
theorem SeX.fin (hf : SeF w0 w w1 (Wr g vw vo O)) (hF : ∀ k, F k → k < w.heap.size) (hw : ∀ k, vw.ownBlock = some k → F k) (h : SeX w0 w w1 F g wn tr W O vw vo wr F' O2 nx2 vo2 X v6) (hb : Below wr.heap.size wr wc) (hr : k34.R 34 wc wr.heap.size (fun _ => True) v3 W2) (h1 : Below w.heap.size w w1) :
  ∃ F'', Sd w0 (wc.setCell ⟨g, 2, none⟩ v3) F'' g wn tr W2 O2 nx2 v3 vo2 ∧ SX w F (Wr g vw vo O) (wc.setCell ⟨g, 2, none⟩ v3) F'' (Wr g v3 vo2 O2) ∧ k48.R 48 (wc.setCell ⟨g, 2, none⟩ v3) w0.heap.size (fun k => w.heap.size ≤ k ∧ ¬ Wr g v3 vo2 O2 k) v6 X ∧ ∀ k, v6.ownBlock = some k → w.heap.size ≤ k ∧ ¬ F'' k := by
 have h01 := hf.h0
 have h12 := hf.h1
 have hsz := h.sx.sz
 have hc := h.below hb
 have hN : ∀ k, (wr.heap.size ≤ k ∧ k < wc.heap.size) → ¬ F' k ∧ k < wc.heap.size := fun k hk => ⟨fun e => by have := h.sd.lt k e; omega, hk.2⟩
 have hr' : k34.R 34 wc w0.heap.size (fun k => wr.heap.size ≤ k ∧ k < wc.heap.size) v3 W2 := Kd.R_lower (Kd.R_mono (Kd.R_bound hr) (fun k hk => ⟨hk.2.1, hk.2.2.1⟩)) (below_size h.sd.bl)
 have h3 : ∀ k, v3.ownBlock = some k → wr.heap.size ≤ k := fun k hk => (hr'.1 k hk).1
 refine ⟨_, hc.sd.setW hN hr', ?_, ?_, fun k hk => ⟨by have := (h.own k hk).1; omega, fun e => ?_⟩⟩
 ·have s0 : SX w F (Wr g vw vo O) w1 (fun k => F k ∨ (w.heap.size ≤ k ∧ k < w1.heap.size)) (Wr g vw vo O) := ⟨h1.size, fun k hk _ => h1.block k hk, fun k hk => hk.imp id (fun e => e.1), fun k hk => .inl hk⟩
  refine s0.trans (h.sx.trans ⟨Nat.le_trans hb.size (set_size _ _ _), fun k hk hR => (Below.heap_setCell wc ⟨g, 2, none⟩ v3 k (fun e => hR (.inl e))).trans (hb.block k hk), fun k hk => hk.imp id (fun e => e.1), fun k hk => ?_⟩)
  rcases hk with e | e | e | e
  ·exact .inl (.inl e)
  ·exact .inr (h3 k e.symm)
  ·exact .inl (.inr (.inr (.inl e)))
  ·exact .inl (.inr (.inr (.inr e)))
 ·have hb0 : k48.R 48 wr w0.heap.size (fun k => w.heap.size ≤ k ∧ ¬ Wr g v3 vo2 O2 k) v6 X := by
   refine Kd.R_mono (Kd.R_bound h.out) (fun k hk => ⟨hk.1, ?_⟩)
   obtain ⟨_, _, hlt, q, hq, cells, hcell⟩ := hk
   have q1 : ∀ q ∈ 48 :: k48.E, q ≠ 63 := by decide
   have q2 : ∀ q ∈ 48 :: k48.E, q ≠ 73 := by decide
   have q3 : ∀ q ∈ 48 :: k48.E, q ≠ 71 := by decide
   rintro (e | e | e | ⟨o, ho, e⟩)
   ·rw [e, h.sd.blk] at hcell
    simp at hcell
    exact q1 q hq hcell.2.symm
   ·have := h3 k e.symm
    omega
   ·obtain ⟨c2, hc2⟩ := Kd.R_typed h.sd.rowo k e.symm
    rw [hc2] at hcell
    simp at hcell
    exact q2 q hq hcell.2.symm
   ·rw [e, (h.sd.cnt o ho).2.2.2] at hcell
    simp at hcell
    exact q3 q hq hcell.2.symm
  exact Kd.R_far (p := ⟨g, 2, none⟩) (Kd.R_below hb0 hb) (fun k hk e => hk.2 (.inl e)) _
 ·rcases e with e | e
  ·exact (h.own k hk).2 e
  ·have := Kd.R_lt h.out k hk
   omega
theorem SeX.inn (hf : SeF w0 w w1 (Wr g vw vo O)) (h : SeX w0 w w1 F g wn tr W O vw vo wr F' O2 nx2 vo2 X v6) {v : Value} {Y : List S34} (ha : k34.R 34 w1 w0.heap.size (fun k => w.heap.size ≤ k ∧ k < w1.heap.size) v Y) : k34.R 34 wr w0.heap.size (fun k => w.heap.size ≤ k ∧ k < w1.heap.size) v Y :=
 Kd.R_step ha (fun k hk _ => h.sx.fr k hk.2 (fun hR => by have := hf.lt k hR; omega))
theorem SeX.at {A : Option Addr} {n c : Nat} (hf : SeF w0 w w1 (Wr g vw vo O)) (h : SeX w0 w w1 F g wn tr W O vw vo wr F' O2 nx2 vo2 X v6) (ha : k48.R 48 w1 w0.heap.size (fun k => w.heap.size ≤ k ∧ k < w1.heap.size) (.slice A n c) B) (i : Int) (h0 : 0 ≤ i) (h1 : i < n) :
  ∃ ad A1 c1, A = some ad ∧ wr.cell? (ad.add (i.toNat * 2)) = some (.int .i64 (rd_T48 B i).f0) ∧ wr.cell? ⟨(ad.add (i.toNat * 2)).block, (ad.add (i.toNat * 2)).off + 1, none⟩ = some (.slice A1 (rd_T48 B i).f1.length c1) ∧ k34.R 34 w1 w0.heap.size (fun k => w.heap.size ≤ k ∧ k < w1.heap.size) (.slice A1 (rd_T48 B i).f1.length c1) (rd_T48 B i).f1 := by
 obtain ⟨ad, A1, c1, rfl, x0, x1, hi⟩ := at_BM ha i h0 h1
 have hn := (Kd.R_reads' ha).1
 obtain ⟨gq, cap, ev, _, _⟩ := Kd.R_form ha (by omega)
 injection ev with ea en ec
 cases ea
 have hP := ha.1 gq (by simp [Value.ownBlock])
 have hh : wr.heap[gq]? = w1.heap[gq]? := h.sx.fr gq hP.2 (fun hR => by have := hf.lt gq hR; omega)
 have e1 : (⟨gq, 0, none⟩ : Addr).add (i.toNat * 2) = ⟨gq, i.toNat * 2, none⟩ := add_plain gq (i.toNat * 2)
 rw [e1] at x0 x1
 exact ⟨_, A1, c1, rfl, by rw [e1]; exact (World.cell?_of_block hh).trans x0, by rw [e1]; exact (World.cell?_of_block hh).trans x1, Kd.R_mono hi (fun k hk => hk.1)⟩
theorem SeX.szw (hf : SeF w0 w w1 (Wr g vw vo O)) (h : SeX w0 w w1 F g wn tr W O vw vo wr F' O2 nx2 vo2 X v6) : w.heap.size ≤ wr.heap.size := Nat.le_trans hf.h1 h.sx.sz
end
theorem Sd.freshO {w0 w : World} {F : Nat → Prop} {g : Nat} {wn tr nx : Int} {W : List S34} {O : List (It × Int)} {vw vo : Value} (h : Sd w0 w F g wn tr W O nx vw vo) : ∀ k, w.heap.size ≤ k → (F k ∨ w.heap.size ≤ k) ∧ k ≠ g ∧ some k ≠ vw.ownBlock ∧ ∀ o ∈ O, k ≠ o.1.p := fun k hk =>
 ⟨.inr hk, fun e => by have := blk_lt h.blk; omega, fun e => by have := Kd.R_lt h.roww k e.symm; omega, fun o ho e => by have := blk_lt (h.cnt o ho).2.2.2; omega⟩
def wire_bytes.f (v n : Int) : Option (List Int) := if 0 ≤ v ∧ 1 ≤ n ∧ n ≤ 8 then some (be n.toNat v) else none
theorem store_any (g : Nat) (u : Value) (v : Int) (w : World) (hb : w.heap[g]? = some (.cells #[u] 120 (0, 0))) :
  Calls Try.prog 75 #[.pointer (some ⟨g, 0, none⟩), .int .u64 v] w fun e w' => e = .returned (.tuple #[]) ∧ w.setCell ⟨g, 0, none⟩ (.int .u64 v) = w' := by
 have hc : w.cell? ⟨g, 0, none⟩ = some u := by rw [blk_cell hb]; rfl
 have hz : w.frozen? ⟨g, 0, none⟩ = false := blk_frozen hb 0
 have hst := fun y => run_call_store (P := Try.prog) Try.func77 (by kernel_rfl) (by kernel_rfl) (by kernel_rfl) (by kernel_rfl) (k := .u64) (y := y) hc hz
 clear hb
 go_enter Try.func75, Try.ntmps75
 go_wp2
 go_end0
 exact ⟨rfl, rfl⟩
theorem low_any (g : Nat) (v : Int) (w : World) (h0 : 0 ≤ v) (hb : w.heap[g]? = some (.cells #[.int .u64 v] 120 (0, 0))) :
  Calls Try.prog 76 #[.pointer (some ⟨g, 0, none⟩)] w fun e w' => e = .returned (.int .u8 (v % 256)) ∧ w.setCell ⟨g, 0, none⟩ (.int .u64 (v / 256)) = w' := by
 have hc : w.cell? ⟨g, 0, none⟩ = some (.int .u64 v) := by rw [blk_cell hb]; rfl
 have hz : w.frozen? ⟨g, 0, none⟩ = false := blk_frozen hb 0
 have hld := run_call_load (P := Try.prog) Try.func79 (by kernel_rfl) (by kernel_rfl) (by kernel_rfl) .u64 (by kernel_rfl) hc
 have hst := fun y => run_call_store (P := Try.prog) Try.func77 (by kernel_rfl) (by kernel_rfl) (by kernel_rfl) (by kernel_rfl) (k := .u64) (y := y) hc hz
 clear hb
 go_enter Try.func76, Try.ntmps76
 go_wp2
 go_end0
 go_wp2
 go_ret
 exact ⟨rfl, rfl⟩
theorem wire_bytes.calls (a0 : Int) (a1 : Int) (r : List Int) (w : World) (h : wire_bytes.f a0 a1 = some r) :
  Calls Try.prog 73 #[.int .u64 a0, .int .i64 a1] w fun e w' => ∃ v0_ : Value, e = .returned (v0_) ∧ Kd.R (Kd.int .u8) 5 w' w.heap.size (fun _ => True) v0_ r ∧ Below w.heap.size w w' := by
 have hh : (0 ≤ a0 ∧ 1 ≤ a1 ∧ a1 ≤ 8) ∧ be a1.toNat a0 = r := by
  unfold wire_bytes.f at h
  split at h
  ·rename_i hc
   exact ⟨hc, Option.some.inj h⟩
  ·exact absurd h (by simp)
 clear h
 obtain ⟨⟨h0, h1, h2⟩, rfl⟩ := hh
 obtain ⟨n, rfl⟩ := Int.eq_ofNat_of_zero_le (show 0 ≤ a1 by omega)
 have hp : 0 < n := by omega
 have h2' : n ≤ 8 := by omega
 clear h1 h2
 simp only [Int.toNat_natCast]
 have H0 := Aside0.mk h0
 clear h0
 have hn0 : (0 : Int) ≤ (n : Int) := by omega
 have hn1 : (n : Int) ≤ 8 := by omega
 go_enter Try.func73, Try.ntmps73
 go_wp2_with (((with_reducible refine gate_dst (N := 9) rfl ?_); refine box_event ?hg (N := 9) ?hd (cs := #[.int .u64 0]) (t := 120) ?hr ?_; (case hd => rfl); (case hg => rfl); (case hr => first | (go_simp; done) | (go_simp; rfl)); intro gb hgb w1 hbox hb1; have HBX := Aside0.mk hbox; have HB := Aside0.mk (Below.trans (Below.refl w.heap.size w) hb1); have HG := Aside0.mk (show w.heap.size ≤ gb by rw [hgb]; exact Nat.le_refl _); clear hbox hb1 hgb))
 refine (store_any gb _ a0 _ HBX.out).mono ?_
 rintro e w2 ⟨rfl, hw2⟩
 have HBX2 := Aside0.mk (show w2.heap[gb]? = some (.cells #[.int .u64 a0] 120 (0, 0)) by rw [← hw2]; exact blk_put HBX.out 0 _ rfl)
 have HB2 := Aside0.mk (show Below w.heap.size w w2 by rw [← hw2]; exact below_set HB.out HG.out)
 clear hw2 HBX HB
 go_wp2_with (((with_reducible refine gate_dst (N := 16) rfl ?_); refine Kd.R_make (Kd.int .u8) _ 5 rfl (N := 16) rfl 107 _ _ rfl (n : Int) rfl rfl Try.underlying107 (.int .u8 0) 1 info5 rfl (by decide) (by omega) 0 (ok := fun k => k ≠ gb) (okp := fun _ => False) rfl (fun _ hk => hk.elim) (fun he => absurd (blk_lt HBX2.out) (by rw [← he]; exact Nat.lt_irrefl _)) (by omega) (by simp only [Int.toNat_natCast]; omega) (Below.refl _ _) (Nat.le_refl _) ?_; intro v3 w3 ho hb3 hg3 hnew; clear hnew; simp only [Int.toNat_natCast] at ho; obtain ⟨gs, cs, hv3, hgs, hls, hcs⟩ := Kd.R_form ho (by rw [List.length_replicate]; exact hp); rw [List.length_replicate] at hv3; clear hls hcs; rw [hv3] at ho ⊢; clear hv3; have HO := Aside0.mk (Kd.R_lower ho HB2.out.size); have HBX3 := Aside0.mk (blk_grown HBX2.out hg3 (by simp)); have HB3 := Aside0.mk (below_step HB2.out hb3); have HGS := Aside0.mk (Nat.le_trans HB2.out.size hgs); have HNE := Aside0.mk (show gs ≠ gb from ho.1 gs (by simp [Value.ownBlock])); clear ho hb3 hgs hg3 HBX2 HB2))
 go_loopg [19] n (fun kq v19 wr => ∃ (i : Nat), v19 = .int .i64 i ∧ Aside0 (i + kq = n) ∧ Aside0 (Kd.R (Kd.int .u8) 5 wr w.heap.size (fun k => k ≠ gb) (.slice (some ⟨gs, 0, none⟩) n cs) (List.replicate (n - i) 0 ++ be i a0)) ∧ Aside0 (wr.heap[gb]? = some (.cells #[.int .u64 (a0 / 256 ^ i)] 120 (0, 0))) ∧ Aside0 (Below w.heap.size w wr))
 case atStart => exact ⟨0, rfl, ⟨by omega⟩, ⟨by simpa [be] using HO.out⟩, ⟨by simpa using HBX3.out⟩, HB3⟩
 case round =>
  clear HO HBX3 HB3
  obtain ⟨i, rfl, HI, HO, HBX, HB⟩ := hrel
  cases gk with
  | zero =>
   have hi : i = n := by have := HI.out; omega
   subst hi
   go_wp2
   go_ret
   refine ⟨_, rfl, ?_, HB.out⟩
   have h := HO.out
   rw [Nat.sub_self, List.replicate_zero, List.nil_append] at h
   exact Kd.R_mono h (fun _ _ => trivial)
  | succ k1 =>
   have hlt : i < n := by have := HI.out; omega
   have hi0 : (0 : Int) ≤ (n : Int) - 1 - (i : Int) := by omega
   have hi1 : (n : Int) - 1 - (i : Int) < (n : Int) := by omega
   have hs1 : (0 : Int) ≤ (n : Int) - 1 := by omega
   have hb0 : (0 : Int) ≤ (i : Int) := by omega
   have HA0 := Aside0.mk (show 0 ≤ a0 / 256 ^ i from Int.ediv_nonneg H0.out (by exact Int.pow_nonneg (by decide)))
   go_wp2_with (go_at_call 76; (refine (low_any gb (a0 / 256 ^ i) _ HA0.out HBX.out).mono ?_); rintro e w4 ⟨rfl, hw4⟩; have HBX4 := Aside0.mk (show w4.heap[gb]? = some (.cells #[.int .u64 (a0 / 256 ^ i / 256)] 120 (0, 0)) by rw [← hw4]; exact blk_put HBX.out 0 _ rfl); have HB4 := Aside0.mk (show Below w.heap.size w w4 by rw [← hw4]; exact below_set HB.out HG.out); have HO4 := Aside0.mk (show Kd.R (Kd.int .u8) 5 w4 w.heap.size (fun k => k ≠ gb) (.slice (some ⟨gs, 0, none⟩) n cs) (List.replicate (n - i) 0 ++ be i a0) by rw [← hw4]; exact Kd.R_far HO.out (fun _ hk => hk) _); clear hw4; obtain ⟨hx4, hf4⟩ := Kd.R_celln 0 HO4.out ((n - 1 - i : Nat) : Int) (by omega) (by omega); simp only [Int.toNat_natCast] at hx4 hf4)
   go_roundg k1
   case measure => omega
   case rel =>
    have hp4 := (Kd.R_putg HO4.out ((n - 1 - i : Nat) : Int) (a0 / 256 ^ i % 256)).1
    simp only [Int.toNat_natCast] at hp4
    refine ⟨i + 1, by simp, ⟨by have := HI.out; omega⟩, ⟨?_⟩, ⟨?_⟩, ⟨below_set HB4.out HGS.out⟩⟩
    ·rw [show n - i = (n - 1 - i) + 1 by omega, be_set, show n - 1 - i = n - (i + 1) by omega] at hp4
     rw [be_cons, show n - 1 - i = n - (i + 1) by omega]
     exact hp4
    ·rw [Int.pow_succ, ← Int.ediv_ediv_of_nonneg (Int.pow_nonneg (by decide))]
     exact blk_far HBX4.out (fun e => HNE.out e.symm) _
end Go.Proofs.Ytclbempnhelmoaa.P
namespace Go.Proofs.Ytclbempnhelmoaa.P
open Go.RowKit YtclbempnhelmoaaW.PrintWords YtclbempnhelmoaaW.PrintLast YtclbempnhelmoaaW.PrintMore
open YtclbempnhelmoaaW.PrintWords renaming below_alloc → YA, pw_below_drewN → YB, below_drew1 → YC, below_step → YD, blk_cell → YE, blk_frozen → YF
open YtclbempnhelmoaaW.PrintWords.Aside0 renaming mk → YG
attribute [local go_sem] max2_int min2_int max_two min_two max_three min_three max_four min_four
def batch_wrong.f (k : Nat) (a0_0 : Int) (a0_1 : Int) (a0_2 : Bool) (a0_3 : Int) (a0_4 : Int) (a0_5 : Int) (a0_6 : Int) (a0_7 : Int) (a0_8 : Int) (a0_9 : Int) (a0_10 : Int) (a0_11 : Int) : Option (Bool) := (object_Check.f k a0_0 a0_1 a0_2 a0_3 a0_4 a0_5 a0_6 a0_7 a0_8 a0_9 a0_10 a0_11).bind fun t148 => (some (t148 != 0))
theorem batch_wrong.mono : ∀ a0 a1 a2 a3 a4 a5 a6 a7 a8 a9 a10 a11 k, LeO (batch_wrong.f k a0 a1 a2 a3 a4 a5 a6 a7 a8 a9 a10 a11) (batch_wrong.f (k + 1) a0 a1 a2 a3 a4 a5 a6 a7 a8 a9 a10 a11) := by
 intro a0 a1 a2 a3 a4 a5 a6 a7 a8 a9 a10 a11 k
 unfold batch_wrong.f
 repeat' first
   | (with_reducible exact object_Check.mono _ _ _ _ _ _ _ _ _ _ _ _ _)
   | (with_reducible exact LeO.refl _)
   | (with_reducible exact LeO.none _)
   | (with_reducible refine LeO.ite ?_ ?_)
   | (with_reducible refine LeO.bind ?_ (fun _ => ?_))
   | exact object_Check.mono _ _ _ _ _ _ _ _ _ _ _ _ _
   | exact LeO.none _
   | refine LeO.ite ?_ ?_
   | refine LeO.bind ?_ (fun _ => ?_)
theorem batch_wrong.calls (k : Nat) (a0_0 : Int) (a0_1 : Int) (a0_2 : Bool) (a0_3 : Int) (a0_4 : Int) (a0_5 : Int) (a0_6 : Int) (a0_7 : Int) (a0_8 : Int) (a0_9 : Int) (a0_10 : Int) (a0_11 : Int) (r : Bool) (w : World) (h : batch_wrong.f k a0_0 a0_1 a0_2 a0_3 a0_4 a0_5 a0_6 a0_7 a0_8 a0_9 a0_10 a0_11 = some r) :
  Calls Try.prog 51 #[.agg #[.int .i64 a0_0, .int .i64 a0_1, .bool a0_2, .int .i64 a0_3, .int .i64 a0_4, .int .i64 a0_5, .int .i64 a0_6, .int .i64 a0_7, .int .i64 a0_8, .int .i64 a0_9, .int .i64 a0_10, .int .i64 a0_11]] w fun e w' => e = .returned (.bool r) ∧ Below w.heap.size w w' := by
 have hu34 := Try.underlying34
 have HB := YG (Below.refl w.heap.size w)
 have H : ((object_Check.f k a0_0 a0_1 a0_2 a0_3 a0_4 a0_5 a0_6 a0_7 a0_8 a0_9 a0_10 a0_11).bind fun t148 => (some (t148 != 0))) = some r := h
 clear h; replace H := Option.bind_eq_some_iff.mp H; obtain ⟨t148, A20, H⟩ := H
 replace H : (some (t148 != 0)) = some r := H
 have A2 := YG A20; clear A20
 obtain rfl := Option.some.inj H
 go_enter Try.func51, Try.ntmps51
 go_wp2_with (first | ((with_reducible refine gate_dst (N := 1) rfl ?_); refine box_event ?hg (N := 1) ?hd (cs := #[.int .i64 a0_0, .int .i64 a0_1, .bool a0_2, .int .i64 a0_3, .int .i64 a0_4, .int .i64 a0_5, .int .i64 a0_6, .int .i64 a0_7, .int .i64 a0_8, .int .i64 a0_9, .int .i64 a0_10, .int .i64 a0_11]) (t := 34) ?hr ?_; (case hd => rfl); (case hg => rfl); (case hr => first | (go_simp; done) | (go_simp; rfl)); intro gb147 hg w3 hbox hb; have n0_ := YG (YD (by repeat (first | (with_reducible first | exact HB.out | apply YA | apply YB | apply YC) | exact HB.out)) hb); have n1_ := YG (hbox); have n2_ := YG ((by rw [hg]; exact (below_size (by repeat (first | (with_reducible first | exact HB.out | apply YA | apply YB | apply YC) | exact HB.out))) : w.heap.size ≤ gb147)); have n3_ := YG ((by rw [hg]; exact (below_size (by repeat (first | (with_reducible first | exact HB.out | apply YA | apply YB | apply YC) | exact HB.out))) : w.heap.size ≤ gb147)); clear HB; have HB := n0_; have BK147 := n1_; have GW147 := n2_; have GE147 := n3_; clear n0_ n1_ n2_ n3_; clear hb hbox hg; have q4_0 : w3.cell? ⟨gb147, 0, none⟩ = some (.int .i64 a0_0) := (YE BK147.out 0).trans rfl; have q4_1 : w3.cell? ⟨gb147, 1, none⟩ = some (.int .i64 a0_1) := (YE BK147.out 1).trans rfl; have q4_2 : w3.cell? ⟨gb147, 2, none⟩ = some (.bool a0_2) := (YE BK147.out 2).trans rfl; have q4_3 : w3.cell? ⟨gb147, 3, none⟩ = some (.int .i64 a0_3) := (YE BK147.out 3).trans rfl; have q4_4 : w3.cell? ⟨gb147, 4, none⟩ = some (.int .i64 a0_4) := (YE BK147.out 4).trans rfl; have q4_5 : w3.cell? ⟨gb147, 5, none⟩ = some (.int .i64 a0_5) := (YE BK147.out 5).trans rfl; have q4_6 : w3.cell? ⟨gb147, 6, none⟩ = some (.int .i64 a0_6) := (YE BK147.out 6).trans rfl; have q4_7 : w3.cell? ⟨gb147, 7, none⟩ = some (.int .i64 a0_7) := (YE BK147.out 7).trans rfl; have q4_8 : w3.cell? ⟨gb147, 8, none⟩ = some (.int .i64 a0_8) := (YE BK147.out 8).trans rfl; have q4_9 : w3.cell? ⟨gb147, 9, none⟩ = some (.int .i64 a0_9) := (YE BK147.out 9).trans rfl; have q4_10 : w3.cell? ⟨gb147, 10, none⟩ = some (.int .i64 a0_10) := (YE BK147.out 10).trans rfl; have q4_11 : w3.cell? ⟨gb147, 11, none⟩ = some (.int .i64 a0_11) := (YE BK147.out 11).trans rfl; have f4_0 := YF BK147.out 0; have f4_1 := YF BK147.out 1; have f4_2 := YF BK147.out 2; have f4_3 := YF BK147.out 3; have f4_4 := YF BK147.out 4; have f4_5 := YF BK147.out 5; have f4_6 := YF BK147.out 6; have f4_7 := YF BK147.out 7; have f4_8 := YF BK147.out 8; have f4_9 := YF BK147.out 9; have f4_10 := YF BK147.out 10; have f4_11 := YF BK147.out 11) | ((with_reducible refine gate_callee (f := 26) rfl ?_); refine goesL_ (some 4) rfl rfl Try.func26 (by kernel_rfl) rfl #[.agg #[.int .i64 a0_0, .int .i64 a0_1, .bool a0_2, .int .i64 a0_3, .int .i64 a0_4, .int .i64 a0_5, .int .i64 a0_6, .int .i64 a0_7, .int .i64 a0_8, .int .i64 a0_9, .int .i64 a0_10, .int .i64 a0_11]] rfl (by (try simp only [List.map_toArray, List.map_cons, List.map_nil]); first | done | rfl | (simp only [List.length_drop, List.length_take]; rfl)) ?_; (with_reducible refine (object_Check.calls k a0_0 a0_1 a0_2 a0_3 a0_4 a0_5 a0_6 a0_7 a0_8 a0_9 a0_10 a0_11 t148 _ A2.out).mono ?_); rintro e w5 ⟨rfl, hb⟩; refine ⟨_, rfl, ?_⟩; have n0_ := YG (blk_below (g := gb147) (o := .cells #[.int .i64 a0_0, .int .i64 a0_1, .bool a0_2, .int .i64 a0_3, .int .i64 a0_4, .int .i64 a0_5, .int .i64 a0_6, .int .i64 a0_7, .int .i64 a0_8, .int .i64 a0_9, .int .i64 a0_10, .int .i64 a0_11] 34 (0, 0)) (by (with_reducible repeat (first | refine blk_drewN ?_ _ | refine blk_drew ?_ | refine blk_alloc ?_ _)); exact BK147.out) hb); have n1_ := YG (YD (by repeat (first | (with_reducible first | exact HB.out | apply YA | apply YB | apply YC | refine below_set ?_ GE147.out) | exact HB.out)) hb); clear BK147; clear HB; have BK147 := n0_; have HB := n1_; clear n0_ n1_; (try clear hb); (try clear hb2); (try clear hk); (try clear hi)))
 go_ret
 exact ⟨by first | rfl | (simp [errW_none, errW_some] <;> rfl) | (simp [*, errW_none, errW_some] <;> rfl), by repeat (first | (with_reducible first | exact HB.out | apply YA | apply YB | apply YC | refine below_set ?_ GE147.out) | exact HB.out)⟩
def api_Object_66.l0 : Nat → List (S34) → Int → Int → Option (Int)
 | 0, _, _, _ => none
 | k + 1, x0, x7, x8 => if x8 < x7 then (if 0 ≤ x8 then (if x8 < (x0.length : Int) then ((batch_wrong.f k ((rd_T34 x0 x8).f0) ((rd_T34 x0 x8).f1) ((rd_T34 x0 x8).f2.f0) ((rd_T34 x0 x8).f2.f1) ((rd_T34 x0 x8).f2.f2) ((rd_T34 x0 x8).f2.f3) ((rd_T34 x0 x8).f2.f4) ((rd_T34 x0 x8).f2.f5) ((rd_T34 x0 x8).f3.f0) ((rd_T34 x0 x8).f3.f1) ((rd_T34 x0 x8).f3.f2) ((rd_T34 x0 x8).f4)).bind fun t150 => (if t150 = true then (some x8) else (api_Object_66.l0 k x0 x7 (wrap64 (x8 + 1))))) else (none)) else (none)) else (some (-1))
def api_Object_66.f (k : Nat) (l0 : List (S34))  : Option (Int) := api_Object_66.l0 k l0 (l0.length : Int) 0
theorem api_Object_66.mono_l : ∀ k, (∀ y0 y1 y2, LeO (api_Object_66.l0 k y0 y1 y2) (api_Object_66.l0 (k + 1) y0 y1 y2))
 | 0 => fun _ _ _ r h => by simp [api_Object_66.l0] at h
 | k + 1 => by
  have ih0 := api_Object_66.mono_l k
  ·intro y0 y1 y2
   unfold api_Object_66.l0
   repeat' first
   | (with_reducible exact ih0 _ _ _)
   | (with_reducible exact batch_wrong.mono _ _ _ _ _ _ _ _ _ _ _ _ _)
   | (with_reducible exact LeO.refl _)
   | (with_reducible exact LeO.none _)
   | (with_reducible refine LeO.ite ?_ ?_)
   | (with_reducible refine LeO.bind ?_ (fun _ => ?_))
   | exact ih0 _ _ _
   | exact batch_wrong.mono _ _ _ _ _ _ _ _ _ _ _ _ _
   | exact LeO.none _
   | refine LeO.ite ?_ ?_
   | refine LeO.bind ?_ (fun _ => ?_)
theorem api_Object_66.mono : ∀ a0 k, LeO (api_Object_66.f k a0) (api_Object_66.f (k + 1) a0) := by
 intro a0 k
 have ih0 := api_Object_66.mono_l k
 unfold api_Object_66.f
 repeat' first
   | (with_reducible exact ih0 _ _ _)
   | (with_reducible exact batch_wrong.mono _ _ _ _ _ _ _ _ _ _ _ _ _)
   | (with_reducible exact LeO.refl _)
   | (with_reducible exact LeO.none _)
   | (with_reducible refine LeO.ite ?_ ?_)
   | (with_reducible refine LeO.bind ?_ (fun _ => ?_))
   | exact ih0 _ _ _
   | exact batch_wrong.mono _ _ _ _ _ _ _ _ _ _ _ _ _
   | exact LeO.none _
   | refine LeO.ite ?_ ?_
   | refine LeO.bind ?_ (fun _ => ?_)
theorem api_Object_66.calls (k : Nat) (A0 : Option Addr) (c0 : Nat) (l0 : List (S34))  (r : Int) (w : World) (hr0 : Kd.C k34 w A0 l0.length l0) (hc0 : l0.length ≤ c0) (h : api_Object_66.f k l0 = some r) :
  Calls Try.prog 66 #[.slice A0 l0.length c0, .func (Fn.func 51) #[] #[]] w fun e w' => e = .returned (.int .i64 r) ∧ Below w.heap.size w w' := by
 have hu34 := Try.underlying34
 have HR0 := YG hr0; have HC0 := YG hc0; clear hr0 hc0
 have HB := YG (Below.refl w.heap.size w)
 have H : (api_Object_66.l0 k l0 (l0.length : Int) 0) = some r := h
 clear h
 have H' := YG H
 clear H
 go_enter Try.func66, Try.ntmps66
 go_wp2
 go_loopg [8] k (fun kq v8 w' => ∃ (x8_1 : Int), v8 = .int .i64 x8_1 ∧ Aside0 (api_Object_66.l0 kq l0 (l0.length : Int) x8_1 = some r) ∧ Aside0 (kq ≤ k) ∧ Aside0 (Below w.heap.size w w'))
 case atStart => exact ⟨(0), (by first | rfl | (simp; done) | (simp [*]; done)), H', ⟨Nat.le_refl _⟩, ⟨by repeat (first | (with_reducible first | exact HB.out | apply YA | apply YB | apply YC) | exact HB.out)⟩⟩
 case round =>
  clear H'
  try clear p2
  obtain ⟨x8_1, rfl, HA, HK1, HB⟩ := hrel
  cases gk with
  | zero => exact absurd HA.out (by simp [api_Object_66.l0])
  | succ k1 =>
   have H := HA.out
   clear HA
   simp only [api_Object_66.l0] at H
   by_cases c3 : x8_1 < (l0.length : Int)
   ·rw [if_pos c3] at H
    have c3b0 : decide (x8_1 < (l0.length : Int)) = true := decide_eq_true c3
    clear c3
    by_cases c4 : 0 ≤ x8_1
    rotate_left
    ·rw [if_neg c4] at H
     exact absurd H (by simp)
    rw [if_pos c4] at H; have c4b0 : decide (0 ≤ x8_1) = true := decide_eq_true c4; clear c4
    by_cases c5 : x8_1 < (l0.length : Int)
    rotate_left
    ·rw [if_neg c5] at H
     exact absurd H (by simp)
    rw [if_pos c5] at H
    have c5b0 : decide (x8_1 < (l0.length : Int)) = true := decide_eq_true c5
    clear c5; replace H := Option.bind_eq_some_iff.mp H; obtain ⟨t150, A60, H⟩ := H
    replace H : (if t150 = true then (some x8_1) else (api_Object_66.l0 k1 l0 (l0.length : Int) (wrap64 (x8_1 + 1)))) = some r := H
    have A6 := YG A60; clear A60
    by_cases c7 : t150 = true
    ·subst c7
     have H1 : (some x8_1) = some r := by rw [if_pos rfl] at H; exact H
     clear H
     have H := H1
     clear H1
     obtain rfl := Option.some.inj H
     have p149 : 0 ≤ (x8_1 : Int) := of_decide_eq_true (by first | (with_reducible assumption) | assumption)
     have q149 : x8_1 < (l0.length : Int) := of_decide_eq_true (by first | (with_reducible assumption) | assumption)
     obtain ⟨ad149, e149, hx149_0, hx149_1, hx149_2, hx149_3, hx149_4, hx149_5, hx149_6, hx149_7, hx149_8, hx149_9, hx149_10, hx149_11⟩ := at_T34 HR0.out x8_1 p149 q149
     cases e149
     replace hx149_0 := (HB.out.cell (World.block_lt_of_cell? w _ hx149_0)).trans hx149_0
     replace hx149_1 := (HB.out.cell (World.block_lt_of_cell? w _ hx149_1)).trans hx149_1
     replace hx149_2 := (HB.out.cell (World.block_lt_of_cell? w _ hx149_2)).trans hx149_2
     replace hx149_3 := (HB.out.cell (World.block_lt_of_cell? w _ hx149_3)).trans hx149_3
     replace hx149_4 := (HB.out.cell (World.block_lt_of_cell? w _ hx149_4)).trans hx149_4
     replace hx149_5 := (HB.out.cell (World.block_lt_of_cell? w _ hx149_5)).trans hx149_5
     replace hx149_6 := (HB.out.cell (World.block_lt_of_cell? w _ hx149_6)).trans hx149_6
     replace hx149_7 := (HB.out.cell (World.block_lt_of_cell? w _ hx149_7)).trans hx149_7
     replace hx149_8 := (HB.out.cell (World.block_lt_of_cell? w _ hx149_8)).trans hx149_8
     replace hx149_9 := (HB.out.cell (World.block_lt_of_cell? w _ hx149_9)).trans hx149_9
     replace hx149_10 := (HB.out.cell (World.block_lt_of_cell? w _ hx149_10)).trans hx149_10
     replace hx149_11 := (HB.out.cell (World.block_lt_of_cell? w _ hx149_11)).trans hx149_11
     replace p149 := eq_true p149
     replace q149 := eq_true q149
     go_wp2_with (first | (go_at_call 51; (with_reducible refine (batch_wrong.calls k1 ((rd_T34 l0 x8_1).f0) ((rd_T34 l0 x8_1).f1) ((rd_T34 l0 x8_1).f2.f0) ((rd_T34 l0 x8_1).f2.f1) ((rd_T34 l0 x8_1).f2.f2) ((rd_T34 l0 x8_1).f2.f3) ((rd_T34 l0 x8_1).f2.f4) ((rd_T34 l0 x8_1).f2.f5) ((rd_T34 l0 x8_1).f3.f0) ((rd_T34 l0 x8_1).f3.f1) ((rd_T34 l0 x8_1).f3.f2) ((rd_T34 l0 x8_1).f4) true _ A6.out).mono ?_); rintro e w8 ⟨rfl, hb⟩; have n0_ := YG (YD (by repeat (first | (with_reducible first | exact HB.out | apply YA | apply YB | apply YC) | exact HB.out)) hb); clear HB; have HB := n0_; clear n0_; (try clear hb); (try clear hb2); (try clear hk); (try clear hi)))
     go_ret
     exact ⟨by first | rfl | (simp [errW_none, errW_some] <;> rfl) | (simp [*, errW_none, errW_some] <;> rfl), by repeat (first | (with_reducible first | exact HB.out | apply YA | apply YB | apply YC) | exact HB.out)⟩
    replace c7 := Bool.eq_false_iff.mpr c7
    subst c7
    have H1 : (api_Object_66.l0 k1 l0 (l0.length : Int) (wrap64 (x8_1 + 1))) = some r := by rw [if_neg (show ¬ (false = true) by decide)] at H; exact H
    clear H
    have H := H1
    clear H1
    have H' := YG H
    clear H
    have p149 : 0 ≤ (x8_1 : Int) := of_decide_eq_true (by first | (with_reducible assumption) | assumption)
    have q149 : x8_1 < (l0.length : Int) := of_decide_eq_true (by first | (with_reducible assumption) | assumption)
    obtain ⟨ad149, e149, hx149_0, hx149_1, hx149_2, hx149_3, hx149_4, hx149_5, hx149_6, hx149_7, hx149_8, hx149_9, hx149_10, hx149_11⟩ := at_T34 HR0.out x8_1 p149 q149
    cases e149
    replace hx149_0 := (HB.out.cell (World.block_lt_of_cell? w _ hx149_0)).trans hx149_0
    replace hx149_1 := (HB.out.cell (World.block_lt_of_cell? w _ hx149_1)).trans hx149_1
    replace hx149_2 := (HB.out.cell (World.block_lt_of_cell? w _ hx149_2)).trans hx149_2
    replace hx149_3 := (HB.out.cell (World.block_lt_of_cell? w _ hx149_3)).trans hx149_3
    replace hx149_4 := (HB.out.cell (World.block_lt_of_cell? w _ hx149_4)).trans hx149_4
    replace hx149_5 := (HB.out.cell (World.block_lt_of_cell? w _ hx149_5)).trans hx149_5
    replace hx149_6 := (HB.out.cell (World.block_lt_of_cell? w _ hx149_6)).trans hx149_6
    replace hx149_7 := (HB.out.cell (World.block_lt_of_cell? w _ hx149_7)).trans hx149_7
    replace hx149_8 := (HB.out.cell (World.block_lt_of_cell? w _ hx149_8)).trans hx149_8
    replace hx149_9 := (HB.out.cell (World.block_lt_of_cell? w _ hx149_9)).trans hx149_9
    replace hx149_10 := (HB.out.cell (World.block_lt_of_cell? w _ hx149_10)).trans hx149_10
    replace hx149_11 := (HB.out.cell (World.block_lt_of_cell? w _ hx149_11)).trans hx149_11
    replace p149 := eq_true p149
    replace q149 := eq_true q149
    go_wp2_with (first | (go_at_call 51; (with_reducible refine (batch_wrong.calls k1 ((rd_T34 l0 x8_1).f0) ((rd_T34 l0 x8_1).f1) ((rd_T34 l0 x8_1).f2.f0) ((rd_T34 l0 x8_1).f2.f1) ((rd_T34 l0 x8_1).f2.f2) ((rd_T34 l0 x8_1).f2.f3) ((rd_T34 l0 x8_1).f2.f4) ((rd_T34 l0 x8_1).f2.f5) ((rd_T34 l0 x8_1).f3.f0) ((rd_T34 l0 x8_1).f3.f1) ((rd_T34 l0 x8_1).f3.f2) ((rd_T34 l0 x8_1).f4) false _ A6.out).mono ?_); rintro e w9 ⟨rfl, hb⟩; have n0_ := YG (YD (by repeat (first | (with_reducible first | exact HB.out | apply YA | apply YB | apply YC) | exact HB.out)) hb); clear HB; have HB := n0_; clear n0_; (try clear hb); (try clear hb2); (try clear hk); (try clear hi)))
    go_roundg k1
    case measure => have := HK1.out; omega
    case rel => exact ⟨(wrap64 (x8_1 + 1)), (by first | rfl | (simp; done) | (simp [*]; done)), H', ⟨by have := HK1.out; omega⟩, ⟨by repeat (first | (with_reducible first | exact HB.out | apply YA | apply YB | apply YC) | exact HB.out)⟩⟩
   rw [if_neg c3] at H
   have c3b0 : decide (x8_1 < (l0.length : Int)) = false := decide_eq_false c3
   clear c3
   obtain rfl := Option.some.inj H
   go_wp2
   go_ret
   exact ⟨by first | rfl | (simp [errW_none, errW_some] <;> rfl) | (simp [*, errW_none, errW_some] <;> rfl), by repeat (first | (with_reducible first | exact HB.out | apply YA | apply YB | apply YC) | exact HB.out)⟩
def api_Object_50.f (k : Nat) (l0 : List (S34))  : Option (Bool) := (api_Object_66.f k l0).bind fun t151 => (some (decide (t151 ≥ 0)))
theorem api_Object_50.mono : ∀ a0 k, LeO (api_Object_50.f k a0) (api_Object_50.f (k + 1) a0) := by
 intro a0 k
 unfold api_Object_50.f
 repeat' first
   | (with_reducible exact api_Object_66.mono _ _)
   | (with_reducible exact LeO.refl _)
   | (with_reducible exact LeO.none _)
   | (with_reducible refine LeO.ite ?_ ?_)
   | (with_reducible refine LeO.bind ?_ (fun _ => ?_))
   | exact api_Object_66.mono _ _
   | exact LeO.none _
   | refine LeO.ite ?_ ?_
   | refine LeO.bind ?_ (fun _ => ?_)
theorem api_Object_50.calls (k : Nat) (A0 : Option Addr) (c0 : Nat) (l0 : List (S34))  (r : Bool) (w : World) (hr0 : Kd.C k34 w A0 l0.length l0) (hc0 : l0.length ≤ c0) (h : api_Object_50.f k l0 = some r) :
  Calls Try.prog 50 #[.slice A0 l0.length c0, .func (Fn.func 51) #[] #[]] w fun e w' => e = .returned (.bool r) ∧ Below w.heap.size w w' := by
 have HR0 := YG hr0; have HC0 := YG hc0; clear hr0 hc0
 have HB := YG (Below.refl w.heap.size w)
 have H : ((api_Object_66.f k l0).bind fun t151 => (some (decide (t151 ≥ 0)))) = some r := h
 clear h; replace H := Option.bind_eq_some_iff.mp H; obtain ⟨t151, A30, H⟩ := H
 replace H : (some (decide (t151 ≥ 0))) = some r := H
 have A3 := YG A30; clear A30
 obtain rfl := Option.some.inj H
 go_enter Try.func50, Try.ntmps50
 go_wp2_with (first | ((with_reducible refine gate_callee (f := 66) rfl ?_); refine goesL_ (some 7) rfl rfl Try.func66 (by kernel_rfl) rfl #[.slice A0 l0.length c0, .func (Fn.func 51) #[] #[]] rfl (by (try simp only [List.map_toArray, List.map_cons, List.map_nil]); first | done | rfl | (simp only [List.length_drop, List.length_take]; rfl)) ?_; (with_reducible refine (api_Object_66.calls k _ _ l0  t151 _ ?side1 ?side2 A3.out).mono ?_); (case side1 => repeat (first | exact HR0.out | (with_reducible refine Kd.C_alloc ?_ _) | (with_reducible refine Kd.C_drewN ?_ _) | (with_reducible refine Kd.C_drew ?_))); (case side2 => exact HC0.out); rintro e w4 ⟨rfl, hb⟩; refine ⟨_, rfl, ?_⟩; have n0_ := YG (YD (by repeat (first | (with_reducible first | exact HB.out | apply YA | apply YB | apply YC) | exact HB.out)) hb); clear HB; have HB := n0_; clear n0_; (try clear hb); (try clear hb2); (try clear hk); (try clear hi)))
 go_ret
 exact ⟨by first | rfl | (simp [errW_none, errW_some] <;> rfl) | (simp [*, errW_none, errW_some] <;> rfl), by repeat (first | (with_reducible first | exact HB.out | apply YA | apply YB | apply YC) | exact HB.out)⟩
def wire_Int.f (a0 : Int) : Option (List Int) := (wire_bytes.f (IntKind.u64.wrap (a0)) 8).bind fun t152 => (some t152)
theorem wire_Int.calls (a0 : Int) (r : List Int) (w : World) (h : wire_Int.f a0 = some r) :
  Calls Try.prog 70 #[.int .i64 a0] w fun e w' => ∃ v0_ : Value, e = .returned (v0_) ∧ Kd.R (Kd.int .u8) 5 w' w.heap.size (fun _ => True) v0_ r ∧ Below w.heap.size w w' := by
 have HB := YG (Below.refl w.heap.size w)
 have H : ((wire_bytes.f (IntKind.u64.wrap (a0)) 8).bind fun t152 => (some t152)) = some r := h
 clear h; replace H := Option.bind_eq_some_iff.mp H; obtain ⟨t152, A20, H⟩ := H
 replace H : (some t152) = some r := H
 have A2 := YG A20; clear A20
 obtain rfl := Option.some.inj H
 go_enter Try.func70, Try.ntmps70
 go_wp2_with (first | ((with_reducible refine gate_callee (f := 73) rfl ?_); refine goesL_ (some 5) rfl rfl Try.func73 (by kernel_rfl) rfl #[.int .u64 (IntKind.u64.wrap (a0)), .int .i64 8] rfl (by (try simp only [List.map_toArray, List.map_cons, List.map_nil]); first | done | rfl | (simp only [List.length_drop, List.length_take]; rfl)) ?_; (with_reducible refine (wire_bytes.calls (IntKind.u64.wrap (a0)) 8 t152 _ A2.out).mono ?_); rintro e w3 ⟨v153, rfl, ho0, hb⟩; refine ⟨_, rfl, ?_⟩; have n0_ := YG (Kd.R_lower ho0 (below_size (by repeat (first | (with_reducible first | exact HB.out | apply YA | apply YB | apply YC) | exact HB.out)))); have n1_ := YG (YD (by repeat (first | (with_reducible first | exact HB.out | apply YA | apply YB | apply YC) | exact HB.out)) hb); clear HB; have HO154 := n0_; have HB := n1_; clear n0_ n1_; (try clear hb); (try clear hb2); (try clear hk); (try clear hi); (try clear ho0)))
 go_ret
 exact ⟨_, by first | rfl | (simp [errW_none, errW_some] <;> rfl) | (simp [*, errW_none, errW_some] <;> rfl), by (with_reducible repeat (first | apply Kd.R_alloc | apply Kd.R_drewN | apply Kd.R_drew)); exact HO154.out, by repeat (first | (with_reducible first | exact HB.out | apply YA | apply YB | apply YC) | exact HB.out)⟩
end Go.Proofs.Ytclbempnhelmoaa.P
namespace Go.Proofs.Ytclbempnhelmoaa.P
open Go.RowKit YtclbempnhelmoaaW.PrintWords YtclbempnhelmoaaW.PrintLast YtclbempnhelmoaaW.PrintMore
open YtclbempnhelmoaaW.PrintWords renaming below_alloc → YA, pw_below_drewN → YB, below_drew1 → YC, below_step → YD, below_size → YE, blk_drewN → YF, blk_drew → YG, blk_alloc → YH, blk_cell → YI, blk_frozen → YJ, blk_below → YK
open YtclbempnhelmoaaW.PrintWords.Aside0 renaming mk → YL
open List renaming setIfInBounds_toArray → YM, set_cons_zero → YN, set_cons_succ → YO, map_toArray → YP, length_take → YQ, length_drop → YR
open YtclbempnhelmoaaW.PrintWords.Kd renaming R_alloc → YS, R_drewN → YT, R_drew → YU
attribute [local go_sem] max2_int min2_int max_two min_two max_three min_three max_four min_four
def height_Bytes.f (k : Nat) (a0_0 : Bool) (a0_1 : Int) (a0_2 : Int) (a0_3 : Int) (a0_4 : Int) (a0_5 : Int) : Option (List Int × Int) := (height_Check.f k a0_0 a0_1 a0_2 a0_3 a0_4 a0_5).bind fun t156 => (if t156 = 0 then (if a0_0 = true then (if ([] : List Int).length < 140737488355328 then ((some (([] : List Int) ++ [0] : List Int)).bind fun y157 => (if y157.length < 140737488355328 then (some ((y157 ++ [(a0_5) % 256]), 0)) else (none))) else (none)) else (if ([] : List Int).length < 140737488355328 then ((some (([] : List Int) ++ [1] : List Int)).bind fun y163 => ((wire_Int.f a0_1).bind fun t166 => (if y163.length + t166.length < 140737488355328 then ((some (y163 ++ t166 : List Int)).bind fun y169 => ((some (([(a0_2) % 256, (a0_3) % 256] : List Int) : List Int)).bind fun y172 => (if y169.length + y172.length < 140737488355328 then ((some (y169 ++ y172 : List Int)).bind fun y175 => ((wire_Int.f a0_4).bind fun t178 => (if y175.length + t178.length < 140737488355328 then ((some (y175 ++ t178 : List Int)).bind fun y181 => (if y181.length < 140737488355328 then (some ((y181 ++ [(a0_5) % 256]), 0)) else (none))) else (none)))) else (none)))) else (none)))) else (none))) else (some (([] : List Int), t156)))
theorem height_Bytes.mono : ∀ a0 a1 a2 a3 a4 a5 k, LeO (height_Bytes.f k a0 a1 a2 a3 a4 a5) (height_Bytes.f (k + 1) a0 a1 a2 a3 a4 a5) := by
 intro a0 a1 a2 a3 a4 a5 k
 unfold height_Bytes.f
 repeat' first
   | (with_reducible exact height_Check.mono _ _ _ _ _ _ _)
   | (with_reducible exact LeO.refl _)
   | (with_reducible exact LeO.none _)
   | (with_reducible refine LeO.ite ?_ ?_)
   | (with_reducible refine LeO.bind ?_ (fun _ => ?_))
   | exact height_Check.mono _ _ _ _ _ _ _
   | exact LeO.none _
   | refine LeO.ite ?_ ?_
   | refine LeO.bind ?_ (fun _ => ?_)
def height_Bytes.T7 : Bool × List (List Nat × List Nat) := (true, [([], []), ([], []), ([0, 1], [0, 1]), ([], []), ([3], [3]), ([4, 2], [4]), ([2, 5, 5], [2, 5]), ([6, 6, 0, 1, 2, 3, 4, 5, 6], [0, 6])])
def height_Bytes.B7 : List Nat := [0, 0, 3, 0, 8, 31, 63, 127]
theorem height_Bytes.tab7 : rtab .any (opsOf Try.f69 7) = height_Bytes.T7 := by kernel_rfl
theorem height_Bytes.bits7 : waitsOk height_Bytes.T7.2 height_Bytes.B7 = true := by kernel_rfl
def height_Bytes.T8 : Bool × List (List Nat × List Nat) := (true, [([], []), ([], []), ([1], [1]), ([2], [2]), ([], []), ([4], [4]), ([5], [5]), ([3, 6], [3, 6]), ([0, 7], [0, 7]), ([], []), ([9], [9]), ([10, 8], [10]), ([8, 11, 11], [8, 11]), ([12, 12, 0, 1, 2, 3, 4, 5, 6, 7, 8, 9, 10, 11, 12], [0, 12])])
def height_Bytes.B8 : List Nat := [0, 0, 2, 6, 0, 16, 48, 126, 255, 0, 512, 2047, 4095, 8191]
theorem height_Bytes.tab8 : rtab .any (opsOf Try.f69 8) = height_Bytes.T8 := by kernel_rfl
theorem height_Bytes.bits8 : waitsOk height_Bytes.T8.2 height_Bytes.B8 = true := by kernel_rfl
theorem height_Bytes.calls (k : Nat) (a0_0 : Bool) (a0_1 : Int) (a0_2 : Int) (a0_3 : Int) (a0_4 : Int) (a0_5 : Int) (r1 : List Int) (r2 : Int) (w : World) (h : height_Bytes.f k a0_0 a0_1 a0_2 a0_3 a0_4 a0_5 = some (r1, r2)) :
  Calls Try.prog 69 #[.agg #[.bool a0_0, .int .i64 a0_1, .int .i64 a0_2, .int .i64 a0_3, .int .i64 a0_4, .int .i64 a0_5]] w fun e w' => ∃ v0_ : Value, e = .returned (.tuple #[v0_, .int .i64 r2]) ∧ Kd.R (Kd.int .u8) 5 w' w.heap.size (fun _ => True) v0_ r1 ∧ Below w.heap.size w w' := by
 have hu30 := Try.underlying30
 have HB := YL (Below.refl w.heap.size w)
 have H : ((height_Check.f k a0_0 a0_1 a0_2 a0_3 a0_4 a0_5).bind fun t156 => (if t156 = 0 then (if a0_0 = true then (if ([] : List Int).length < 140737488355328 then ((some (([] : List Int) ++ [0] : List Int)).bind fun y157 => (if y157.length < 140737488355328 then (some ((y157 ++ [(a0_5) % 256]), 0)) else (none))) else (none)) else (if ([] : List Int).length < 140737488355328 then ((some (([] : List Int) ++ [1] : List Int)).bind fun y163 => ((wire_Int.f a0_1).bind fun t166 => (if y163.length + t166.length < 140737488355328 then ((some (y163 ++ t166 : List Int)).bind fun y169 => ((some (([(a0_2) % 256, (a0_3) % 256] : List Int) : List Int)).bind fun y172 => (if y169.length + y172.length < 140737488355328 then ((some (y169 ++ y172 : List Int)).bind fun y175 => ((wire_Int.f a0_4).bind fun t178 => (if y175.length + t178.length < 140737488355328 then ((some (y175 ++ t178 : List Int)).bind fun y181 => (if y181.length < 140737488355328 then (some ((y181 ++ [(a0_5) % 256]), 0)) else (none))) else (none)))) else (none)))) else (none)))) else (none))) else (some (([] : List Int), t156)))) = some (r1, r2) := h
 clear h; replace H := Option.bind_eq_some_iff.mp H; obtain ⟨t156, A20, H⟩ := H
 replace H : (if t156 = 0 then (if a0_0 = true then (if ([] : List Int).length < 140737488355328 then ((some (([] : List Int) ++ [0] : List Int)).bind fun y157 => (if y157.length < 140737488355328 then (some ((y157 ++ [(a0_5) % 256]), 0)) else (none))) else (none)) else (if ([] : List Int).length < 140737488355328 then ((some (([] : List Int) ++ [1] : List Int)).bind fun y163 => ((wire_Int.f a0_1).bind fun t166 => (if y163.length + t166.length < 140737488355328 then ((some (y163 ++ t166 : List Int)).bind fun y169 => ((some (([(a0_2) % 256, (a0_3) % 256] : List Int) : List Int)).bind fun y172 => (if y169.length + y172.length < 140737488355328 then ((some (y169 ++ y172 : List Int)).bind fun y175 => ((wire_Int.f a0_4).bind fun t178 => (if y175.length + t178.length < 140737488355328 then ((some (y175 ++ t178 : List Int)).bind fun y181 => (if y181.length < 140737488355328 then (some ((y181 ++ [(a0_5) % 256]), 0)) else (none))) else (none)))) else (none)))) else (none)))) else (none))) else (some (([] : List Int), t156))) = some (r1, r2) := H
 have A2 := YL A20; clear A20
 by_cases c3 : t156 = 0
 ·rw [if_pos c3] at H
  have c3b0 : (t156 == 0) = true := beq_iff_eq.mpr c3
  have c3b1 : (t156 != 0) = false := bne_eq_false_iff_eq.mpr c3
  clear c3
  by_cases c4 : a0_0 = true
  ·subst c4
   have H1 : (if ([] : List Int).length < 140737488355328 then ((some (([] : List Int) ++ [0] : List Int)).bind fun y157 => (if y157.length < 140737488355328 then (some ((y157 ++ [(a0_5) % 256]), 0)) else (none))) else (none)) = some (r1, r2) := by rw [if_pos rfl] at H; exact H
   clear H
   have H := H1
   clear H1
   by_cases c5 : ([] : List Int).length < 140737488355328
   rotate_left
   ·rw [if_neg c5] at H
    exact absurd H (by simp)
   rw [if_pos c5] at H; have LMc5 := YL c5; clear c5
   obtain ⟨y157, hy157⟩ : ∃ y_ : List Int, y_ = (([] : List Int) ++ [0]) := ⟨_, rfl⟩
   replace H : (if y157.length < 140737488355328 then (some ((y157 ++ [(a0_5) % 256]), 0)) else (none)) = some (r1, r2) := by first | (rw [hy157]; with_reducible exact H) | (have H2_ := (Option.bind_some _ _).symm.trans H; rw [hy157]; with_reducible exact H2_) | (have H2_ := (Option.bind_some _ _).symm.trans H; with_reducible exact H2_) | with_reducible exact H | (rw [hy157]; exact H) | exact H
   have Ny157 := YL hy157; clear hy157
   by_cases c6 : y157.length < 140737488355328
   rotate_left
   ·rw [if_neg c6] at H
    exact absurd H (by simp)
   rw [if_pos c6] at H; have LMc6 := YL c6; clear c6
   obtain ⟨y160, hy160⟩ : ∃ y_ : List Int, y_ = (y157 ++ [(a0_5) % 256]) := ⟨_, rfl⟩
   replace H : (some (y160, 0)) = some (r1, r2) := by first | (rw [hy160]; with_reducible exact H) | (have H2_ := (Option.bind_some _ _).symm.trans H; rw [hy160]; with_reducible exact H2_) | (have H2_ := (Option.bind_some _ _).symm.trans H; with_reducible exact H2_) | with_reducible exact H | (rw [hy160]; exact H) | exact H
   have Ny160 := YL hy160; clear hy160
   simp only [Option.some.injEq, Prod.mk.injEq] at H
   obtain ⟨rfl, rfl⟩ := H
   go_enter Try.func69, Try.ntmps69
   go_wp2_with (first | ((with_reducible refine gate_dst (N := 1) rfl ?_); refine box_event ?hg (N := 1) ?hd (cs := #[.bool true, .int .i64 a0_1, .int .i64 a0_2, .int .i64 a0_3, .int .i64 a0_4, .int .i64 a0_5]) (t := 30) ?hr ?_; (case hd => rfl); (case hg => rfl); (case hr => first | (go_simp; done) | (go_simp; rfl)); intro gb155 hg w7 hbox hb; have n0_ := YL (YD (by repeat (first | (with_reducible first | exact HB.out | apply YA | apply YB | apply YC) | exact HB.out)) hb); have n1_ := YL (hbox); have n2_ := YL ((by rw [hg]; exact (YE (by repeat (first | (with_reducible first | exact HB.out | apply YA | apply YB | apply YC) | exact HB.out))) : w.heap.size ≤ gb155)); have n3_ := YL ((by rw [hg]; exact (YE (by repeat (first | (with_reducible first | exact HB.out | apply YA | apply YB | apply YC) | exact HB.out))) : w.heap.size ≤ gb155)); clear HB; have HB := n0_; have BK155 := n1_; have GW155 := n2_; have GE155 := n3_; clear n0_ n1_ n2_ n3_; clear hb hbox hg; have q8_0 : w7.cell? ⟨gb155, 0, none⟩ = some (.bool true) := (YI BK155.out 0).trans rfl; have q8_1 : w7.cell? ⟨gb155, 1, none⟩ = some (.int .i64 a0_1) := (YI BK155.out 1).trans rfl; have q8_2 : w7.cell? ⟨gb155, 2, none⟩ = some (.int .i64 a0_2) := (YI BK155.out 2).trans rfl; have q8_3 : w7.cell? ⟨gb155, 3, none⟩ = some (.int .i64 a0_3) := (YI BK155.out 3).trans rfl; have q8_4 : w7.cell? ⟨gb155, 4, none⟩ = some (.int .i64 a0_4) := (YI BK155.out 4).trans rfl; have q8_5 : w7.cell? ⟨gb155, 5, none⟩ = some (.int .i64 a0_5) := (YI BK155.out 5).trans rfl; have f8_0 := YJ BK155.out 0; have f8_1 := YJ BK155.out 1; have f8_2 := YJ BK155.out 2; have f8_3 := YJ BK155.out 3; have f8_4 := YJ BK155.out 4; have f8_5 := YJ BK155.out 5) | ((with_reducible refine gate_callee (f := 48) rfl ?_); refine goesL_ (some 7) rfl rfl Try.func48 (by kernel_rfl) rfl #[.agg #[.bool true, .int .i64 a0_1, .int .i64 a0_2, .int .i64 a0_3, .int .i64 a0_4, .int .i64 a0_5]] rfl (by (try simp only [YP, List.map_cons, List.map_nil]); first | done | rfl | (simp only [YR, YQ]; rfl)) ?_; (with_reducible refine (height_Check.calls k true a0_1 a0_2 a0_3 a0_4 a0_5 t156 _ A2.out).mono ?_); rintro e w9 ⟨rfl, hb⟩; refine ⟨_, rfl, ?_⟩; have n0_ := YL (YK (g := gb155) (o := .cells #[.bool true, .int .i64 a0_1, .int .i64 a0_2, .int .i64 a0_3, .int .i64 a0_4, .int .i64 a0_5] 30 (0, 0)) (by (with_reducible repeat (first | refine YF ?_ _ | refine YG ?_ | refine YH ?_ _)); exact BK155.out) hb); have n1_ := YL (YD (by repeat (first | (with_reducible first | exact HB.out | apply YA | apply YB | apply YC | refine below_set ?_ GE155.out) | exact HB.out)) hb); clear BK155; clear HB; have BK155 := n0_; have HB := n1_; clear n0_ n1_; (try clear hb); (try clear hb2); (try clear hk); (try clear hi); have q10_0 : w9.cell? ⟨gb155, 0, none⟩ = some (.bool true) := (YI BK155.out 0).trans rfl; have q10_1 : w9.cell? ⟨gb155, 1, none⟩ = some (.int .i64 a0_1) := (YI BK155.out 1).trans rfl; have q10_2 : w9.cell? ⟨gb155, 2, none⟩ = some (.int .i64 a0_2) := (YI BK155.out 2).trans rfl; have q10_3 : w9.cell? ⟨gb155, 3, none⟩ = some (.int .i64 a0_3) := (YI BK155.out 3).trans rfl; have q10_4 : w9.cell? ⟨gb155, 4, none⟩ = some (.int .i64 a0_4) := (YI BK155.out 4).trans rfl; have q10_5 : w9.cell? ⟨gb155, 5, none⟩ = some (.int .i64 a0_5) := (YI BK155.out 5).trans rfl; have f10_0 := YJ BK155.out 0; have f10_1 := YJ BK155.out 1; have f10_2 := YJ BK155.out 2; have f10_3 := YJ BK155.out 3; have f10_4 := YJ BK155.out 4; have f10_5 := YJ BK155.out 5) | ((with_reducible refine gate_builtin (b := .append) (xs := #[.tmp 13, .tmp 14]) rfl ?_); at_builtin; refine Kd.R_append (Kd.int .u8) (w0 := w) w.heap.size rfl (.tmp 13) (.tmp 14) 107 5 (.int .u8 0) 1 rfl Try.underlying107 info5 rfl (by decide) (by omega) (.slice none 0 0) ([] : List Int) 0 [.int .u8 0] (fun _ => True) (fun _ => False) rfl rfl ?aP (fun _ hk => hk.elim) ?aF ?aO ?aB ?aS ?aL ?_; (case aP => exact rfl); (case aB => exact (by repeat (first | (with_reducible first | exact HB.out | apply YA | apply YB | apply YC | refine below_set ?_ GE155.out) | exact HB.out))); (case aF => exact (fun _ _ => trivial)); (case aO => exact ((Kd.R_nil _ _ _ _ (fun _ => True)))); (case aS => exact (YE (by repeat (first | (with_reducible first | exact HB.out | apply YA | apply YB | apply YC | refine below_set ?_ GE155.out) | exact HB.out)))); (case aL => have := LMc5.out; omega); intro v158 w11 ho hb hg hat; rw [← Ny157.out] at ho; have n0_ := YL (blk_grown (g := gb155) (o := .cells #[.bool true, .int .i64 a0_1, .int .i64 a0_2, .int .i64 a0_3, .int .i64 a0_4, .int .i64 a0_5] 30 (0, 0)) (by (with_reducible repeat (first | refine YF ?_ _ | refine YG ?_ | refine YH ?_ _)); exact BK155.out) hg (by simp [Value.ownBlock])); have n1_ := YL (hb); have n2_ := YL (ho); clear BK155; clear HB; have BK155 := n0_; have HB := n1_; have HO159 := n2_; clear n0_ n1_ n2_; clear ho hb hg hat; have q12_0 : w11.cell? ⟨gb155, 0, none⟩ = some (.bool true) := (YI BK155.out 0).trans rfl; have q12_1 : w11.cell? ⟨gb155, 1, none⟩ = some (.int .i64 a0_1) := (YI BK155.out 1).trans rfl; have q12_2 : w11.cell? ⟨gb155, 2, none⟩ = some (.int .i64 a0_2) := (YI BK155.out 2).trans rfl; have q12_3 : w11.cell? ⟨gb155, 3, none⟩ = some (.int .i64 a0_3) := (YI BK155.out 3).trans rfl; have q12_4 : w11.cell? ⟨gb155, 4, none⟩ = some (.int .i64 a0_4) := (YI BK155.out 4).trans rfl; have q12_5 : w11.cell? ⟨gb155, 5, none⟩ = some (.int .i64 a0_5) := (YI BK155.out 5).trans rfl; have f12_0 := YJ BK155.out 0; have f12_1 := YJ BK155.out 1; have f12_2 := YJ BK155.out 2; have f12_3 := YJ BK155.out 3; have f12_4 := YJ BK155.out 4; have f12_5 := YJ BK155.out 5) | ((with_reducible refine gate_builtin (b := .append) (xs := #[.tmp 36, .tmp 40]) rfl ?_); at_builtin; refine Kd.R_append (Kd.int .u8) (w0 := w) w.heap.size rfl (.tmp 36) (.tmp 40) 107 5 (.int .u8 0) 1 rfl Try.underlying107 info5 rfl (by decide) (by omega) v158 y157 ((a0_5) % 256) [.int .u8 ((a0_5) % 256)] (fun _ => True) (fun _ => False) rfl rfl ?aP (fun _ hk => hk.elim) ?aF ?aO ?aB ?aS ?aL ?_; (case aP => exact rfl); (case aB => exact (by repeat (first | (with_reducible first | exact HB.out | apply YA | apply YB | apply YC | refine below_set ?_ GE155.out) | exact HB.out))); (case aF => exact (fun _ _ => trivial)); (case aO => exact (by (with_reducible repeat (first | apply YS | apply YT | apply YU)); exact HO159.out)); (case aS => exact (YE (by repeat (first | (with_reducible first | exact HB.out | apply YA | apply YB | apply YC | refine below_set ?_ GE155.out) | exact HB.out)))); (case aL => have := LMc6.out; omega); intro v161 w13 ho hb hg hat; rw [← Ny160.out] at ho; have n0_ := YL (blk_grown (g := gb155) (o := .cells #[.bool true, .int .i64 a0_1, .int .i64 a0_2, .int .i64 a0_3, .int .i64 a0_4, .int .i64 a0_5] 30 (0, 0)) (by (with_reducible repeat (first | refine YF ?_ _ | refine YG ?_ | refine YH ?_ _)); exact BK155.out) hg (Kd.R_ne HO159.out BK155.out (by decide))); have n1_ := YL (hb); have n2_ := YL (ho); clear BK155; clear HB; clear HO159; have BK155 := n0_; have HB := n1_; have HO162 := n2_; clear n0_ n1_ n2_; clear ho hb hg hat))
   go_ret2
   exact ⟨_, by first | rfl | (simp [errW_none, errW_some] <;> rfl) | (simp [*, errW_none, errW_some] <;> rfl), by (with_reducible repeat (first | apply YS | apply YT | apply YU)); exact HO162.out, by repeat (first | (with_reducible first | exact HB.out | apply YA | apply YB | apply YC | refine below_set ?_ GE155.out) | exact HB.out)⟩
  replace c4 := Bool.eq_false_iff.mpr c4
  subst c4
  have H1 : (if ([] : List Int).length < 140737488355328 then ((some (([] : List Int) ++ [1] : List Int)).bind fun y163 => ((wire_Int.f a0_1).bind fun t166 => (if y163.length + t166.length < 140737488355328 then ((some (y163 ++ t166 : List Int)).bind fun y169 => ((some (([(a0_2) % 256, (a0_3) % 256] : List Int) : List Int)).bind fun y172 => (if y169.length + y172.length < 140737488355328 then ((some (y169 ++ y172 : List Int)).bind fun y175 => ((wire_Int.f a0_4).bind fun t178 => (if y175.length + t178.length < 140737488355328 then ((some (y175 ++ t178 : List Int)).bind fun y181 => (if y181.length < 140737488355328 then (some ((y181 ++ [(a0_5) % 256]), 0)) else (none))) else (none)))) else (none)))) else (none)))) else (none)) = some (r1, r2) := by rw [if_neg (show ¬ (false = true) by decide)] at H; exact H
  clear H
  have H := H1
  clear H1
  by_cases c14 : ([] : List Int).length < 140737488355328
  rotate_left
  ·rw [if_neg c14] at H
   exact absurd H (by simp)
  rw [if_pos c14] at H; have LMc14 := YL c14; clear c14
  obtain ⟨y163, hy163⟩ : ∃ y_ : List Int, y_ = (([] : List Int) ++ [1]) := ⟨_, rfl⟩
  replace H : ((wire_Int.f a0_1).bind fun t166 => (if y163.length + t166.length < 140737488355328 then ((some (y163 ++ t166 : List Int)).bind fun y169 => ((some (([(a0_2) % 256, (a0_3) % 256] : List Int) : List Int)).bind fun y172 => (if y169.length + y172.length < 140737488355328 then ((some (y169 ++ y172 : List Int)).bind fun y175 => ((wire_Int.f a0_4).bind fun t178 => (if y175.length + t178.length < 140737488355328 then ((some (y175 ++ t178 : List Int)).bind fun y181 => (if y181.length < 140737488355328 then (some ((y181 ++ [(a0_5) % 256]), 0)) else (none))) else (none)))) else (none)))) else (none))) = some (r1, r2) := by first | (rw [hy163]; with_reducible exact H) | (have H2_ := (Option.bind_some _ _).symm.trans H; rw [hy163]; with_reducible exact H2_) | (have H2_ := (Option.bind_some _ _).symm.trans H; with_reducible exact H2_) | with_reducible exact H | (rw [hy163]; exact H) | exact H
  have Ny163 := YL hy163; clear hy163; replace H := Option.bind_eq_some_iff.mp H; obtain ⟨t166, A150, H⟩ := H
  replace H : (if y163.length + t166.length < 140737488355328 then ((some (y163 ++ t166 : List Int)).bind fun y169 => ((some (([(a0_2) % 256, (a0_3) % 256] : List Int) : List Int)).bind fun y172 => (if y169.length + y172.length < 140737488355328 then ((some (y169 ++ y172 : List Int)).bind fun y175 => ((wire_Int.f a0_4).bind fun t178 => (if y175.length + t178.length < 140737488355328 then ((some (y175 ++ t178 : List Int)).bind fun y181 => (if y181.length < 140737488355328 then (some ((y181 ++ [(a0_5) % 256]), 0)) else (none))) else (none)))) else (none)))) else (none)) = some (r1, r2) := H
  have A15 := YL A150; clear A150
  by_cases c16 : y163.length + t166.length < 140737488355328
  rotate_left
  ·rw [if_neg c16] at H
   exact absurd H (by simp)
  rw [if_pos c16] at H; have LMc16 := YL c16; clear c16
  obtain ⟨y169, hy169⟩ : ∃ y_ : List Int, y_ = (y163 ++ t166) := ⟨_, rfl⟩
  replace H : ((some (([(a0_2) % 256, (a0_3) % 256] : List Int) : List Int)).bind fun y172 => (if y169.length + y172.length < 140737488355328 then ((some (y169 ++ y172 : List Int)).bind fun y175 => ((wire_Int.f a0_4).bind fun t178 => (if y175.length + t178.length < 140737488355328 then ((some (y175 ++ t178 : List Int)).bind fun y181 => (if y181.length < 140737488355328 then (some ((y181 ++ [(a0_5) % 256]), 0)) else (none))) else (none)))) else (none))) = some (r1, r2) := by first | (rw [hy169]; with_reducible exact H) | (have H2_ := (Option.bind_some _ _).symm.trans H; rw [hy169]; with_reducible exact H2_) | (have H2_ := (Option.bind_some _ _).symm.trans H; with_reducible exact H2_) | with_reducible exact H | (rw [hy169]; exact H) | exact H
  have Ny169 := YL hy169; clear hy169
  obtain ⟨y172, hy172⟩ : ∃ y_ : List Int, y_ = (([(a0_2) % 256, (a0_3) % 256] : List Int)) := ⟨_, rfl⟩
  replace H : (if y169.length + y172.length < 140737488355328 then ((some (y169 ++ y172 : List Int)).bind fun y175 => ((wire_Int.f a0_4).bind fun t178 => (if y175.length + t178.length < 140737488355328 then ((some (y175 ++ t178 : List Int)).bind fun y181 => (if y181.length < 140737488355328 then (some ((y181 ++ [(a0_5) % 256]), 0)) else (none))) else (none)))) else (none)) = some (r1, r2) := by first | (rw [hy172]; with_reducible exact H) | (have H2_ := (Option.bind_some _ _).symm.trans H; rw [hy172]; with_reducible exact H2_) | (have H2_ := (Option.bind_some _ _).symm.trans H; with_reducible exact H2_) | with_reducible exact H | (rw [hy172]; exact H) | exact H
  have Ny172 := YL hy172; clear hy172
  by_cases c17 : y169.length + y172.length < 140737488355328
  rotate_left
  ·rw [if_neg c17] at H
   exact absurd H (by simp)
  rw [if_pos c17] at H; have LMc17 := YL c17; clear c17
  obtain ⟨y175, hy175⟩ : ∃ y_ : List Int, y_ = (y169 ++ y172) := ⟨_, rfl⟩
  replace H : ((wire_Int.f a0_4).bind fun t178 => (if y175.length + t178.length < 140737488355328 then ((some (y175 ++ t178 : List Int)).bind fun y181 => (if y181.length < 140737488355328 then (some ((y181 ++ [(a0_5) % 256]), 0)) else (none))) else (none))) = some (r1, r2) := by first | (rw [hy175]; with_reducible exact H) | (have H2_ := (Option.bind_some _ _).symm.trans H; rw [hy175]; with_reducible exact H2_) | (have H2_ := (Option.bind_some _ _).symm.trans H; with_reducible exact H2_) | with_reducible exact H | (rw [hy175]; exact H) | exact H
  have Ny175 := YL hy175; clear hy175; replace H := Option.bind_eq_some_iff.mp H; obtain ⟨t178, A180, H⟩ := H
  replace H : (if y175.length + t178.length < 140737488355328 then ((some (y175 ++ t178 : List Int)).bind fun y181 => (if y181.length < 140737488355328 then (some ((y181 ++ [(a0_5) % 256]), 0)) else (none))) else (none)) = some (r1, r2) := H
  have A18 := YL A180; clear A180
  by_cases c19 : y175.length + t178.length < 140737488355328
  rotate_left
  ·rw [if_neg c19] at H
   exact absurd H (by simp)
  rw [if_pos c19] at H; have LMc19 := YL c19; clear c19
  obtain ⟨y181, hy181⟩ : ∃ y_ : List Int, y_ = (y175 ++ t178) := ⟨_, rfl⟩
  replace H : (if y181.length < 140737488355328 then (some ((y181 ++ [(a0_5) % 256]), 0)) else (none)) = some (r1, r2) := by first | (rw [hy181]; with_reducible exact H) | (have H2_ := (Option.bind_some _ _).symm.trans H; rw [hy181]; with_reducible exact H2_) | (have H2_ := (Option.bind_some _ _).symm.trans H; with_reducible exact H2_) | with_reducible exact H | (rw [hy181]; exact H) | exact H
  have Ny181 := YL hy181; clear hy181
  by_cases c20 : y181.length < 140737488355328
  rotate_left
  ·rw [if_neg c20] at H
   exact absurd H (by simp)
  rw [if_pos c20] at H; have LMc20 := YL c20; clear c20
  obtain ⟨y184, hy184⟩ : ∃ y_ : List Int, y_ = (y181 ++ [(a0_5) % 256]) := ⟨_, rfl⟩
  replace H : (some (y184, 0)) = some (r1, r2) := by first | (rw [hy184]; with_reducible exact H) | (have H2_ := (Option.bind_some _ _).symm.trans H; rw [hy184]; with_reducible exact H2_) | (have H2_ := (Option.bind_some _ _).symm.trans H; with_reducible exact H2_) | with_reducible exact H | (rw [hy184]; exact H) | exact H
  have Ny184 := YL hy184; clear hy184
  simp only [Option.some.injEq, Prod.mk.injEq] at H
  obtain ⟨rfl, rfl⟩ := H
  go_enter Try.func69, Try.ntmps69
  try go_wp2_with (first | ((with_reducible refine gate_dst (N := 1) rfl ?_); refine box_event ?hg (N := 1) ?hd (cs := #[.bool false, .int .i64 a0_1, .int .i64 a0_2, .int .i64 a0_3, .int .i64 a0_4, .int .i64 a0_5]) (t := 30) ?hr ?_; (case hd => rfl); (case hg => rfl); (case hr => first | (go_simp; done) | (go_simp; rfl)); intro gb155 hg w21 hbox hb; have n0_ := YL (YD (by repeat (first | (with_reducible first | exact HB.out | apply YA | apply YB | apply YC) | exact HB.out)) hb); have n1_ := YL (hbox); have n2_ := YL ((by rw [hg]; exact (YE (by repeat (first | (with_reducible first | exact HB.out | apply YA | apply YB | apply YC) | exact HB.out))) : w.heap.size ≤ gb155)); have n3_ := YL ((by rw [hg]; exact (YE (by repeat (first | (with_reducible first | exact HB.out | apply YA | apply YB | apply YC) | exact HB.out))) : w.heap.size ≤ gb155)); clear HB; have HB := n0_; have BK155 := n1_; have GW155 := n2_; have GE155 := n3_; clear n0_ n1_ n2_ n3_; clear hb hbox hg; have q22_0 : w21.cell? ⟨gb155, 0, none⟩ = some (.bool false) := (YI BK155.out 0).trans rfl; have q22_1 : w21.cell? ⟨gb155, 1, none⟩ = some (.int .i64 a0_1) := (YI BK155.out 1).trans rfl; have q22_2 : w21.cell? ⟨gb155, 2, none⟩ = some (.int .i64 a0_2) := (YI BK155.out 2).trans rfl; have q22_3 : w21.cell? ⟨gb155, 3, none⟩ = some (.int .i64 a0_3) := (YI BK155.out 3).trans rfl; have q22_4 : w21.cell? ⟨gb155, 4, none⟩ = some (.int .i64 a0_4) := (YI BK155.out 4).trans rfl; have q22_5 : w21.cell? ⟨gb155, 5, none⟩ = some (.int .i64 a0_5) := (YI BK155.out 5).trans rfl; have f22_0 := YJ BK155.out 0; have f22_1 := YJ BK155.out 1; have f22_2 := YJ BK155.out 2; have f22_3 := YJ BK155.out 3; have f22_4 := YJ BK155.out 4; have f22_5 := YJ BK155.out 5) | ((with_reducible refine gate_callee (f := 48) rfl ?_); refine goesL_ (some 7) rfl rfl Try.func48 (by kernel_rfl) rfl #[.agg #[.bool false, .int .i64 a0_1, .int .i64 a0_2, .int .i64 a0_3, .int .i64 a0_4, .int .i64 a0_5]] rfl (by (try simp only [YP, List.map_cons, List.map_nil]); first | done | rfl | (simp only [YR, YQ]; rfl)) ?_; (with_reducible refine (height_Check.calls k false a0_1 a0_2 a0_3 a0_4 a0_5 t156 _ A2.out).mono ?_); rintro e w23 ⟨rfl, hb⟩; refine ⟨_, rfl, ?_⟩; have n0_ := YL (YK (g := gb155) (o := .cells #[.bool false, .int .i64 a0_1, .int .i64 a0_2, .int .i64 a0_3, .int .i64 a0_4, .int .i64 a0_5] 30 (0, 0)) (by (with_reducible repeat (first | refine YF ?_ _ | refine YG ?_ | refine YH ?_ _)); exact BK155.out) hb); have n1_ := YL (YD (by repeat (first | (with_reducible first | exact HB.out | apply YA | apply YB | apply YC | refine below_set ?_ GE155.out) | exact HB.out)) hb); clear BK155; clear HB; have BK155 := n0_; have HB := n1_; clear n0_ n1_; (try clear hb); (try clear hb2); (try clear hk); (try clear hi); have q24_0 : w23.cell? ⟨gb155, 0, none⟩ = some (.bool false) := (YI BK155.out 0).trans rfl; have q24_1 : w23.cell? ⟨gb155, 1, none⟩ = some (.int .i64 a0_1) := (YI BK155.out 1).trans rfl; have q24_2 : w23.cell? ⟨gb155, 2, none⟩ = some (.int .i64 a0_2) := (YI BK155.out 2).trans rfl; have q24_3 : w23.cell? ⟨gb155, 3, none⟩ = some (.int .i64 a0_3) := (YI BK155.out 3).trans rfl; have q24_4 : w23.cell? ⟨gb155, 4, none⟩ = some (.int .i64 a0_4) := (YI BK155.out 4).trans rfl; have q24_5 : w23.cell? ⟨gb155, 5, none⟩ = some (.int .i64 a0_5) := (YI BK155.out 5).trans rfl; have f24_0 := YJ BK155.out 0; have f24_1 := YJ BK155.out 1; have f24_2 := YJ BK155.out 2; have f24_3 := YJ BK155.out 3; have f24_4 := YJ BK155.out 4; have f24_5 := YJ BK155.out 5))
  have n0_ := YL (YG BK155.out)
  have n1_ := YL (YC HB.out)
  clear BK155; clear HB; have BK155 := n0_; have HB := n1_; clear n0_ n1_
  refine start_ (n := 8) (S := fun w' => w'.cell? ⟨gb155, 0, none⟩ = some (.bool false) ∧ w'.cell? ⟨gb155, 1, none⟩ = some (.int .i64 a0_1) ∧ w'.cell? ⟨gb155, 2, none⟩ = some (.int .i64 a0_2) ∧ w'.cell? ⟨gb155, 3, none⟩ = some (.int .i64 a0_3) ∧ w'.cell? ⟨gb155, 4, none⟩ = some (.int .i64 a0_4) ∧ w'.cell? ⟨gb155, 5, none⟩ = some (.int .i64 a0_5)) (ds := []) #[false, false, false, false, false, false, false, false] (by kernel_rfl) rfl rfl ⟨(YI BK155.out 0).trans rfl, (YI BK155.out 1).trans rfl, (YI BK155.out 2).trans rfl, (YI BK155.out 3).trans rfl, (YI BK155.out 4).trans rfl, (YI BK155.out 5).trans rfl⟩ (fun hHeld => ?_); refine with_tabW height_Bytes.tab7 height_Bytes.bits7 (fun HT_ HW_ => ?_)
  generalize w23.drew = w25 at BK155 HB hHeld ⊢
  refine pure_ (i := 0) (N := some 16) (v := ?_) (a' := ?_) #[true, false, false, false, false, false, false, false] rfl rfl (any_of HT_.out (by kernel_rfl)) (fun _ _ _ h => h) (Or.inl ⟨by rfl, ?_⟩) ?_ ?_
  rotate_left
  ·intro w'
   go_simp; with_reducible rfl
  rotate_left
  ·simp only [Act.put, YM, YN, YO, i64_w, i32_w]
   rfl
  refine pure_ (i := 3) (N := some 19) (v := ?_) (a' := ?_) #[true, false, false, true, false, false, false, false] rfl rfl (any_of HT_.out (by kernel_rfl)) (fun _ _ _ h => h) (Or.inl ⟨by rfl, ?_⟩) ?_ ?_
  rotate_left
  ·intro w'
   go_simp; with_reducible rfl
  rotate_left
  ·simp only [Act.put, YM, YN, YO, i64_w, i32_w]
   rfl
  refine take_ (i := 4) (N := some 20) (v := ?_) (a' := ?_) #[true, false, false, true, true, false, false, false] rfl rfl (take_ofW HT_.out HW_.out (by kernel_rfl)) (fun _ _ _ h => h) (Or.inl ⟨by rfl, ?_⟩) hHeld ?_ ?_
  rotate_left
  ·rintro w' ⟨s0, s1, s2, s3, s4, s5⟩
   go_simp; with_reducible rfl
  rotate_left
  ·simp only [Act.put, YM, YN, YO, i64_w, i32_w]
   rfl
  refine one_ (i := 1) (N := some 17) #[true, true, false, true, true, false, false, false] rfl rfl (one_of HT_.out (by kernel_rfl)) (by decide) (fun K hK => ?_)
  refine value_ (w1 := ?_) (v := ?_) (by rfl) rfl ?_ ?_
  rotate_left 2
  ·go_simp
   constructor
   ·rfl
   rfl
  refine hK.out _ _ ⟨(YI (YH BK155.out _) 0).trans rfl, (YI (YH BK155.out _) 1).trans rfl, (YI (YH BK155.out _) 2).trans rfl, (YI (YH BK155.out _) 3).trans rfl, (YI (YH BK155.out _) 4).trans rfl, (YI (YH BK155.out _) 5).trans rfl⟩ (fun hHeld => ?_)
  clear hK K
  refine norm_ (a' := ?_) ?_ ?_
  rotate_left
  ·show Act.put _ (some 17) _ = _
   simp only [Act.put, YM, YN, YO, i64_w, i32_w]
   rfl
  refine one_ (i := 2) (N := some 18) #[true, true, true, true, true, false, false, false] rfl rfl (one_of HT_.out (by kernel_rfl)) (by decide) (fun K hK => ?_)
  refine Kd.R_append_step (Kd.int .u8) (w0 := w) w.heap.size (by rfl) (.tmp 16) (.tmp 17) 107 5 (.int .u8 0) 1 rfl Try.underlying107 info5 rfl (by decide) (by omega) (.slice none 0 0) ([] : List Int) 1 [.int .u8 1] (fun _ => True) (fun _ => False) rfl rfl ?aP (fun _ hk => hk.elim) ?aF ?aO ?aB ?aS ?aL ?_
  (case aP => exact rfl)
  (case aB => exact (by repeat (first | (with_reducible first | exact HB.out | apply YA | apply YB | apply YC | refine below_set ?_ GE155.out) | exact HB.out)))
  (case aF => exact (fun _ _ => trivial))
  (case aO => exact ((Kd.R_nil _ _ _ _ (fun _ => True))))
  (case aS => exact (YE (by repeat (first | (with_reducible first | exact HB.out | apply YA | apply YB | apply YC | refine below_set ?_ GE155.out) | exact HB.out))))
  (case aL => have := LMc14.out; omega)
  intro v164 w26 ho hb hg hat
  rw [← Ny163.out] at ho
  have n0_ := YL (blk_grown (g := gb155) (o := .cells #[.bool false, .int .i64 a0_1, .int .i64 a0_2, .int .i64 a0_3, .int .i64 a0_4, .int .i64 a0_5] 30 (0, 0)) (by (with_reducible repeat (first | refine YF ?_ _ | refine YG ?_ | refine YH ?_ _)); exact BK155.out) hg (by simp [Value.ownBlock]))
  have n1_ := YL (hb)
  have n2_ := YL (ho)
  clear BK155; clear HB; have BK155 := n0_; have HB := n1_; have HO165 := n2_; clear n0_ n1_ n2_; clear ho hb hg hat
  refine hK.out _ _ ⟨(YI BK155.out 0).trans rfl, (YI BK155.out 1).trans rfl, (YI BK155.out 2).trans rfl, (YI BK155.out 3).trans rfl, (YI BK155.out 4).trans rfl, (YI BK155.out 5).trans rfl⟩ (fun hHeld => ?_)
  clear hK K
  refine norm_ (a' := ?_) ?_ ?_
  rotate_left
  ·show Act.put _ (some 18) _ = _
   simp only [Act.put, YM, YN, YO, i64_w, i32_w]
   rfl
  refine one_ (i := 5) (N := some 21) #[true, true, true, true, true, true, false, false] rfl rfl (one_of HT_.out (by kernel_rfl)) (by decide) (fun K hK => ?_)
  refine goes_ Try.func70 (by kernel_rfl) rfl #[.int .i64 a0_1] (by rfl) rfl rfl (by (try simp only [YP, List.map_cons, List.map_nil]); first | done | rfl | (simp only [YR, YQ]; rfl)) ?_
  with_reducible refine (wire_Int.calls a0_1 t166 _ A15.out).mono ?_
  rintro e w27 ⟨v167, rfl, ho0, hb⟩
  refine ⟨_, rfl, ?_⟩
  have n0_ := YL (Kd.R_elder' (by (with_reducible repeat (first | apply YS | apply YT | apply YU)); exact HO165.out) (Kd.R_base ho0) hb)
  have n1_ := YL (Kd.R_lower (Kd.R_new' ho0 (Kd.R_lt (by (with_reducible repeat (first | apply YS | apply YT | apply YU)); exact HO165.out))) (YE (by repeat (first | (with_reducible first | exact HB.out | apply YA | apply YB | apply YC | refine below_set ?_ GE155.out) | exact HB.out))))
  have n2_ := YL (YK (g := gb155) (o := .cells #[.bool false, .int .i64 a0_1, .int .i64 a0_2, .int .i64 a0_3, .int .i64 a0_4, .int .i64 a0_5] 30 (0, 0)) (by (with_reducible repeat (first | refine YF ?_ _ | refine YG ?_ | refine YH ?_ _)); exact BK155.out) hb)
  have n3_ := YL (YD (by repeat (first | (with_reducible first | exact HB.out | apply YA | apply YB | apply YC | refine below_set ?_ GE155.out) | exact HB.out)) hb)
  clear HO165; clear BK155; clear HB; have HO165 := n0_; have HO168 := n1_; have BK155 := n2_; have HB := n3_; clear n0_ n1_ n2_ n3_; (try clear hb); (try clear hb2); (try clear hk); (try clear hi); (try clear ho0)
  obtain ⟨Ao29, co29, eo29⟩ := Kd.R_slice HO168.out
  (first | subst eo29 | (injection eo29 with f1_ f2_ f3_; have f4_ := f1_.symm; have f5_ := f3_.symm; clear f1_ f2_ f3_; subst f4_; subst f5_))
  refine hK.out _ _ ⟨(YI BK155.out 0).trans rfl, (YI BK155.out 1).trans rfl, (YI BK155.out 2).trans rfl, (YI BK155.out 3).trans rfl, (YI BK155.out 4).trans rfl, (YI BK155.out 5).trans rfl⟩ (fun hHeld => ?_)
  clear hK K
  refine norm_ (a' := ?_) ?_ ?_
  rotate_left
  ·show Act.put _ (some 21) _ = _
   simp only [Act.put, YM, YN, YO, i64_w, i32_w]
   rfl
  refine one_ (i := 6) (N := some 22) #[true, true, true, true, true, true, true, false] rfl rfl (one_of HT_.out (by kernel_rfl)) (by decide) (fun K hK => ?_)
  refine Kd.R_append_rows_step (Kd.int .u8) (w0 := w) w.heap.size (by rfl) (.tmp 18) (.tmp 21) 107 5 (.int .u8 0) 1 rfl Try.underlying107 info5 rfl (by decide) (by omega) v164 y163 t166 _ _ _ (fun k_ => some k_ ≠ (.slice Ao29 t166.length co29 : Value).ownBlock) (fun _ => False) rfl rfl ?aO ?aR (fun _ _ h => h) (fun _ h => h.elim) ?aF ?aB ?aS ?aL ?_
  (case aR => repeat (first | exact (Kd.R_reads' HO168.out).2.2 | (with_reducible refine Kd.C_alloc ?_ _) | (with_reducible refine Kd.C_drewN ?_ _) | (with_reducible refine Kd.C_drew ?_)))
  (case aB => exact (by repeat (first | (with_reducible first | exact HB.out | apply YA | apply YB | apply YC | refine below_set ?_ GE155.out) | exact HB.out)))
  (case aF => exact (fun k_ hk => Kd.fresh' (Kd.R_lt (by (with_reducible repeat (first | apply YS | apply YT | apply YU)); exact HO168.out)) k_ hk))
  (case aO => exact (by (with_reducible repeat (first | apply YS | apply YT | apply YU)); exact Kd.R_mono HO165.out (fun _ hk => by first | exact hk.2 | exact trivial | (simp [hk]; done) | simp_all)))
  (case aS => exact (YE (by repeat (first | (with_reducible first | exact HB.out | apply YA | apply YB | apply YC | refine below_set ?_ GE155.out) | exact HB.out))))
  (case aL => have := LMc16.out; omega)
  intro v170 w28 ho hb hg hat
  rw [← Ny169.out] at ho
  have n0_ := YL (blk_grown (g := gb155) (o := .cells #[.bool false, .int .i64 a0_1, .int .i64 a0_2, .int .i64 a0_3, .int .i64 a0_4, .int .i64 a0_5] 30 (0, 0)) (by (with_reducible repeat (first | refine YF ?_ _ | refine YG ?_ | refine YH ?_ _)); exact BK155.out) hg (Kd.R_ne HO165.out BK155.out (by decide)))
  have n1_ := YL (Kd.R_after (ok := (fun _ => True)) (by (with_reducible repeat (first | apply YS | apply YT | apply YU)); exact HO168.out) hg hat)
  have n2_ := YL (hb)
  have n3_ := YL (ho)
  clear BK155; clear HO168; clear HB; clear HO165; have BK155 := n0_; have HO168 := n1_; have HB := n2_; have HO171 := n3_; clear n0_ n1_ n2_ n3_; clear ho hb hg hat
  refine hK.out _ _ ⟨(YI BK155.out 0).trans rfl, (YI BK155.out 1).trans rfl, (YI BK155.out 2).trans rfl, (YI BK155.out 3).trans rfl, (YI BK155.out 4).trans rfl, (YI BK155.out 5).trans rfl⟩ (fun hHeld => ?_)
  clear hK K
  refine norm_ (a' := ?_) ?_ ?_
  rotate_left
  ·show Act.put _ (some 22) _ = _
   simp only [Act.put, YM, YN, YO, i64_w, i32_w]
   rfl
  refine pure_ (i := 7) (N := some 5) (v := ?_) (a' := ?_) #[true, true, true, true, true, true, true, true] rfl rfl (any_of HT_.out (by kernel_rfl)) (fun _ _ _ h => h) (Or.inl ⟨by rfl, ?_⟩) ?_ ?_
  rotate_left
  ·intro w'
   go_simp; with_reducible rfl
  rotate_left
  ·simp only [Act.put, YM, YN, YO, i64_w, i32_w]
   rfl
  refine done_ (done_of HT_.out (by kernel_rfl)) ?_
  try go_wp2
  have n0_ := YL (YU HO168.out)
  have n1_ := YL (YU HO171.out)
  have n2_ := YL (YG BK155.out)
  have n3_ := YL (YC HB.out)
  clear HO168; clear HO171; clear BK155; clear HB; have HO168 := n0_; have HO171 := n1_; have BK155 := n2_; have HB := n3_; clear n0_ n1_ n2_ n3_
  refine start_ (n := 14) (S := fun w' => w'.cell? ⟨gb155, 0, none⟩ = some (.bool false) ∧ w'.cell? ⟨gb155, 1, none⟩ = some (.int .i64 a0_1) ∧ w'.cell? ⟨gb155, 2, none⟩ = some (.int .i64 a0_2) ∧ w'.cell? ⟨gb155, 3, none⟩ = some (.int .i64 a0_3) ∧ w'.cell? ⟨gb155, 4, none⟩ = some (.int .i64 a0_4) ∧ w'.cell? ⟨gb155, 5, none⟩ = some (.int .i64 a0_5)) (ds := []) #[false, false, false, false, false, false, false, false, false, false, false, false, false, false] (by kernel_rfl) rfl rfl ⟨(YI BK155.out 0).trans rfl, (YI BK155.out 1).trans rfl, (YI BK155.out 2).trans rfl, (YI BK155.out 3).trans rfl, (YI BK155.out 4).trans rfl, (YI BK155.out 5).trans rfl⟩ (fun hHeld => ?_); refine with_tabW height_Bytes.tab8 height_Bytes.bits8 (fun HT_ HW_ => ?_)
  generalize w28.drew = w30 at HO168 HO171 BK155 HB hHeld ⊢
  refine pure_ (i := 0) (N := some 23) (v := ?_) (a' := ?_) #[true, false, false, false, false, false, false, false, false, false, false, false, false, false] rfl rfl (any_of HT_.out (by kernel_rfl)) (fun _ _ _ h => h) (Or.inl ⟨by rfl, ?_⟩) ?_ ?_
  rotate_left
  ·intro w'
   go_simp; with_reducible rfl
  rotate_left
  ·simp only [Act.put, YM, YN, YO, i64_w, i32_w]
   rfl
  refine pure_ (i := 1) (N := some 24) (v := ?_) (a' := ?_) #[true, true, false, false, false, false, false, false, false, false, false, false, false, false] rfl rfl (any_of HT_.out (by kernel_rfl)) (fun _ _ _ h => h) (Or.inl ⟨by rfl, ?_⟩) ?_ ?_
  rotate_left
  ·intro w'
   go_simp; with_reducible rfl
  rotate_left
  ·simp only [Act.put, YM, YN, YO, i64_w, i32_w]
   rfl
  refine pure_ (i := 4) (N := some 27) (v := ?_) (a' := ?_) #[true, true, false, false, true, false, false, false, false, false, false, false, false, false] rfl rfl (any_of HT_.out (by kernel_rfl)) (fun _ _ _ h => h) (Or.inl ⟨by rfl, ?_⟩) ?_ ?_
  rotate_left
  ·intro w'
   go_simp; with_reducible rfl
  rotate_left
  ·simp only [Act.put, YM, YN, YO, i64_w, i32_w]
   rfl
  refine pure_ (i := 9) (N := some 32) (v := ?_) (a' := ?_) #[true, true, false, false, true, false, false, false, false, true, false, false, false, false] rfl rfl (any_of HT_.out (by kernel_rfl)) (fun _ _ _ h => h) (Or.inl ⟨by rfl, ?_⟩) ?_ ?_
  rotate_left
  ·intro w'
   go_simp; with_reducible rfl
  rotate_left
  ·simp only [Act.put, YM, YN, YO, i64_w, i32_w]
   rfl
  refine take_ (i := 2) (N := some 25) (v := ?_) (a' := ?_) #[true, true, true, false, true, false, false, false, false, true, false, false, false, false] rfl rfl (take_ofW HT_.out HW_.out (by kernel_rfl)) (fun _ _ _ h => h) (Or.inl ⟨by rfl, ?_⟩) hHeld ?_ ?_
  rotate_left
  ·rintro w' ⟨s0, s1, s2, s3, s4, s5⟩
   go_simp; with_reducible rfl
  rotate_left
  ·simp only [Act.put, YM, YN, YO, i64_w, i32_w]
   rfl
  refine pure_ (i := 3) (N := some 26) (v := ?_) (a' := ?_) #[true, true, true, true, true, false, false, false, false, true, false, false, false, false] rfl rfl (any_of HT_.out (by kernel_rfl)) (fun _ _ _ h => h) (Or.inl ⟨by rfl, ?_⟩) ?_ ?_
  rotate_left
  ·intro w'
   go_simp; with_reducible rfl
  rotate_left
  ·simp only [Act.put, YM, YN, YO, i64_w, i32_w]
   rfl
  refine take_ (i := 5) (N := some 28) (v := ?_) (a' := ?_) #[true, true, true, true, true, true, false, false, false, true, false, false, false, false] rfl rfl (take_ofW HT_.out HW_.out (by kernel_rfl)) (fun _ _ _ h => h) (Or.inl ⟨by rfl, ?_⟩) hHeld ?_ ?_
  rotate_left
  ·rintro w' ⟨s0, s1, s2, s3, s4, s5⟩
   go_simp; with_reducible rfl
  rotate_left
  ·simp only [Act.put, YM, YN, YO, i64_w, i32_w]
   rfl
  refine pure_ (i := 6) (N := some 29) (v := ?_) (a' := ?_) #[true, true, true, true, true, true, true, false, false, true, false, false, false, false] rfl rfl (any_of HT_.out (by kernel_rfl)) (fun _ _ _ h => h) (Or.inl ⟨by rfl, ?_⟩) ?_ ?_
  rotate_left
  ·intro w'
   go_simp; with_reducible rfl
  rotate_left
  ·simp only [Act.put, YM, YN, YO, i64_w, i32_w]
   rfl
  refine take_ (i := 10) (N := some 33) (v := ?_) (a' := ?_) #[true, true, true, true, true, true, true, false, false, true, true, false, false, false] rfl rfl (take_ofW HT_.out HW_.out (by kernel_rfl)) (fun _ _ _ h => h) (Or.inl ⟨by rfl, ?_⟩) hHeld ?_ ?_
  rotate_left
  ·rintro w' ⟨s0, s1, s2, s3, s4, s5⟩
   go_simp; with_reducible rfl
  rotate_left
  ·simp only [Act.put, YM, YN, YO, i64_w, i32_w]
   rfl
  refine one_ (i := 7) (N := some 30) #[true, true, true, true, true, true, true, true, false, true, true, false, false, false] rfl rfl (one_of HT_.out (by kernel_rfl)) (by decide) (fun K hK => ?_)
  refine Kd.R_lit_step (Kd.int .u8) _ 5 ?hg (N := 30) ?hd (xs := ([(a0_2) % 256, (a0_3) % 256] : List Int)) (inner := [.int .u8 ((a0_2) % 256), .int .u8 ((a0_3) % 256)]) (ok := fun _ => True) (okp := fun _ => True) ?hr ?hp (fun _ hk => hk) trivial (Below.refl _ _) (Nat.le_refl _) (by simp) ?_; (case hd => rfl); (case hg => rfl); (case hr => first | (go_simp; done) | (go_simp; rfl)); (case hp => exact (Reps.one (show Kd.M (Kd.int .u8) _ _ _ ((a0_2) % 256) [.int .u8 ((a0_2) % 256)] from rfl) (Reps.one (show Kd.M (Kd.int .u8) _ _ _ ((a0_3) % 256) [.int .u8 ((a0_3) % 256)] from rfl) (Reps.none _ _))))
  intro v173 w31 ho32 hb hg_ hnew_
  clear hg_ hnew_
  (first | rw [← Ny172.out] at ho32 | (simp only [Int.reduceToNat] at ho32; rw [← Ny172.out] at ho32))
  have n0_ := YL (Kd.R_elder' (by (with_reducible repeat (first | apply YS | apply YT | apply YU)); exact HO168.out) (Kd.R_base ho32) hb)
  have n1_ := YL (Kd.R_elder' (by (with_reducible repeat (first | apply YS | apply YT | apply YU)); exact HO171.out) (Kd.R_base ho32) hb)
  have n2_ := YL (Kd.R_lower (Kd.R_new' (Kd.R_new' ho32 (Kd.R_lt (by (with_reducible repeat (first | apply YS | apply YT | apply YU)); exact HO168.out))) (Kd.R_lt (by (with_reducible repeat (first | apply YS | apply YT | apply YU)); exact HO171.out))) (YE (by repeat (first | (with_reducible first | exact HB.out | apply YA | apply YB | apply YC | refine below_set ?_ GE155.out) | exact HB.out))))
  have n3_ := YL (YK (g := gb155) (o := .cells #[.bool false, .int .i64 a0_1, .int .i64 a0_2, .int .i64 a0_3, .int .i64 a0_4, .int .i64 a0_5] 30 (0, 0)) (by (with_reducible repeat (first | refine YF ?_ _ | refine YG ?_ | refine YH ?_ _)); exact BK155.out) hb)
  have n4_ := YL (YD (by repeat (first | (with_reducible first | exact HB.out | apply YA | apply YB | apply YC | refine below_set ?_ GE155.out) | exact HB.out)) hb)
  clear HO168; clear HO171; clear BK155; clear HB; have HO168 := n0_; have HO171 := n1_; have HO174 := n2_; have BK155 := n3_; have HB := n4_; clear n0_ n1_ n2_ n3_ n4_; clear hb ho32
  obtain ⟨Ao34, co34, eo34⟩ := Kd.R_slice HO174.out
  (first | subst eo34 | (injection eo34 with f1_ f2_ f3_; have f4_ := f1_.symm; have f5_ := f3_.symm; clear f1_ f2_ f3_; subst f4_; subst f5_))
  refine hK.out _ _ ⟨(YI BK155.out 0).trans rfl, (YI BK155.out 1).trans rfl, (YI BK155.out 2).trans rfl, (YI BK155.out 3).trans rfl, (YI BK155.out 4).trans rfl, (YI BK155.out 5).trans rfl⟩ (fun hHeld => ?_)
  clear hK K
  refine norm_ (a' := ?_) ?_ ?_
  rotate_left
  ·show Act.put _ (some 30) _ = _
   simp only [Act.put, YM, YN, YO, i64_w, i32_w]
   rfl
  refine one_ (i := 8) (N := some 31) #[true, true, true, true, true, true, true, true, true, true, true, false, false, false] rfl rfl (one_of HT_.out (by kernel_rfl)) (by decide) (fun K hK => ?_)
  refine Kd.R_append_rows_step (Kd.int .u8) (w0 := w) w.heap.size (by rfl) (.tmp 23) (.tmp 30) 107 5 (.int .u8 0) 1 rfl Try.underlying107 info5 rfl (by decide) (by omega) v170 y169 y172 _ _ _ (fun k_ => some k_ ≠ (.slice Ao29 t166.length co29 : Value).ownBlock ∧ some k_ ≠ (.slice Ao34 y172.length co34 : Value).ownBlock) (fun _ => False) rfl rfl ?aO ?aR (fun _ _ h => h) (fun _ h => h.elim) ?aF ?aB ?aS ?aL ?_
  (case aR => repeat (first | exact (Kd.R_reads' HO174.out).2.2 | (with_reducible refine Kd.C_alloc ?_ _) | (with_reducible refine Kd.C_drewN ?_ _) | (with_reducible refine Kd.C_drew ?_)))
  (case aB => exact (by repeat (first | (with_reducible first | exact HB.out | apply YA | apply YB | apply YC | refine below_set ?_ GE155.out) | exact HB.out)))
  (case aF => exact (fun k_ hk => ⟨Kd.fresh' (Kd.R_lt (by (with_reducible repeat (first | apply YS | apply YT | apply YU)); exact HO168.out)) k_ hk, Kd.fresh' (Kd.R_lt (by (with_reducible repeat (first | apply YS | apply YT | apply YU)); exact HO174.out)) k_ hk⟩))
  (case aO => exact (by (with_reducible repeat (first | apply YS | apply YT | apply YU)); exact HO171.out))
  (case aS => exact (YE (by repeat (first | (with_reducible first | exact HB.out | apply YA | apply YB | apply YC | refine below_set ?_ GE155.out) | exact HB.out))))
  (case aL => have := LMc17.out; omega)
  intro v176 w33 ho hb hg hat
  rw [← Ny175.out] at ho
  have n0_ := YL (blk_grown (g := gb155) (o := .cells #[.bool false, .int .i64 a0_1, .int .i64 a0_2, .int .i64 a0_3, .int .i64 a0_4, .int .i64 a0_5] 30 (0, 0)) (by (with_reducible repeat (first | refine YF ?_ _ | refine YG ?_ | refine YH ?_ _)); exact BK155.out) hg (Kd.R_ne HO171.out BK155.out (by decide)))
  have n1_ := YL (Kd.R_after (ok := (fun k_ => some k_ ≠ (.slice Ao34 y172.length co34 : Value).ownBlock)) (by (with_reducible repeat (first | apply YS | apply YT | apply YU)); exact Kd.R_mono HO168.out (fun _ hk => by first | exact ⟨hk.2, hk.1.2⟩ | exact trivial | (simp [hk]; done) | simp_all)) hg hat)
  have n2_ := YL (Kd.R_after (ok := (fun k_ => some k_ ≠ (.slice Ao29 t166.length co29 : Value).ownBlock)) (by (with_reducible repeat (first | apply YS | apply YT | apply YU)); exact Kd.R_mono HO174.out (fun _ hk => by first | exact ⟨hk.1.2, hk.2⟩ | exact trivial | (simp [hk]; done) | simp_all)) hg hat)
  have n3_ := YL (hb)
  have n4_ := YL (ho)
  clear BK155; clear HO168; clear HO174; clear HB; clear HO171; have BK155 := n0_; have HO168 := n1_; have HO174 := n2_; have HB := n3_; have HO177 := n4_; clear n0_ n1_ n2_ n3_ n4_; clear ho hb hg hat
  refine hK.out _ _ ⟨(YI BK155.out 0).trans rfl, (YI BK155.out 1).trans rfl, (YI BK155.out 2).trans rfl, (YI BK155.out 3).trans rfl, (YI BK155.out 4).trans rfl, (YI BK155.out 5).trans rfl⟩ (fun hHeld => ?_)
  clear hK K
  refine norm_ (a' := ?_) ?_ ?_
  rotate_left
  ·show Act.put _ (some 31) _ = _
   simp only [Act.put, YM, YN, YO, i64_w, i32_w]
   rfl
  refine one_ (i := 11) (N := some 34) #[true, true, true, true, true, true, true, true, true, true, true, true, false, false] rfl rfl (one_of HT_.out (by kernel_rfl)) (by decide) (fun K hK => ?_)
  refine goes_ Try.func70 (by kernel_rfl) rfl #[.int .i64 a0_4] (by rfl) rfl rfl (by (try simp only [YP, List.map_cons, List.map_nil]); first | done | rfl | (simp only [YR, YQ]; rfl)) ?_
  with_reducible refine (wire_Int.calls a0_4 t178 _ A18.out).mono ?_
  rintro e w35 ⟨v179, rfl, ho0, hb⟩
  refine ⟨_, rfl, ?_⟩
  have n0_ := YL (Kd.R_elder' (by (with_reducible repeat (first | apply YS | apply YT | apply YU)); exact HO168.out) (Kd.R_base ho0) hb)
  have n1_ := YL (Kd.R_elder' (by (with_reducible repeat (first | apply YS | apply YT | apply YU)); exact HO174.out) (Kd.R_base ho0) hb)
  have n2_ := YL (Kd.R_elder' (by (with_reducible repeat (first | apply YS | apply YT | apply YU)); exact HO177.out) (Kd.R_base ho0) hb)
  have n3_ := YL (Kd.R_lower (Kd.R_new' (Kd.R_new' (Kd.R_new' ho0 (Kd.R_lt (by (with_reducible repeat (first | apply YS | apply YT | apply YU)); exact HO168.out))) (Kd.R_lt (by (with_reducible repeat (first | apply YS | apply YT | apply YU)); exact HO174.out))) (Kd.R_lt (by (with_reducible repeat (first | apply YS | apply YT | apply YU)); exact HO177.out))) (YE (by repeat (first | (with_reducible first | exact HB.out | apply YA | apply YB | apply YC | refine below_set ?_ GE155.out) | exact HB.out))))
  have n4_ := YL (YK (g := gb155) (o := .cells #[.bool false, .int .i64 a0_1, .int .i64 a0_2, .int .i64 a0_3, .int .i64 a0_4, .int .i64 a0_5] 30 (0, 0)) (by (with_reducible repeat (first | refine YF ?_ _ | refine YG ?_ | refine YH ?_ _)); exact BK155.out) hb)
  have n5_ := YL (YD (by repeat (first | (with_reducible first | exact HB.out | apply YA | apply YB | apply YC | refine below_set ?_ GE155.out) | exact HB.out)) hb)
  clear HO168; clear HO174; clear HO177; clear BK155; clear HB; have HO168 := n0_; have HO174 := n1_; have HO177 := n2_; have HO180 := n3_; have BK155 := n4_; have HB := n5_; clear n0_ n1_ n2_ n3_ n4_ n5_; (try clear hb); (try clear hb2); (try clear hk); (try clear hi); (try clear ho0)
  obtain ⟨Ao37, co37, eo37⟩ := Kd.R_slice HO180.out
  (first | subst eo37 | (injection eo37 with f1_ f2_ f3_; have f4_ := f1_.symm; have f5_ := f3_.symm; clear f1_ f2_ f3_; subst f4_; subst f5_))
  refine hK.out _ _ ⟨(YI BK155.out 0).trans rfl, (YI BK155.out 1).trans rfl, (YI BK155.out 2).trans rfl, (YI BK155.out 3).trans rfl, (YI BK155.out 4).trans rfl, (YI BK155.out 5).trans rfl⟩ (fun hHeld => ?_)
  clear hK K
  refine norm_ (a' := ?_) ?_ ?_
  rotate_left
  ·show Act.put _ (some 34) _ = _
   simp only [Act.put, YM, YN, YO, i64_w, i32_w]
   rfl
  refine one_ (i := 12) (N := some 35) #[true, true, true, true, true, true, true, true, true, true, true, true, true, false] rfl rfl (one_of HT_.out (by kernel_rfl)) (by decide) (fun K hK => ?_)
  refine Kd.R_append_rows_step (Kd.int .u8) (w0 := w) w.heap.size (by rfl) (.tmp 31) (.tmp 34) 107 5 (.int .u8 0) 1 rfl Try.underlying107 info5 rfl (by decide) (by omega) v176 y175 t178 _ _ _ (fun k_ => some k_ ≠ (.slice Ao29 t166.length co29 : Value).ownBlock ∧ some k_ ≠ (.slice Ao34 y172.length co34 : Value).ownBlock ∧ some k_ ≠ (.slice Ao37 t178.length co37 : Value).ownBlock) (fun _ => False) rfl rfl ?aO ?aR (fun _ _ h => h) (fun _ h => h.elim) ?aF ?aB ?aS ?aL ?_
  (case aR => repeat (first | exact (Kd.R_reads' HO180.out).2.2 | (with_reducible refine Kd.C_alloc ?_ _) | (with_reducible refine Kd.C_drewN ?_ _) | (with_reducible refine Kd.C_drew ?_)))
  (case aB => exact (by repeat (first | (with_reducible first | exact HB.out | apply YA | apply YB | apply YC | refine below_set ?_ GE155.out) | exact HB.out)))
  (case aF => exact (fun k_ hk => ⟨Kd.fresh' (Kd.R_lt (by (with_reducible repeat (first | apply YS | apply YT | apply YU)); exact HO168.out)) k_ hk, Kd.fresh' (Kd.R_lt (by (with_reducible repeat (first | apply YS | apply YT | apply YU)); exact HO174.out)) k_ hk, Kd.fresh' (Kd.R_lt (by (with_reducible repeat (first | apply YS | apply YT | apply YU)); exact HO180.out)) k_ hk⟩))
  (case aO => exact (by (with_reducible repeat (first | apply YS | apply YT | apply YU)); exact Kd.R_mono HO177.out (fun _ hk => by first | exact ⟨hk.1.1, ⟨hk.1.2, hk.2⟩⟩ | exact trivial | (simp [hk]; done) | simp_all)))
  (case aS => exact (YE (by repeat (first | (with_reducible first | exact HB.out | apply YA | apply YB | apply YC | refine below_set ?_ GE155.out) | exact HB.out))))
  (case aL => have := LMc19.out; omega)
  intro v182 w36 ho hb hg hat
  rw [← Ny181.out] at ho
  have n0_ := YL (blk_grown (g := gb155) (o := .cells #[.bool false, .int .i64 a0_1, .int .i64 a0_2, .int .i64 a0_3, .int .i64 a0_4, .int .i64 a0_5] 30 (0, 0)) (by (with_reducible repeat (first | refine YF ?_ _ | refine YG ?_ | refine YH ?_ _)); exact BK155.out) hg (Kd.R_ne HO177.out BK155.out (by decide)))
  have n1_ := YL (Kd.R_after (ok := (fun k_ => some k_ ≠ (.slice Ao34 y172.length co34 : Value).ownBlock ∧ some k_ ≠ (.slice Ao37 t178.length co37 : Value).ownBlock)) (by (with_reducible repeat (first | apply YS | apply YT | apply YU)); exact Kd.R_mono HO168.out (fun _ hk => by first | exact ⟨⟨hk.1.1, hk.2⟩, hk.1.2⟩ | exact trivial | (simp [hk]; done) | simp_all)) hg hat)
  have n2_ := YL (Kd.R_after (ok := (fun k_ => some k_ ≠ (.slice Ao29 t166.length co29 : Value).ownBlock ∧ some k_ ≠ (.slice Ao37 t178.length co37 : Value).ownBlock)) (by (with_reducible repeat (first | apply YS | apply YT | apply YU)); exact Kd.R_mono HO174.out (fun _ hk => by first | exact ⟨⟨hk.1.1, hk.2⟩, hk.1.2⟩ | exact trivial | (simp [hk]; done) | simp_all)) hg hat)
  have n3_ := YL (Kd.R_after (ok := (fun k_ => some k_ ≠ (.slice Ao29 t166.length co29 : Value).ownBlock ∧ some k_ ≠ (.slice Ao34 y172.length co34 : Value).ownBlock)) (by (with_reducible repeat (first | apply YS | apply YT | apply YU)); exact Kd.R_mono HO180.out (fun _ hk => by first | exact ⟨⟨hk.1.1.2, hk.1.2⟩, hk.2⟩ | exact trivial | (simp [hk]; done) | simp_all)) hg hat)
  have n4_ := YL (hb)
  have n5_ := YL (ho)
  clear BK155; clear HO168; clear HO174; clear HO180; clear HB; clear HO177; have BK155 := n0_; have HO168 := n1_; have HO174 := n2_; have HO180 := n3_; have HB := n4_; have HO183 := n5_; clear n0_ n1_ n2_ n3_ n4_ n5_; clear ho hb hg hat
  refine hK.out _ _ ⟨(YI BK155.out 0).trans rfl, (YI BK155.out 1).trans rfl, (YI BK155.out 2).trans rfl, (YI BK155.out 3).trans rfl, (YI BK155.out 4).trans rfl, (YI BK155.out 5).trans rfl⟩ (fun hHeld => ?_)
  clear hK K
  refine norm_ (a' := ?_) ?_ ?_
  rotate_left
  ·show Act.put _ (some 35) _ = _
   simp only [Act.put, YM, YN, YO, i64_w, i32_w]
   rfl
  refine pure_ (i := 13) (N := some 5) (v := ?_) (a' := ?_) #[true, true, true, true, true, true, true, true, true, true, true, true, true, true] rfl rfl (any_of HT_.out (by kernel_rfl)) (fun _ _ _ h => h) (Or.inl ⟨by rfl, ?_⟩) ?_ ?_
  rotate_left
  ·intro w'
   go_simp; with_reducible rfl
  rotate_left
  ·simp only [Act.put, YM, YN, YO, i64_w, i32_w]
   rfl
  refine done_ (done_of HT_.out (by kernel_rfl)) ?_
  have q38_0 : w36.cell? ⟨gb155, 0, none⟩ = some (.bool false) := (YI BK155.out 0).trans rfl
  have q38_1 : w36.cell? ⟨gb155, 1, none⟩ = some (.int .i64 a0_1) := (YI BK155.out 1).trans rfl
  have q38_2 : w36.cell? ⟨gb155, 2, none⟩ = some (.int .i64 a0_2) := (YI BK155.out 2).trans rfl
  have q38_3 : w36.cell? ⟨gb155, 3, none⟩ = some (.int .i64 a0_3) := (YI BK155.out 3).trans rfl
  have q38_4 : w36.cell? ⟨gb155, 4, none⟩ = some (.int .i64 a0_4) := (YI BK155.out 4).trans rfl
  have q38_5 : w36.cell? ⟨gb155, 5, none⟩ = some (.int .i64 a0_5) := (YI BK155.out 5).trans rfl
  have f38_0 := YJ BK155.out 0
  have f38_1 := YJ BK155.out 1
  have f38_2 := YJ BK155.out 2
  have f38_3 := YJ BK155.out 3
  have f38_4 := YJ BK155.out 4
  have f38_5 := YJ BK155.out 5
  try go_wp2_with (first | ((with_reducible refine gate_builtin (b := .append) (xs := #[.tmp 36, .tmp 40]) rfl ?_); at_builtin; refine Kd.R_append (Kd.int .u8) (w0 := w) w.heap.size rfl (.tmp 36) (.tmp 40) 107 5 (.int .u8 0) 1 rfl Try.underlying107 info5 rfl (by decide) (by omega) v182 y181 ((a0_5) % 256) [.int .u8 ((a0_5) % 256)] (fun k_ => some k_ ≠ (.slice Ao29 t166.length co29 : Value).ownBlock ∧ some k_ ≠ (.slice Ao34 y172.length co34 : Value).ownBlock ∧ some k_ ≠ (.slice Ao37 t178.length co37 : Value).ownBlock) (fun _ => False) rfl rfl ?aP (fun _ hk => hk.elim) ?aF ?aO ?aB ?aS ?aL ?_; (case aP => exact rfl); (case aB => exact (by repeat (first | (with_reducible first | exact HB.out | apply YA | apply YB | apply YC | refine below_set ?_ GE155.out) | exact HB.out))); (case aF => exact (fun k_ hk => ⟨Kd.fresh' (Kd.R_lt (by (with_reducible repeat (first | apply YS | apply YT | apply YU)); exact HO168.out)) k_ hk, Kd.fresh' (Kd.R_lt (by (with_reducible repeat (first | apply YS | apply YT | apply YU)); exact HO174.out)) k_ hk, Kd.fresh' (Kd.R_lt (by (with_reducible repeat (first | apply YS | apply YT | apply YU)); exact HO180.out)) k_ hk⟩)); (case aO => exact (by (with_reducible repeat (first | apply YS | apply YT | apply YU)); exact HO183.out)); (case aS => exact (YE (by repeat (first | (with_reducible first | exact HB.out | apply YA | apply YB | apply YC | refine below_set ?_ GE155.out) | exact HB.out)))); (case aL => have := LMc20.out; omega); intro v185 w39 ho hb hg hat; rw [← Ny184.out] at ho; have n0_ := YL (blk_grown (g := gb155) (o := .cells #[.bool false, .int .i64 a0_1, .int .i64 a0_2, .int .i64 a0_3, .int .i64 a0_4, .int .i64 a0_5] 30 (0, 0)) (by (with_reducible repeat (first | refine YF ?_ _ | refine YG ?_ | refine YH ?_ _)); exact BK155.out) hg (Kd.R_ne HO183.out BK155.out (by decide))); have n1_ := YL (Kd.R_after (ok := (fun k_ => some k_ ≠ (.slice Ao34 y172.length co34 : Value).ownBlock ∧ some k_ ≠ (.slice Ao37 t178.length co37 : Value).ownBlock)) (by (with_reducible repeat (first | apply YS | apply YT | apply YU)); exact HO168.out) hg hat); have n2_ := YL (Kd.R_after (ok := (fun k_ => some k_ ≠ (.slice Ao29 t166.length co29 : Value).ownBlock ∧ some k_ ≠ (.slice Ao37 t178.length co37 : Value).ownBlock)) (by (with_reducible repeat (first | apply YS | apply YT | apply YU)); exact HO174.out) hg hat); have n3_ := YL (Kd.R_after (ok := (fun k_ => some k_ ≠ (.slice Ao29 t166.length co29 : Value).ownBlock ∧ some k_ ≠ (.slice Ao34 y172.length co34 : Value).ownBlock)) (by (with_reducible repeat (first | apply YS | apply YT | apply YU)); exact HO180.out) hg hat); have n4_ := YL (hb); have n5_ := YL (ho); clear BK155; clear HO168; clear HO174; clear HO180; clear HB; clear HO183; have BK155 := n0_; have HO168 := n1_; have HO174 := n2_; have HO180 := n3_; have HB := n4_; have HO186 := n5_; clear n0_ n1_ n2_ n3_ n4_ n5_; clear ho hb hg hat))
  go_ret2
  exact ⟨_, by first | rfl | (simp [errW_none, errW_some] <;> rfl) | (simp [*, errW_none, errW_some] <;> rfl), by (with_reducible repeat (first | apply YS | apply YT | apply YU)); exact Kd.R_mono HO186.out (fun _ hk => trivial), by repeat (first | (with_reducible first | exact HB.out | apply YA | apply YB | apply YC | refine below_set ?_ GE155.out) | exact HB.out)⟩
 rw [if_neg c3] at H
 have c3b0 : (t156 == 0) = false := beq_eq_false_iff_ne.mpr c3
 have c3b1 : (t156 != 0) = true := bne_iff_ne.mpr c3
 simp only [Option.some.injEq, Prod.mk.injEq] at H
 obtain ⟨rfl, rfl⟩ := H
 go_enter Try.func69, Try.ntmps69
 go_wp2_with (first | ((with_reducible refine gate_dst (N := 1) rfl ?_); refine box_event ?hg (N := 1) ?hd (cs := #[.bool a0_0, .int .i64 a0_1, .int .i64 a0_2, .int .i64 a0_3, .int .i64 a0_4, .int .i64 a0_5]) (t := 30) ?hr ?_; (case hd => rfl); (case hg => rfl); (case hr => first | (go_simp; done) | (go_simp; rfl)); intro gb155 hg w40 hbox hb; have n0_ := YL (YD (by repeat (first | (with_reducible first | exact HB.out | apply YA | apply YB | apply YC) | exact HB.out)) hb); have n1_ := YL (hbox); have n2_ := YL ((by rw [hg]; exact (YE (by repeat (first | (with_reducible first | exact HB.out | apply YA | apply YB | apply YC) | exact HB.out))) : w.heap.size ≤ gb155)); have n3_ := YL ((by rw [hg]; exact (YE (by repeat (first | (with_reducible first | exact HB.out | apply YA | apply YB | apply YC) | exact HB.out))) : w.heap.size ≤ gb155)); clear HB; have HB := n0_; have BK155 := n1_; have GW155 := n2_; have GE155 := n3_; clear n0_ n1_ n2_ n3_; clear hb hbox hg; have q41_0 : w40.cell? ⟨gb155, 0, none⟩ = some (.bool a0_0) := (YI BK155.out 0).trans rfl; have q41_1 : w40.cell? ⟨gb155, 1, none⟩ = some (.int .i64 a0_1) := (YI BK155.out 1).trans rfl; have q41_2 : w40.cell? ⟨gb155, 2, none⟩ = some (.int .i64 a0_2) := (YI BK155.out 2).trans rfl; have q41_3 : w40.cell? ⟨gb155, 3, none⟩ = some (.int .i64 a0_3) := (YI BK155.out 3).trans rfl; have q41_4 : w40.cell? ⟨gb155, 4, none⟩ = some (.int .i64 a0_4) := (YI BK155.out 4).trans rfl; have q41_5 : w40.cell? ⟨gb155, 5, none⟩ = some (.int .i64 a0_5) := (YI BK155.out 5).trans rfl; have f41_0 := YJ BK155.out 0; have f41_1 := YJ BK155.out 1; have f41_2 := YJ BK155.out 2; have f41_3 := YJ BK155.out 3; have f41_4 := YJ BK155.out 4; have f41_5 := YJ BK155.out 5) | ((with_reducible refine gate_callee (f := 48) rfl ?_); refine goesL_ (some 7) rfl rfl Try.func48 (by kernel_rfl) rfl #[.agg #[.bool a0_0, .int .i64 a0_1, .int .i64 a0_2, .int .i64 a0_3, .int .i64 a0_4, .int .i64 a0_5]] rfl (by (try simp only [YP, List.map_cons, List.map_nil]); first | done | rfl | (simp only [YR, YQ]; rfl)) ?_; (with_reducible refine (height_Check.calls k a0_0 a0_1 a0_2 a0_3 a0_4 a0_5 t156 _ A2.out).mono ?_); rintro e w42 ⟨rfl, hb⟩; refine ⟨_, rfl, ?_⟩; have n0_ := YL (YK (g := gb155) (o := .cells #[.bool a0_0, .int .i64 a0_1, .int .i64 a0_2, .int .i64 a0_3, .int .i64 a0_4, .int .i64 a0_5] 30 (0, 0)) (by (with_reducible repeat (first | refine YF ?_ _ | refine YG ?_ | refine YH ?_ _)); exact BK155.out) hb); have n1_ := YL (YD (by repeat (first | (with_reducible first | exact HB.out | apply YA | apply YB | apply YC | refine below_set ?_ GE155.out) | exact HB.out)) hb); clear BK155; clear HB; have BK155 := n0_; have HB := n1_; clear n0_ n1_; (try clear hb); (try clear hb2); (try clear hk); (try clear hi)))
 go_ret2
 exact ⟨_, by first | rfl | (simp [errW_none, errW_some] <;> rfl) | (simp [*, errW_none, errW_some] <;> rfl), by first | exact Kd.R_nil _ _ _ _ _ | exact Kd.N_nil _ _ _ _ _ | exact Kd.V_nil _ _ _ _ _ | exact Kd.Q_nil _ _ _ _ _ | exact Kd.S_nil _ _ _ _ _, by repeat (first | (with_reducible first | exact HB.out | apply YA | apply YB | apply YC | refine below_set ?_ GE155.out) | exact HB.out)⟩
end Go.Proofs.Ytclbempnhelmoaa.P
