/- Walks. -/
import Derived.Test.YtfigbjjaffkidaaXBatchBacka
import Derived.Test.YtfigbjjaffkidaaXBatchBackb
import Derived.Test.YtfigbjjaffkidaaXBatchBackc
set_option linter.unusedVariables false
set_option linter.unusedSimpArgs false
set_option maxHeartbeats 8000000
set_option maxRecDepth 100000
namespace Go.Proofs.Ytfigbjjaffkidaa.P
open Go.RowKit YtfigbjjaffkidaaW.PrintWords YtfigbjjaffkidaaW.PrintLast YtfigbjjaffkidaaW.PrintMore
attribute [local go_sem] max2_int min2_int max_two min_two max_three min_three max_four min_four
abbrev OP := Int × Int × Bool × Int × Int × Int × Int × Int × Int × Int × Int × Int × Int × Int
def opNo (e : Int) : OP := (0, 0, false, 0, 0, 0, 0, 0, 0, 0, 0, 0, 0, e)
def opFin (k d : Int) (n : Bool) (a b c_ dd i x y z m at_ e : Int) : OP :=
 if e = 0 then (if RO k d n a b c_ dd i x y z m then (k, d, n, a, b, c_, dd, i, x, y, z, m, at_, 0) else opNo 4) else opNo e
def opErr (k e : Int) : Int := if e = 0 then (if k < 1 ∨ 4 < k then 4 else 0) else e
def opSw (l : List Int) (k d p e : Int) : OP :=
 if k = 2 then
  let h := rdH l p e
  opFin k d h.1 h.2.1 h.2.2.1 h.2.2.2.1 h.2.2.2.2.1 h.2.2.2.2.2.1 0 0 0 0 h.2.2.2.2.2.2.1 h.2.2.2.2.2.2.2
 else if k = 3 then
  let x := rdN l 8 p e
  let y := rdN l 1 x.2.1 x.2.2
  let z := rdN l 1 y.2.1 y.2.2
  opFin k d false 0 0 0 0 0 x.1 y.1 z.1 0 z.2.1 z.2.2
 else if k = 4 then
  let h := rdH l p e
  let m := rdN l 2 h.2.2.2.2.2.2.1 h.2.2.2.2.2.2.2
  opFin k d h.1 h.2.1 h.2.2.1 h.2.2.2.1 h.2.2.2.2.1 h.2.2.2.2.2.1 0 0 0 m.1 m.2.1 m.2.2
 else opFin k d false 0 0 0 0 0 0 0 0 0 p e
def opGo (l : List Int) (a : Int) : OP :=
 let r := rdN l 1 a 0
 let d := rdN l 1 r.2.1 (opErr r.1 r.2.2)
 opSw l r.1 d.1 d.2.1 d.2.2
def object_Parse.f (l : List Int) (a : Int) : Option OP := if l.length ≤ 1000000000000 ∧ ∀ x ∈ l, 0 ≤ x ∧ x ≤ 255 then some (opGo l a) else none
structure OpSt (w0 w : World) (A : Option Addr) (n c g4 g8 gr : Nat) (at_ e : Int) (cs : Array Value) : Prop where
 b4 : w.heap[g4]? = some (.cells #[.int .i64 0, .int .i64 0, .bool false, .int .i64 0, .int .i64 0, .int .i64 0, .int .i64 0, .int .i64 0, .int .i64 0, .int .i64 0, .int .i64 0, .int .i64 0] 45 (0, 0))
 b8 : w.heap[g8]? = some (.cells cs 45 (0, 0))
 br : w.heap[gr]? = some (.cells (RdC A n c at_ e) 77 (0, 0))
 bl : Below w0.heap.size w0 w
 n4 : w0.heap.size ≤ g4
 n8 : w0.heap.size ≤ g8
 nr : w0.heap.size ≤ gr
 d48 : g4 ≠ g8
theorem OpSt.step {w0 w w' : World} {A : Option Addr} {n c g4 g8 gr : Nat} {at_ e : Int} {cs : Array Value} (h : OpSt w0 w A n c g4 g8 gr at_ e cs) {at2 e2 : Int} (hb : w'.heap[gr]? = some (.cells (RdC A n c at2 e2) 77 (0, 0))) (hg : w.grownBy w' (some gr)) : OpSt w0 w' A n c g4 g8 gr at2 e2 cs :=
 ⟨blk_grown h.b4 hg (fun e => blk_ne h.b4 h.br (by decide) (Option.some.inj e)), blk_grown h.b8 hg (fun e => blk_ne h.b8 h.br (by decide) (Option.some.inj e)), hb, pw_below_grown h.bl (some gr) (below_size h.bl) hg (fun k e => by cases e; exact h.nr), h.n4, h.n8, h.nr, h.d48⟩
theorem OpSt.below {w0 w w' : World} {A : Option Addr} {n c g4 g8 gr : Nat} {at_ e : Int} {cs : Array Value} (h : OpSt w0 w A n c g4 g8 gr at_ e cs) (hb : Below w.heap.size w w') : OpSt w0 w' A n c g4 g8 gr at_ e cs :=
 ⟨blk_below h.b4 hb, blk_below h.b8 hb, blk_below h.br hb, below_step h.bl hb, h.n4, h.n8, h.nr, h.d48⟩
theorem OpSt.put {w0 w : World} {A : Option Addr} {n c g4 g8 gr : Nat} {at_ e : Int} {cs cs2 : Array Value} (h : OpSt w0 w A n c g4 g8 gr at_ e cs) (i : Nat) (u : Value) (hs : cs.setIfInBounds i u = cs2) : OpSt w0 (w.setCell ⟨g8, i, none⟩ u) A n c g4 g8 gr at_ e cs2 :=
 ⟨blk_far h.b4 h.d48 _, blk_put h.b8 i _ hs, blk_far h.br (blk_ne h.br h.b8 (by decide)) _, below_set h.bl h.n8, h.n4, h.n8, h.nr, h.d48⟩
theorem OpSt.put12 {w0 w : World} {A : Option Addr} {n c g4 g8 gr : Nat} {at_ e : Int} {a0 a1 a2 a3 a4 a5 a6 a7 a8 a9 a10 a11 : Value} (h : OpSt w0 w A n c g4 g8 gr at_ e #[a0, a1, a2, a3, a4, a5, a6, a7, a8, a9, a10, a11]) (v0 v1 v2 v3 v4 v5 v6 v7 v8 v9 v10 v11 : Value) : OpSt w0 ((((((((((((w.setCell ⟨g8, 0, none⟩ v0).setCell ⟨g8, 1, none⟩ v1).setCell ⟨g8, 2, none⟩ v2).setCell ⟨g8, 3, none⟩ v3).setCell ⟨g8, 4, none⟩ v4).setCell ⟨g8, 5, none⟩ v5).setCell ⟨g8, 6, none⟩ v6).setCell ⟨g8, 7, none⟩ v7).setCell ⟨g8, 8, none⟩ v8).setCell ⟨g8, 9, none⟩ v9).setCell ⟨g8, 10, none⟩ v10).setCell ⟨g8, 11, none⟩ v11) A n c g4 g8 gr at_ e #[v0, v1, v2, v3, v4, v5, v6, v7, v8, v9, v10, v11] :=
 (OpSt.put (OpSt.put (OpSt.put (OpSt.put (OpSt.put (OpSt.put (OpSt.put (OpSt.put (OpSt.put (OpSt.put (OpSt.put (OpSt.put h 0 v0 (cs2 := #[v0, a1, a2, a3, a4, a5, a6, a7, a8, a9, a10, a11]) rfl) 1 v1 (cs2 := #[v0, v1, a2, a3, a4, a5, a6, a7, a8, a9, a10, a11]) rfl) 2 v2 (cs2 := #[v0, v1, v2, a3, a4, a5, a6, a7, a8, a9, a10, a11]) rfl) 3 v3 (cs2 := #[v0, v1, v2, v3, a4, a5, a6, a7, a8, a9, a10, a11]) rfl) 4 v4 (cs2 := #[v0, v1, v2, v3, v4, a5, a6, a7, a8, a9, a10, a11]) rfl) 5 v5 (cs2 := #[v0, v1, v2, v3, v4, v5, a6, a7, a8, a9, a10, a11]) rfl) 6 v6 (cs2 := #[v0, v1, v2, v3, v4, v5, v6, a7, a8, a9, a10, a11]) rfl) 7 v7 (cs2 := #[v0, v1, v2, v3, v4, v5, v6, v7, a8, a9, a10, a11]) rfl) 8 v8 (cs2 := #[v0, v1, v2, v3, v4, v5, v6, v7, v8, a9, a10, a11]) rfl) 9 v9 (cs2 := #[v0, v1, v2, v3, v4, v5, v6, v7, v8, v9, a10, a11]) rfl) 10 v10 (cs2 := #[v0, v1, v2, v3, v4, v5, v6, v7, v8, v9, v10, a11]) rfl) 11 v11 (cs2 := #[v0, v1, v2, v3, v4, v5, v6, v7, v8, v9, v10, v11]) rfl)
theorem blk_put12 {w : World} {g : Nat} {t : TypeId} {a0 a1 a2 a3 a4 a5 a6 a7 a8 a9 a10 a11 : Value} (h : w.heap[g]? = some (.cells #[a0, a1, a2, a3, a4, a5, a6, a7, a8, a9, a10, a11] t (0, 0))) (v0 v1 v2 v3 v4 v5 v6 v7 v8 v9 v10 v11 : Value) : ((((((((((((w.setCell ⟨g, 0, none⟩ v0).setCell ⟨g, 1, none⟩ v1).setCell ⟨g, 2, none⟩ v2).setCell ⟨g, 3, none⟩ v3).setCell ⟨g, 4, none⟩ v4).setCell ⟨g, 5, none⟩ v5).setCell ⟨g, 6, none⟩ v6).setCell ⟨g, 7, none⟩ v7).setCell ⟨g, 8, none⟩ v8).setCell ⟨g, 9, none⟩ v9).setCell ⟨g, 10, none⟩ v10).setCell ⟨g, 11, none⟩ v11).heap[g]? = some (.cells #[v0, v1, v2, v3, v4, v5, v6, v7, v8, v9, v10, v11] t (0, 0)) :=
 (blk_put (blk_put (blk_put (blk_put (blk_put (blk_put (blk_put (blk_put (blk_put (blk_put (blk_put (blk_put h 0 v0 (cs' := #[v0, a1, a2, a3, a4, a5, a6, a7, a8, a9, a10, a11]) rfl) 1 v1 (cs' := #[v0, v1, a2, a3, a4, a5, a6, a7, a8, a9, a10, a11]) rfl) 2 v2 (cs' := #[v0, v1, v2, a3, a4, a5, a6, a7, a8, a9, a10, a11]) rfl) 3 v3 (cs' := #[v0, v1, v2, v3, a4, a5, a6, a7, a8, a9, a10, a11]) rfl) 4 v4 (cs' := #[v0, v1, v2, v3, v4, a5, a6, a7, a8, a9, a10, a11]) rfl) 5 v5 (cs' := #[v0, v1, v2, v3, v4, v5, a6, a7, a8, a9, a10, a11]) rfl) 6 v6 (cs' := #[v0, v1, v2, v3, v4, v5, v6, a7, a8, a9, a10, a11]) rfl) 7 v7 (cs' := #[v0, v1, v2, v3, v4, v5, v6, v7, a8, a9, a10, a11]) rfl) 8 v8 (cs' := #[v0, v1, v2, v3, v4, v5, v6, v7, v8, a9, a10, a11]) rfl) 9 v9 (cs' := #[v0, v1, v2, v3, v4, v5, v6, v7, v8, v9, a10, a11]) rfl) 10 v10 (cs' := #[v0, v1, v2, v3, v4, v5, v6, v7, v8, v9, v10, a11]) rfl) 11 v11 (cs' := #[v0, v1, v2, v3, v4, v5, v6, v7, v8, v9, v10, v11]) rfl)
theorem below_set12 {g : Nat} {w0 w : World} {v0 v1 v2 v3 v4 v5 v6 v7 v8 v9 v10 v11 : Value} (h : Below w0.heap.size w0 w) (hg : w0.heap.size ≤ g) : Below w0.heap.size w0 ((((((((((((w.setCell ⟨g, 0, none⟩ v0).setCell ⟨g, 1, none⟩ v1).setCell ⟨g, 2, none⟩ v2).setCell ⟨g, 3, none⟩ v3).setCell ⟨g, 4, none⟩ v4).setCell ⟨g, 5, none⟩ v5).setCell ⟨g, 6, none⟩ v6).setCell ⟨g, 7, none⟩ v7).setCell ⟨g, 8, none⟩ v8).setCell ⟨g, 9, none⟩ v9).setCell ⟨g, 10, none⟩ v10).setCell ⟨g, 11, none⟩ v11) :=
 (below_set (below_set (below_set (below_set (below_set (below_set (below_set (below_set (below_set (below_set (below_set (below_set h hg) hg) hg) hg) hg) hg) hg) hg) hg) hg) hg) hg)
theorem OpSt.err {w0 w : World} {A : Option Addr} {n c g4 g8 gr : Nat} {at_ e : Int} {cs : Array Value} (h : OpSt w0 w A n c g4 g8 gr at_ e cs) (e2 : Int) : OpSt w0 (w.setCell ⟨gr, 2, none⟩ (.int .i64 e2)) A n c g4 g8 gr at_ e2 cs :=
 ⟨blk_far h.b4 (blk_ne h.b4 h.br (by decide)) _, blk_far h.b8 (blk_ne h.b8 h.br (by decide)) _, blk_put h.br 2 _ rfl, below_set h.bl h.nr, h.n4, h.n8, h.nr, h.d48⟩
theorem OpSt.drew {w0 w : World} {A : Option Addr} {n c g4 g8 gr : Nat} {at_ e : Int} {cs : Array Value} (h : OpSt w0 w A n c g4 g8 gr at_ e cs) : OpSt w0 w.drew A n c g4 g8 gr at_ e cs :=
 ⟨h.b4, h.b8, h.br, below_drew h.bl, h.n4, h.n8, h.nr, h.d48⟩
def object_Parse.T19 : Bool × List (List Nat × List Nat) := (true, [([], []), ([], []), ([1], [1]), ([2], [2]), ([3], [3]), ([0, 0], [0]), ([5, 0, 5], []), ([4, 6, 0, 1, 2, 3, 4, 5, 6], [4])])
def object_Parse.B19 : List Nat := [0, 0, 2, 6, 14, 1, 33, 127]
theorem object_Parse.tab19 : rtab .any (opsOf Try.f33 19) = object_Parse.T19 := by kernel_rfl
theorem object_Parse.bits19 : waitsOk object_Parse.T19.2 object_Parse.B19 = true := by kernel_rfl
def object_Parse.T20 : Bool × List (List Nat × List Nat) := (true, [([], []), ([], []), ([1], [1]), ([2], [2]), ([3], [3]), ([0, 0], [0]), ([4, 5, 0, 1, 2, 3, 4, 5], [4]), ([6, 0, 1, 2, 3, 4, 5, 6], [])])
def object_Parse.B20 : List Nat := [0, 0, 2, 6, 14, 1, 63, 127]
theorem object_Parse.tab20 : rtab .any (opsOf Try.f33 20) = object_Parse.T20 := by kernel_rfl
theorem object_Parse.bits20 : waitsOk object_Parse.T20.2 object_Parse.B20 = true := by kernel_rfl
theorem op_bad (A0 : Option Addr) (c0 : Nat) (l0 : List Int) (a1 : Int) (w : World) (k p1 e1 d p2 e2 : Int) (HL : l0.length ≤ 1000000000000) (HY : Bytes l0) (HR0 : Kd.C (Kd.int .u8) w A0 l0.length l0) (HC0 : l0.length ≤ c0) (HG1 : rdN l0 1 a1 0 = (k, p1, e1)) (hk : k = 0) (he : ¬ e1 = 0) (HG2 : rdN l0 1 p1 e1 = (d, p2, e2)) (hf : ¬ e2 = 0) :
  Calls Try.prog 33 #[.slice A0 l0.length c0, .int .i64 a1] w fun e w' => e = .returned (.tuple #[.agg #[.int .i64 0, .int .i64 0, .bool false, .int .i64 0, .int .i64 0, .int .i64 0, .int .i64 0, .int .i64 0, .int .i64 0, .int .i64 0, .int .i64 0, .int .i64 0], .int .i64 0, .int .i64 e2]) ∧ Below w.heap.size w w' := by
 have hu27 := Try.underlying45
 have hu25 := Try.underlying43
 have hu23 := Try.underlying41
 have hu51 := Try.underlying77
 replace HL := Aside0.mk HL
 replace HY := Aside0.mk HY
 replace HR0 := Aside0.mk HR0
 replace HC0 := Aside0.mk HC0
 replace HG1 := Aside0.mk HG1
 replace HG2 := Aside0.mk HG2
 subst hk
 have b1 : (e1 == 0) = false := beq_eq_false_iff_ne.mpr he
 clear he
 have b8 : (e2 == 0) = false := beq_eq_false_iff_ne.mpr hf
 have b9 : (e2 != 0) = true := bne_iff_ne.mpr hf
 clear hf
 go_enter Try.func33, Try.ntmps33
 go_upto_region 3 with (first
  | ((with_reducible refine gate_dst (N := 4) rfl ?_); refine box_event ?hg (N := 4) ?hd (cs := #[.int .i64 0, .int .i64 0, .bool false, .int .i64 0, .int .i64 0, .int .i64 0, .int .i64 0, .int .i64 0, .int .i64 0, .int .i64 0, .int .i64 0, .int .i64 0]) (t := 45) ?hr ?_; (case hd => rfl); (case hg => rfl); (case hr => first | (go_simp; done) | (go_simp; rfl)); intro g4 hg w4 hbox hb; have HB4 := Aside0.mk hb; have G4 := Aside0.mk (Nat.le_of_eq hg.symm); have B4 := Aside0.mk hbox; clear hb hbox hg)
  | ((with_reducible refine gate_dst (N := 12) rfl ?_); refine box_event ?hg (N := 12) ?hd (cs := RdC A0 l0.length c0 a1 0) (t := 77) ?hr ?_; (case hd => rfl); (case hg => rfl); (case hr => first | (go_simp; done) | (go_simp; rfl)); intro gr hg w5 hbox hb; have HB5 := Aside0.mk (below_step HB4.out hb); have GR := Aside0.mk (show w.heap.size ≤ gr by rw [hg]; exact below_size HB4.out); have B45 := Aside0.mk (blk_below B4.out hb); have BR := Aside0.mk hbox; clear hb hbox hg HB4 B4)
  | ((with_reducible refine gate_dst (N := 14) rfl ?_); refine goesA (some 14) Try.func42 #[.pointer (some ⟨gr, 0, none⟩), .int .i64 1] ?_; (with_reducible refine (or_number gr A0 c0 l0 a1 0 1 _ _ _ _ HG1.out HY.out HL.out (Kd.C_below HR0.out HB5.out) HC0.out BR.out).mono ?_); rintro x_ w14 ⟨rfl, hbx, hgr⟩; refine ⟨_, rfl, ?_⟩; have HB6 := Aside0.mk (pw_below_grown HB5.out (some gr) (below_size HB5.out) hgr (fun k_ e_ => by cases e_; exact GR.out)); have B46 := Aside0.mk (blk_grown B45.out hgr (fun e_ => blk_ne B45.out BR.out (by decide) (Option.some.inj e_))); have BR6 := Aside0.mk hbx; clear hbx hgr HB5 B45 BR)
  | ((with_reducible refine gate_dst (N := 8) rfl ?_); refine box_event ?hg (N := 8) ?hd (cs := #[.int .i64 0, .int .i64 0, .bool false, .int .i64 0, .int .i64 0, .int .i64 0, .int .i64 0, .int .i64 0, .int .i64 0, .int .i64 0, .int .i64 0, .int .i64 0]) (t := 45) ?hr ?_; (case hd => rfl); (case hg => rfl); (case hr => first | (go_simp; done) | (go_simp; rfl)); intro g8 hg w7 hbox hb; have ST0 := Aside0.mk (OpSt.mk (blk_below B46.out hb) hbox (blk_below BR6.out hb) (below_step HB6.out hb) G4.out (by rw [hg]; exact below_size HB6.out) GR.out (by rw [hg]; exact Nat.ne_of_lt (blk_lt B46.out))); clear hb hbox hg; obtain ⟨⟨u0, u1, u2, u3, u4, u5, u6, u7, u8, u9, u10, u11⟩, uf0, uf1, uf2, uf3, uf4, uf5, uf6, uf7, uf8, uf9, uf10, uf11⟩ := cells12 ST0.out.b8))
 have STn := Aside0.mk ((OpSt.put12 ST0.out (.int .i64 0) (.int .i64 0) (.bool false) (.int .i64 0) (.int .i64 0) (.int .i64 0) (.int .i64 0) (.int .i64 0) (.int .i64 0) (.int .i64 0) (.int .i64 0) (.int .i64 0)))
 clear ST0
 have ST := STn
 clear STn
 generalize ((((((((((((w7.setCell ⟨g8, 0, none⟩ (.int .i64 0)).setCell ⟨g8, 1, none⟩ (.int .i64 0)).setCell ⟨g8, 2, none⟩ (.bool false)).setCell ⟨g8, 3, none⟩ (.int .i64 0)).setCell ⟨g8, 4, none⟩ (.int .i64 0)).setCell ⟨g8, 5, none⟩ (.int .i64 0)).setCell ⟨g8, 6, none⟩ (.int .i64 0)).setCell ⟨g8, 7, none⟩ (.int .i64 0)).setCell ⟨g8, 8, none⟩ (.int .i64 0)).setCell ⟨g8, 9, none⟩ (.int .i64 0)).setCell ⟨g8, 10, none⟩ (.int .i64 0)).setCell ⟨g8, 11, none⟩ (.int .i64 0)) = wq1 at ST ⊢
 clear u0 uf0 u1 uf1 u2 uf2 u3 uf3 u4 uf4 u5 uf5 u6 uf6 u7 uf7 u8 uf8 u9 uf9 u10 uf10 u11 uf11
 obtain ⟨⟨va0, va1, va2⟩, vaf0, vaf1, vaf2⟩ := cells3 ST.out.br
 obtain ⟨⟨ya0, ya1, ya2, ya3, ya4, ya5, ya6, ya7, ya8, ya9, ya10, ya11⟩, yaf0, yaf1, yaf2, yaf3, yaf4, yaf5, yaf6, yaf7, yaf8, yaf9, yaf10, yaf11⟩ := cells12 ST.out.b8
 go_upto_region 6 with (((with_reducible refine gate_dst (N := 35) rfl ?_); refine goesA (some 35) Try.func42 #[.pointer (some ⟨gr, 0, none⟩), .int .i64 1] ?_; (with_reducible refine (or_number gr A0 c0 l0 _ _ 1 _ _ _ _ HG2.out HY.out HL.out (Kd.C_below HR0.out ST.out.bl) HC0.out ST.out.br).mono ?_); rintro x_ w35 ⟨rfl, hbx, hgr⟩; refine ⟨_, rfl, ?_⟩; have STn := Aside0.mk (ST.out.step hbx hgr); clear ST hbx hgr; have ST := STn; clear STn; obtain ⟨⟨x0, x1, x2, x3, x4, x5, x6, x7, x8, x9, x10, x11⟩, xf0, xf1, xf2, xf3, xf4, xf5, xf6, xf7, xf8, xf9, xf10, xf11⟩ := cells12 ST.out.b8))
 clear va0 vaf0 va1 vaf1 va2 vaf2 ya0 yaf0 ya1 yaf1 ya2 yaf2 ya3 yaf3 ya4 yaf4 ya5 yaf5 ya6 yaf6 ya7 yaf7 ya8 yaf8 ya9 yaf9 ya10 yaf10 ya11 yaf11
 clear x0 xf0 x1 xf1 x2 xf2 x3 xf3 x4 xf4 x5 xf5 x6 xf6 x7 xf7 x8 xf8 x9 xf9 x10 xf10 x11 xf11
 have STn := Aside0.mk ((OpSt.put ST.out 1 (.int .i64 d) (cs2 := #[.int .i64 0, .int .i64 d, .bool false, .int .i64 0, .int .i64 0, .int .i64 0, .int .i64 0, .int .i64 0, .int .i64 0, .int .i64 0, .int .i64 0, .int .i64 0]) rfl))
 clear ST
 have ST := STn
 clear STn
 generalize (w35.setCell ⟨g8, 1, none⟩ (.int .i64 d)) = wq2 at ST ⊢
 obtain ⟨⟨vc0, vc1, vc2⟩, vcf0, vcf1, vcf2⟩ := cells3 ST.out.br
 obtain ⟨⟨yc0, yc1, yc2, yc3, yc4, yc5, yc6, yc7, yc8, yc9, yc10, yc11⟩, ycf0, ycf1, ycf2, ycf3, ycf4, ycf5, ycf6, ycf7, ycf8, ycf9, ycf10, ycf11⟩ := cells12 ST.out.b8
 go_upto_region 19 with (fail)
 clear vc0 vcf0 vc1 vcf1 vc2 vcf2 yc0 ycf0 yc1 ycf1 yc2 ycf2 yc3 ycf3 yc4 ycf4 yc5 ycf5 yc6 ycf6 yc7 ycf7 yc8 ycf8 yc9 ycf9 yc10 ycf10 yc11 ycf11
 have STd := Aside0.mk (OpSt.drew ST.out)
 clear ST
 have ST := STd
 clear STd
 refine start_ (n := 8) (S := fun w' => w'.cell? ⟨gr, 2, none⟩ = some (.int .i64 e2)) (ds := []) #[false, false, false, false, false, false, false, false] (by kernel_rfl) rfl rfl ((blk_cell ST.out.br 2).trans rfl) (fun hHeld => ?_); refine with_tabW object_Parse.tab19 object_Parse.bits19 (fun HT_ HW_ => ?_)
 generalize wq2.drew = wd at ST hHeld ⊢
 obtain ⟨⟨o0, o1, o2, o3, o4, o5, o6, o7, o8, o9, o10, o11⟩, of0, of1, of2, of3, of4, of5, of6, of7, of8, of9, of10, of11⟩ := cells12 ST.out.b4
 have n94 : g8 ≠ g4 := ST.out.d48.symm
 have nr4 : gr ≠ g4 := (blk_ne ST.out.br ST.out.b4 (by decide))
 refine pureA (i := 0) (N := some 84) HT_ ?_
 refine pureA (i := 1) (N := some 85) HT_ ?_
 refine pureA (i := 2) (N := some 86) HT_ ?_
 refine pureA (i := 3) (N := some 87) HT_ ?_
 refine takeA (i := 4) (N := some 88) HT_ HW_ hHeld ?_
 refine oneA (i := 5) (N := none) HT_ (fun K hK => ?_)
 refine skip_ (w1 := ?_) (by rfl) rfl ?_ ?_
 rotate_left
 ·go_simp
  rfl
 refine hK.out _ _ ?_ (fun hHeld2 => ?_)
 ·(repeat (first | refine (cell_far n94 _).trans ?_ | refine (cell_far nr4 _).trans ?_)); exact hHeld
 clear hHeld
 have hHeld := hHeld2
 clear hHeld2
 clear hK K
 refine pureA (i := 6) (N := some 5) HT_ ?_
 refine pureA (i := 7) (N := some 6) HT_ ?_
 refine done_ (done_of HT_.out (by kernel_rfl)) ?_
 clear HT_ HW_
 try go_wp2
 refine bodyPost_ret (results_ctt rfl _ _ g4 45 #[.int .i64 0, .int .i64 0, .bool false, .int .i64 0, .int .i64 0, .int .i64 0, .int .i64 0, .int .i64 0, .int .i64 0, .int .i64 0, .int .i64 0, .int .i64 0] (0, 0) _ rfl (blk_put12 ST.out.b4 (.int .i64 0) (.int .i64 0) (.bool false) (.int .i64 0) (.int .i64 0) (.int .i64 0) (.int .i64 0) (.int .i64 0) (.int .i64 0) (.int .i64 0) (.int .i64 0) (.int .i64 0)) Try.underlying45 rfl (by kernel_rfl)) rfl ?_
 exact ⟨rfl, (below_set12 ST.out.bl ST.out.n4)⟩
theorem op_lo (A0 : Option Addr) (c0 : Nat) (l0 : List Int) (a1 : Int) (w : World) (k p1 e1 d p2 e2 : Int) (HL : l0.length ≤ 1000000000000) (HY : Bytes l0) (HR0 : Kd.C (Kd.int .u8) w A0 l0.length l0) (HC0 : l0.length ≤ c0) (HG1 : rdN l0 1 a1 0 = (k, p1, e1)) (he : e1 = 0) (hk : k < 1) (HG2 : rdN l0 1 p1 4 = (d, p2, e2)) (hf : ¬ e2 = 0) :
  Calls Try.prog 33 #[.slice A0 l0.length c0, .int .i64 a1] w fun e w' => e = .returned (.tuple #[.agg #[.int .i64 0, .int .i64 0, .bool false, .int .i64 0, .int .i64 0, .int .i64 0, .int .i64 0, .int .i64 0, .int .i64 0, .int .i64 0, .int .i64 0, .int .i64 0], .int .i64 0, .int .i64 e2]) ∧ Below w.heap.size w w' := by
 have hu27 := Try.underlying45
 have hu25 := Try.underlying43
 have hu23 := Try.underlying41
 have hu51 := Try.underlying77
 replace HL := Aside0.mk HL
 replace HY := Aside0.mk HY
 replace HR0 := Aside0.mk HR0
 replace HC0 := Aside0.mk HC0
 replace HG1 := Aside0.mk HG1
 replace HG2 := Aside0.mk HG2
 subst he
 have b1 : decide (k < 1) = true := decide_eq_true hk
 have b2 : decide (4 < k) = false := decide_eq_false (by omega)
 have b3 : (k == 2) = false := beq_eq_false_iff_ne.mpr (by omega)
 have b4 : (k == 3) = false := beq_eq_false_iff_ne.mpr (by omega)
 have b5 : (k == 4) = false := beq_eq_false_iff_ne.mpr (by omega)
 clear hk
 have b8 : (e2 == 0) = false := beq_eq_false_iff_ne.mpr hf
 have b9 : (e2 != 0) = true := bne_iff_ne.mpr hf
 clear hf
 go_enter Try.func33, Try.ntmps33
 go_upto_region 3 with (first
  | ((with_reducible refine gate_dst (N := 4) rfl ?_); refine box_event ?hg (N := 4) ?hd (cs := #[.int .i64 0, .int .i64 0, .bool false, .int .i64 0, .int .i64 0, .int .i64 0, .int .i64 0, .int .i64 0, .int .i64 0, .int .i64 0, .int .i64 0, .int .i64 0]) (t := 45) ?hr ?_; (case hd => rfl); (case hg => rfl); (case hr => first | (go_simp; done) | (go_simp; rfl)); intro g4 hg w4 hbox hb; have HB4 := Aside0.mk hb; have G4 := Aside0.mk (Nat.le_of_eq hg.symm); have B4 := Aside0.mk hbox; clear hb hbox hg)
  | ((with_reducible refine gate_dst (N := 12) rfl ?_); refine box_event ?hg (N := 12) ?hd (cs := RdC A0 l0.length c0 a1 0) (t := 77) ?hr ?_; (case hd => rfl); (case hg => rfl); (case hr => first | (go_simp; done) | (go_simp; rfl)); intro gr hg w5 hbox hb; have HB5 := Aside0.mk (below_step HB4.out hb); have GR := Aside0.mk (show w.heap.size ≤ gr by rw [hg]; exact below_size HB4.out); have B45 := Aside0.mk (blk_below B4.out hb); have BR := Aside0.mk hbox; clear hb hbox hg HB4 B4)
  | ((with_reducible refine gate_dst (N := 14) rfl ?_); refine goesA (some 14) Try.func42 #[.pointer (some ⟨gr, 0, none⟩), .int .i64 1] ?_; (with_reducible refine (or_number gr A0 c0 l0 a1 0 1 _ _ _ _ HG1.out HY.out HL.out (Kd.C_below HR0.out HB5.out) HC0.out BR.out).mono ?_); rintro x_ w14 ⟨rfl, hbx, hgr⟩; refine ⟨_, rfl, ?_⟩; have HB6 := Aside0.mk (pw_below_grown HB5.out (some gr) (below_size HB5.out) hgr (fun k_ e_ => by cases e_; exact GR.out)); have B46 := Aside0.mk (blk_grown B45.out hgr (fun e_ => blk_ne B45.out BR.out (by decide) (Option.some.inj e_))); have BR6 := Aside0.mk hbx; clear hbx hgr HB5 B45 BR)
  | ((with_reducible refine gate_dst (N := 8) rfl ?_); refine box_event ?hg (N := 8) ?hd (cs := #[.int .i64 0, .int .i64 0, .bool false, .int .i64 0, .int .i64 0, .int .i64 0, .int .i64 0, .int .i64 0, .int .i64 0, .int .i64 0, .int .i64 0, .int .i64 0]) (t := 45) ?hr ?_; (case hd => rfl); (case hg => rfl); (case hr => first | (go_simp; done) | (go_simp; rfl)); intro g8 hg w7 hbox hb; have ST0 := Aside0.mk (OpSt.mk (blk_below B46.out hb) hbox (blk_below BR6.out hb) (below_step HB6.out hb) G4.out (by rw [hg]; exact below_size HB6.out) GR.out (by rw [hg]; exact Nat.ne_of_lt (blk_lt B46.out))); clear hb hbox hg; obtain ⟨⟨u0, u1, u2, u3, u4, u5, u6, u7, u8, u9, u10, u11⟩, uf0, uf1, uf2, uf3, uf4, uf5, uf6, uf7, uf8, uf9, uf10, uf11⟩ := cells12 ST0.out.b8))
 have STn := Aside0.mk ((OpSt.put12 ST0.out (.int .i64 k) (.int .i64 0) (.bool false) (.int .i64 0) (.int .i64 0) (.int .i64 0) (.int .i64 0) (.int .i64 0) (.int .i64 0) (.int .i64 0) (.int .i64 0) (.int .i64 0)))
 clear ST0
 have ST := STn
 clear STn
 generalize ((((((((((((w7.setCell ⟨g8, 0, none⟩ (.int .i64 k)).setCell ⟨g8, 1, none⟩ (.int .i64 0)).setCell ⟨g8, 2, none⟩ (.bool false)).setCell ⟨g8, 3, none⟩ (.int .i64 0)).setCell ⟨g8, 4, none⟩ (.int .i64 0)).setCell ⟨g8, 5, none⟩ (.int .i64 0)).setCell ⟨g8, 6, none⟩ (.int .i64 0)).setCell ⟨g8, 7, none⟩ (.int .i64 0)).setCell ⟨g8, 8, none⟩ (.int .i64 0)).setCell ⟨g8, 9, none⟩ (.int .i64 0)).setCell ⟨g8, 10, none⟩ (.int .i64 0)).setCell ⟨g8, 11, none⟩ (.int .i64 0)) = wq1 at ST ⊢
 clear u0 uf0 u1 uf1 u2 uf2 u3 uf3 u4 uf4 u5 uf5 u6 uf6 u7 uf7 u8 uf8 u9 uf9 u10 uf10 u11 uf11
 obtain ⟨⟨va0, va1, va2⟩, vaf0, vaf1, vaf2⟩ := cells3 ST.out.br
 obtain ⟨⟨ya0, ya1, ya2, ya3, ya4, ya5, ya6, ya7, ya8, ya9, ya10, ya11⟩, yaf0, yaf1, yaf2, yaf3, yaf4, yaf5, yaf6, yaf7, yaf8, yaf9, yaf10, yaf11⟩ := cells12 ST.out.b8
 go_upto_region 5 with (fail)
 clear va0 vaf0 va1 vaf1 va2 vaf2 ya0 yaf0 ya1 yaf1 ya2 yaf2 ya3 yaf3 ya4 yaf4 ya5 yaf5 ya6 yaf6 ya7 yaf7 ya8 yaf8 ya9 yaf9 ya10 yaf10 ya11 yaf11
 have STn := Aside0.mk ((OpSt.err ST.out 4))
 clear ST
 have ST := STn
 clear STn
 generalize (wq1.setCell ⟨gr, 2, none⟩ (.int .i64 4)) = wq2 at ST ⊢
 obtain ⟨⟨yb0, yb1, yb2, yb3, yb4, yb5, yb6, yb7, yb8, yb9, yb10, yb11⟩, ybf0, ybf1, ybf2, ybf3, ybf4, ybf5, ybf6, ybf7, ybf8, ybf9, ybf10, ybf11⟩ := cells12 ST.out.b8
 go_upto_region 6 with (((with_reducible refine gate_dst (N := 35) rfl ?_); refine goesA (some 35) Try.func42 #[.pointer (some ⟨gr, 0, none⟩), .int .i64 1] ?_; (with_reducible refine (or_number gr A0 c0 l0 _ _ 1 _ _ _ _ HG2.out HY.out HL.out (Kd.C_below HR0.out ST.out.bl) HC0.out ST.out.br).mono ?_); rintro x_ w35 ⟨rfl, hbx, hgr⟩; refine ⟨_, rfl, ?_⟩; have STn := Aside0.mk (ST.out.step hbx hgr); clear ST hbx hgr; have ST := STn; clear STn; obtain ⟨⟨x0, x1, x2, x3, x4, x5, x6, x7, x8, x9, x10, x11⟩, xf0, xf1, xf2, xf3, xf4, xf5, xf6, xf7, xf8, xf9, xf10, xf11⟩ := cells12 ST.out.b8))
 clear yb0 ybf0 yb1 ybf1 yb2 ybf2 yb3 ybf3 yb4 ybf4 yb5 ybf5 yb6 ybf6 yb7 ybf7 yb8 ybf8 yb9 ybf9 yb10 ybf10 yb11 ybf11
 clear x0 xf0 x1 xf1 x2 xf2 x3 xf3 x4 xf4 x5 xf5 x6 xf6 x7 xf7 x8 xf8 x9 xf9 x10 xf10 x11 xf11
 have STn := Aside0.mk ((OpSt.put ST.out 1 (.int .i64 d) (cs2 := #[.int .i64 k, .int .i64 d, .bool false, .int .i64 0, .int .i64 0, .int .i64 0, .int .i64 0, .int .i64 0, .int .i64 0, .int .i64 0, .int .i64 0, .int .i64 0]) rfl))
 clear ST
 have ST := STn
 clear STn
 generalize (w35.setCell ⟨g8, 1, none⟩ (.int .i64 d)) = wq3 at ST ⊢
 obtain ⟨⟨vc0, vc1, vc2⟩, vcf0, vcf1, vcf2⟩ := cells3 ST.out.br
 obtain ⟨⟨yc0, yc1, yc2, yc3, yc4, yc5, yc6, yc7, yc8, yc9, yc10, yc11⟩, ycf0, ycf1, ycf2, ycf3, ycf4, ycf5, ycf6, ycf7, ycf8, ycf9, ycf10, ycf11⟩ := cells12 ST.out.b8
 go_upto_region 19 with (fail)
 clear vc0 vcf0 vc1 vcf1 vc2 vcf2 yc0 ycf0 yc1 ycf1 yc2 ycf2 yc3 ycf3 yc4 ycf4 yc5 ycf5 yc6 ycf6 yc7 ycf7 yc8 ycf8 yc9 ycf9 yc10 ycf10 yc11 ycf11
 have STd := Aside0.mk (OpSt.drew ST.out)
 clear ST
 have ST := STd
 clear STd
 refine start_ (n := 8) (S := fun w' => w'.cell? ⟨gr, 2, none⟩ = some (.int .i64 e2)) (ds := []) #[false, false, false, false, false, false, false, false] (by kernel_rfl) rfl rfl ((blk_cell ST.out.br 2).trans rfl) (fun hHeld => ?_); refine with_tabW object_Parse.tab19 object_Parse.bits19 (fun HT_ HW_ => ?_)
 generalize wq3.drew = wd at ST hHeld ⊢
 obtain ⟨⟨o0, o1, o2, o3, o4, o5, o6, o7, o8, o9, o10, o11⟩, of0, of1, of2, of3, of4, of5, of6, of7, of8, of9, of10, of11⟩ := cells12 ST.out.b4
 have n94 : g8 ≠ g4 := ST.out.d48.symm
 have nr4 : gr ≠ g4 := (blk_ne ST.out.br ST.out.b4 (by decide))
 refine pureA (i := 0) (N := some 84) HT_ ?_
 refine pureA (i := 1) (N := some 85) HT_ ?_
 refine pureA (i := 2) (N := some 86) HT_ ?_
 refine pureA (i := 3) (N := some 87) HT_ ?_
 refine takeA (i := 4) (N := some 88) HT_ HW_ hHeld ?_
 refine oneA (i := 5) (N := none) HT_ (fun K hK => ?_)
 refine skip_ (w1 := ?_) (by rfl) rfl ?_ ?_
 rotate_left
 ·go_simp
  rfl
 refine hK.out _ _ ?_ (fun hHeld2 => ?_)
 ·(repeat (first | refine (cell_far n94 _).trans ?_ | refine (cell_far nr4 _).trans ?_)); exact hHeld
 clear hHeld
 have hHeld := hHeld2
 clear hHeld2
 clear hK K
 refine pureA (i := 6) (N := some 5) HT_ ?_
 refine pureA (i := 7) (N := some 6) HT_ ?_
 refine done_ (done_of HT_.out (by kernel_rfl)) ?_
 clear HT_ HW_
 try go_wp2
 refine bodyPost_ret (results_ctt rfl _ _ g4 45 #[.int .i64 0, .int .i64 0, .bool false, .int .i64 0, .int .i64 0, .int .i64 0, .int .i64 0, .int .i64 0, .int .i64 0, .int .i64 0, .int .i64 0, .int .i64 0] (0, 0) _ rfl (blk_put12 ST.out.b4 (.int .i64 0) (.int .i64 0) (.bool false) (.int .i64 0) (.int .i64 0) (.int .i64 0) (.int .i64 0) (.int .i64 0) (.int .i64 0) (.int .i64 0) (.int .i64 0) (.int .i64 0)) Try.underlying45 rfl (by kernel_rfl)) rfl ?_
 exact ⟨rfl, (below_set12 ST.out.bl ST.out.n4)⟩
theorem op_hi (A0 : Option Addr) (c0 : Nat) (l0 : List Int) (a1 : Int) (w : World) (k p1 e1 d p2 e2 : Int) (HL : l0.length ≤ 1000000000000) (HY : Bytes l0) (HR0 : Kd.C (Kd.int .u8) w A0 l0.length l0) (HC0 : l0.length ≤ c0) (HG1 : rdN l0 1 a1 0 = (k, p1, e1)) (he : e1 = 0) (hk : 4 < k) (HG2 : rdN l0 1 p1 4 = (d, p2, e2)) (hf : ¬ e2 = 0) :
  Calls Try.prog 33 #[.slice A0 l0.length c0, .int .i64 a1] w fun e w' => e = .returned (.tuple #[.agg #[.int .i64 0, .int .i64 0, .bool false, .int .i64 0, .int .i64 0, .int .i64 0, .int .i64 0, .int .i64 0, .int .i64 0, .int .i64 0, .int .i64 0, .int .i64 0], .int .i64 0, .int .i64 e2]) ∧ Below w.heap.size w w' := by
 have hu27 := Try.underlying45
 have hu25 := Try.underlying43
 have hu23 := Try.underlying41
 have hu51 := Try.underlying77
 replace HL := Aside0.mk HL
 replace HY := Aside0.mk HY
 replace HR0 := Aside0.mk HR0
 replace HC0 := Aside0.mk HC0
 replace HG1 := Aside0.mk HG1
 replace HG2 := Aside0.mk HG2
 subst he
 have b1 : decide (k < 1) = false := decide_eq_false (by omega)
 have b2 : decide (4 < k) = true := decide_eq_true hk
 have b3 : (k == 2) = false := beq_eq_false_iff_ne.mpr (by omega)
 have b4 : (k == 3) = false := beq_eq_false_iff_ne.mpr (by omega)
 have b5 : (k == 4) = false := beq_eq_false_iff_ne.mpr (by omega)
 clear hk
 have b8 : (e2 == 0) = false := beq_eq_false_iff_ne.mpr hf
 have b9 : (e2 != 0) = true := bne_iff_ne.mpr hf
 clear hf
 go_enter Try.func33, Try.ntmps33
 go_upto_region 3 with (first
  | ((with_reducible refine gate_dst (N := 4) rfl ?_); refine box_event ?hg (N := 4) ?hd (cs := #[.int .i64 0, .int .i64 0, .bool false, .int .i64 0, .int .i64 0, .int .i64 0, .int .i64 0, .int .i64 0, .int .i64 0, .int .i64 0, .int .i64 0, .int .i64 0]) (t := 45) ?hr ?_; (case hd => rfl); (case hg => rfl); (case hr => first | (go_simp; done) | (go_simp; rfl)); intro g4 hg w4 hbox hb; have HB4 := Aside0.mk hb; have G4 := Aside0.mk (Nat.le_of_eq hg.symm); have B4 := Aside0.mk hbox; clear hb hbox hg)
  | ((with_reducible refine gate_dst (N := 12) rfl ?_); refine box_event ?hg (N := 12) ?hd (cs := RdC A0 l0.length c0 a1 0) (t := 77) ?hr ?_; (case hd => rfl); (case hg => rfl); (case hr => first | (go_simp; done) | (go_simp; rfl)); intro gr hg w5 hbox hb; have HB5 := Aside0.mk (below_step HB4.out hb); have GR := Aside0.mk (show w.heap.size ≤ gr by rw [hg]; exact below_size HB4.out); have B45 := Aside0.mk (blk_below B4.out hb); have BR := Aside0.mk hbox; clear hb hbox hg HB4 B4)
  | ((with_reducible refine gate_dst (N := 14) rfl ?_); refine goesA (some 14) Try.func42 #[.pointer (some ⟨gr, 0, none⟩), .int .i64 1] ?_; (with_reducible refine (or_number gr A0 c0 l0 a1 0 1 _ _ _ _ HG1.out HY.out HL.out (Kd.C_below HR0.out HB5.out) HC0.out BR.out).mono ?_); rintro x_ w14 ⟨rfl, hbx, hgr⟩; refine ⟨_, rfl, ?_⟩; have HB6 := Aside0.mk (pw_below_grown HB5.out (some gr) (below_size HB5.out) hgr (fun k_ e_ => by cases e_; exact GR.out)); have B46 := Aside0.mk (blk_grown B45.out hgr (fun e_ => blk_ne B45.out BR.out (by decide) (Option.some.inj e_))); have BR6 := Aside0.mk hbx; clear hbx hgr HB5 B45 BR)
  | ((with_reducible refine gate_dst (N := 8) rfl ?_); refine box_event ?hg (N := 8) ?hd (cs := #[.int .i64 0, .int .i64 0, .bool false, .int .i64 0, .int .i64 0, .int .i64 0, .int .i64 0, .int .i64 0, .int .i64 0, .int .i64 0, .int .i64 0, .int .i64 0]) (t := 45) ?hr ?_; (case hd => rfl); (case hg => rfl); (case hr => first | (go_simp; done) | (go_simp; rfl)); intro g8 hg w7 hbox hb; have ST0 := Aside0.mk (OpSt.mk (blk_below B46.out hb) hbox (blk_below BR6.out hb) (below_step HB6.out hb) G4.out (by rw [hg]; exact below_size HB6.out) GR.out (by rw [hg]; exact Nat.ne_of_lt (blk_lt B46.out))); clear hb hbox hg; obtain ⟨⟨u0, u1, u2, u3, u4, u5, u6, u7, u8, u9, u10, u11⟩, uf0, uf1, uf2, uf3, uf4, uf5, uf6, uf7, uf8, uf9, uf10, uf11⟩ := cells12 ST0.out.b8))
 have STn := Aside0.mk ((OpSt.put12 ST0.out (.int .i64 k) (.int .i64 0) (.bool false) (.int .i64 0) (.int .i64 0) (.int .i64 0) (.int .i64 0) (.int .i64 0) (.int .i64 0) (.int .i64 0) (.int .i64 0) (.int .i64 0)))
 clear ST0
 have ST := STn
 clear STn
 generalize ((((((((((((w7.setCell ⟨g8, 0, none⟩ (.int .i64 k)).setCell ⟨g8, 1, none⟩ (.int .i64 0)).setCell ⟨g8, 2, none⟩ (.bool false)).setCell ⟨g8, 3, none⟩ (.int .i64 0)).setCell ⟨g8, 4, none⟩ (.int .i64 0)).setCell ⟨g8, 5, none⟩ (.int .i64 0)).setCell ⟨g8, 6, none⟩ (.int .i64 0)).setCell ⟨g8, 7, none⟩ (.int .i64 0)).setCell ⟨g8, 8, none⟩ (.int .i64 0)).setCell ⟨g8, 9, none⟩ (.int .i64 0)).setCell ⟨g8, 10, none⟩ (.int .i64 0)).setCell ⟨g8, 11, none⟩ (.int .i64 0)) = wq1 at ST ⊢
 clear u0 uf0 u1 uf1 u2 uf2 u3 uf3 u4 uf4 u5 uf5 u6 uf6 u7 uf7 u8 uf8 u9 uf9 u10 uf10 u11 uf11
 obtain ⟨⟨va0, va1, va2⟩, vaf0, vaf1, vaf2⟩ := cells3 ST.out.br
 obtain ⟨⟨ya0, ya1, ya2, ya3, ya4, ya5, ya6, ya7, ya8, ya9, ya10, ya11⟩, yaf0, yaf1, yaf2, yaf3, yaf4, yaf5, yaf6, yaf7, yaf8, yaf9, yaf10, yaf11⟩ := cells12 ST.out.b8
 go_upto_region 5 with (fail)
 clear va0 vaf0 va1 vaf1 va2 vaf2 ya0 yaf0 ya1 yaf1 ya2 yaf2 ya3 yaf3 ya4 yaf4 ya5 yaf5 ya6 yaf6 ya7 yaf7 ya8 yaf8 ya9 yaf9 ya10 yaf10 ya11 yaf11
 have STn := Aside0.mk ((OpSt.err ST.out 4))
 clear ST
 have ST := STn
 clear STn
 generalize (wq1.setCell ⟨gr, 2, none⟩ (.int .i64 4)) = wq2 at ST ⊢
 obtain ⟨⟨yb0, yb1, yb2, yb3, yb4, yb5, yb6, yb7, yb8, yb9, yb10, yb11⟩, ybf0, ybf1, ybf2, ybf3, ybf4, ybf5, ybf6, ybf7, ybf8, ybf9, ybf10, ybf11⟩ := cells12 ST.out.b8
 go_upto_region 6 with (((with_reducible refine gate_dst (N := 35) rfl ?_); refine goesA (some 35) Try.func42 #[.pointer (some ⟨gr, 0, none⟩), .int .i64 1] ?_; (with_reducible refine (or_number gr A0 c0 l0 _ _ 1 _ _ _ _ HG2.out HY.out HL.out (Kd.C_below HR0.out ST.out.bl) HC0.out ST.out.br).mono ?_); rintro x_ w35 ⟨rfl, hbx, hgr⟩; refine ⟨_, rfl, ?_⟩; have STn := Aside0.mk (ST.out.step hbx hgr); clear ST hbx hgr; have ST := STn; clear STn; obtain ⟨⟨x0, x1, x2, x3, x4, x5, x6, x7, x8, x9, x10, x11⟩, xf0, xf1, xf2, xf3, xf4, xf5, xf6, xf7, xf8, xf9, xf10, xf11⟩ := cells12 ST.out.b8))
 clear yb0 ybf0 yb1 ybf1 yb2 ybf2 yb3 ybf3 yb4 ybf4 yb5 ybf5 yb6 ybf6 yb7 ybf7 yb8 ybf8 yb9 ybf9 yb10 ybf10 yb11 ybf11
 clear x0 xf0 x1 xf1 x2 xf2 x3 xf3 x4 xf4 x5 xf5 x6 xf6 x7 xf7 x8 xf8 x9 xf9 x10 xf10 x11 xf11
 have STn := Aside0.mk ((OpSt.put ST.out 1 (.int .i64 d) (cs2 := #[.int .i64 k, .int .i64 d, .bool false, .int .i64 0, .int .i64 0, .int .i64 0, .int .i64 0, .int .i64 0, .int .i64 0, .int .i64 0, .int .i64 0, .int .i64 0]) rfl))
 clear ST
 have ST := STn
 clear STn
 generalize (w35.setCell ⟨g8, 1, none⟩ (.int .i64 d)) = wq3 at ST ⊢
 obtain ⟨⟨vc0, vc1, vc2⟩, vcf0, vcf1, vcf2⟩ := cells3 ST.out.br
 obtain ⟨⟨yc0, yc1, yc2, yc3, yc4, yc5, yc6, yc7, yc8, yc9, yc10, yc11⟩, ycf0, ycf1, ycf2, ycf3, ycf4, ycf5, ycf6, ycf7, ycf8, ycf9, ycf10, ycf11⟩ := cells12 ST.out.b8
 go_upto_region 19 with (fail)
 clear vc0 vcf0 vc1 vcf1 vc2 vcf2 yc0 ycf0 yc1 ycf1 yc2 ycf2 yc3 ycf3 yc4 ycf4 yc5 ycf5 yc6 ycf6 yc7 ycf7 yc8 ycf8 yc9 ycf9 yc10 ycf10 yc11 ycf11
 have STd := Aside0.mk (OpSt.drew ST.out)
 clear ST
 have ST := STd
 clear STd
 refine start_ (n := 8) (S := fun w' => w'.cell? ⟨gr, 2, none⟩ = some (.int .i64 e2)) (ds := []) #[false, false, false, false, false, false, false, false] (by kernel_rfl) rfl rfl ((blk_cell ST.out.br 2).trans rfl) (fun hHeld => ?_); refine with_tabW object_Parse.tab19 object_Parse.bits19 (fun HT_ HW_ => ?_)
 generalize wq3.drew = wd at ST hHeld ⊢
 obtain ⟨⟨o0, o1, o2, o3, o4, o5, o6, o7, o8, o9, o10, o11⟩, of0, of1, of2, of3, of4, of5, of6, of7, of8, of9, of10, of11⟩ := cells12 ST.out.b4
 have n94 : g8 ≠ g4 := ST.out.d48.symm
 have nr4 : gr ≠ g4 := (blk_ne ST.out.br ST.out.b4 (by decide))
 refine pureA (i := 0) (N := some 84) HT_ ?_
 refine pureA (i := 1) (N := some 85) HT_ ?_
 refine pureA (i := 2) (N := some 86) HT_ ?_
 refine pureA (i := 3) (N := some 87) HT_ ?_
 refine takeA (i := 4) (N := some 88) HT_ HW_ hHeld ?_
 refine oneA (i := 5) (N := none) HT_ (fun K hK => ?_)
 refine skip_ (w1 := ?_) (by rfl) rfl ?_ ?_
 rotate_left
 ·go_simp
  rfl
 refine hK.out _ _ ?_ (fun hHeld2 => ?_)
 ·(repeat (first | refine (cell_far n94 _).trans ?_ | refine (cell_far nr4 _).trans ?_)); exact hHeld
 clear hHeld
 have hHeld := hHeld2
 clear hHeld2
 clear hK K
 refine pureA (i := 6) (N := some 5) HT_ ?_
 refine pureA (i := 7) (N := some 6) HT_ ?_
 refine done_ (done_of HT_.out (by kernel_rfl)) ?_
 clear HT_ HW_
 try go_wp2
 refine bodyPost_ret (results_ctt rfl _ _ g4 45 #[.int .i64 0, .int .i64 0, .bool false, .int .i64 0, .int .i64 0, .int .i64 0, .int .i64 0, .int .i64 0, .int .i64 0, .int .i64 0, .int .i64 0, .int .i64 0] (0, 0) _ rfl (blk_put12 ST.out.b4 (.int .i64 0) (.int .i64 0) (.bool false) (.int .i64 0) (.int .i64 0) (.int .i64 0) (.int .i64 0) (.int .i64 0) (.int .i64 0) (.int .i64 0) (.int .i64 0) (.int .i64 0)) Try.underlying45 rfl (by kernel_rfl)) rfl ?_
 exact ⟨rfl, (below_set12 ST.out.bl ST.out.n4)⟩
theorem op_q_e (A0 : Option Addr) (c0 : Nat) (l0 : List Int) (a1 : Int) (w : World) (k p1 e1 d p2 e2 : Int) (HL : l0.length ≤ 1000000000000) (HY : Bytes l0) (HR0 : Kd.C (Kd.int .u8) w A0 l0.length l0) (HC0 : l0.length ≤ c0) (HG1 : rdN l0 1 a1 0 = (k, p1, e1)) (he : e1 = 0) (hk : k = 1) (HG2 : rdN l0 1 p1 0 = (d, p2, e2)) (hf : ¬ e2 = 0) :
  Calls Try.prog 33 #[.slice A0 l0.length c0, .int .i64 a1] w fun e w' => e = .returned (.tuple #[.agg #[.int .i64 0, .int .i64 0, .bool false, .int .i64 0, .int .i64 0, .int .i64 0, .int .i64 0, .int .i64 0, .int .i64 0, .int .i64 0, .int .i64 0, .int .i64 0], .int .i64 0, .int .i64 e2]) ∧ Below w.heap.size w w' := by
 have hu27 := Try.underlying45
 have hu25 := Try.underlying43
 have hu23 := Try.underlying41
 have hu51 := Try.underlying77
 replace HL := Aside0.mk HL
 replace HY := Aside0.mk HY
 replace HR0 := Aside0.mk HR0
 replace HC0 := Aside0.mk HC0
 replace HG1 := Aside0.mk HG1
 replace HG2 := Aside0.mk HG2
 subst he
 subst hk
 have b8 : (e2 == 0) = false := beq_eq_false_iff_ne.mpr hf
 have b9 : (e2 != 0) = true := bne_iff_ne.mpr hf
 clear hf
 go_enter Try.func33, Try.ntmps33
 go_upto_region 3 with (first
  | ((with_reducible refine gate_dst (N := 4) rfl ?_); refine box_event ?hg (N := 4) ?hd (cs := #[.int .i64 0, .int .i64 0, .bool false, .int .i64 0, .int .i64 0, .int .i64 0, .int .i64 0, .int .i64 0, .int .i64 0, .int .i64 0, .int .i64 0, .int .i64 0]) (t := 45) ?hr ?_; (case hd => rfl); (case hg => rfl); (case hr => first | (go_simp; done) | (go_simp; rfl)); intro g4 hg w4 hbox hb; have HB4 := Aside0.mk hb; have G4 := Aside0.mk (Nat.le_of_eq hg.symm); have B4 := Aside0.mk hbox; clear hb hbox hg)
  | ((with_reducible refine gate_dst (N := 12) rfl ?_); refine box_event ?hg (N := 12) ?hd (cs := RdC A0 l0.length c0 a1 0) (t := 77) ?hr ?_; (case hd => rfl); (case hg => rfl); (case hr => first | (go_simp; done) | (go_simp; rfl)); intro gr hg w5 hbox hb; have HB5 := Aside0.mk (below_step HB4.out hb); have GR := Aside0.mk (show w.heap.size ≤ gr by rw [hg]; exact below_size HB4.out); have B45 := Aside0.mk (blk_below B4.out hb); have BR := Aside0.mk hbox; clear hb hbox hg HB4 B4)
  | ((with_reducible refine gate_dst (N := 14) rfl ?_); refine goesA (some 14) Try.func42 #[.pointer (some ⟨gr, 0, none⟩), .int .i64 1] ?_; (with_reducible refine (or_number gr A0 c0 l0 a1 0 1 _ _ _ _ HG1.out HY.out HL.out (Kd.C_below HR0.out HB5.out) HC0.out BR.out).mono ?_); rintro x_ w14 ⟨rfl, hbx, hgr⟩; refine ⟨_, rfl, ?_⟩; have HB6 := Aside0.mk (pw_below_grown HB5.out (some gr) (below_size HB5.out) hgr (fun k_ e_ => by cases e_; exact GR.out)); have B46 := Aside0.mk (blk_grown B45.out hgr (fun e_ => blk_ne B45.out BR.out (by decide) (Option.some.inj e_))); have BR6 := Aside0.mk hbx; clear hbx hgr HB5 B45 BR)
  | ((with_reducible refine gate_dst (N := 8) rfl ?_); refine box_event ?hg (N := 8) ?hd (cs := #[.int .i64 0, .int .i64 0, .bool false, .int .i64 0, .int .i64 0, .int .i64 0, .int .i64 0, .int .i64 0, .int .i64 0, .int .i64 0, .int .i64 0, .int .i64 0]) (t := 45) ?hr ?_; (case hd => rfl); (case hg => rfl); (case hr => first | (go_simp; done) | (go_simp; rfl)); intro g8 hg w7 hbox hb; have ST0 := Aside0.mk (OpSt.mk (blk_below B46.out hb) hbox (blk_below BR6.out hb) (below_step HB6.out hb) G4.out (by rw [hg]; exact below_size HB6.out) GR.out (by rw [hg]; exact Nat.ne_of_lt (blk_lt B46.out))); clear hb hbox hg; obtain ⟨⟨u0, u1, u2, u3, u4, u5, u6, u7, u8, u9, u10, u11⟩, uf0, uf1, uf2, uf3, uf4, uf5, uf6, uf7, uf8, uf9, uf10, uf11⟩ := cells12 ST0.out.b8))
 have STn := Aside0.mk ((OpSt.put12 ST0.out (.int .i64 1) (.int .i64 0) (.bool false) (.int .i64 0) (.int .i64 0) (.int .i64 0) (.int .i64 0) (.int .i64 0) (.int .i64 0) (.int .i64 0) (.int .i64 0) (.int .i64 0)))
 clear ST0
 have ST := STn
 clear STn
 generalize ((((((((((((w7.setCell ⟨g8, 0, none⟩ (.int .i64 1)).setCell ⟨g8, 1, none⟩ (.int .i64 0)).setCell ⟨g8, 2, none⟩ (.bool false)).setCell ⟨g8, 3, none⟩ (.int .i64 0)).setCell ⟨g8, 4, none⟩ (.int .i64 0)).setCell ⟨g8, 5, none⟩ (.int .i64 0)).setCell ⟨g8, 6, none⟩ (.int .i64 0)).setCell ⟨g8, 7, none⟩ (.int .i64 0)).setCell ⟨g8, 8, none⟩ (.int .i64 0)).setCell ⟨g8, 9, none⟩ (.int .i64 0)).setCell ⟨g8, 10, none⟩ (.int .i64 0)).setCell ⟨g8, 11, none⟩ (.int .i64 0)) = wq1 at ST ⊢
 clear u0 uf0 u1 uf1 u2 uf2 u3 uf3 u4 uf4 u5 uf5 u6 uf6 u7 uf7 u8 uf8 u9 uf9 u10 uf10 u11 uf11
 obtain ⟨⟨va0, va1, va2⟩, vaf0, vaf1, vaf2⟩ := cells3 ST.out.br
 obtain ⟨⟨ya0, ya1, ya2, ya3, ya4, ya5, ya6, ya7, ya8, ya9, ya10, ya11⟩, yaf0, yaf1, yaf2, yaf3, yaf4, yaf5, yaf6, yaf7, yaf8, yaf9, yaf10, yaf11⟩ := cells12 ST.out.b8
 go_upto_region 6 with (((with_reducible refine gate_dst (N := 35) rfl ?_); refine goesA (some 35) Try.func42 #[.pointer (some ⟨gr, 0, none⟩), .int .i64 1] ?_; (with_reducible refine (or_number gr A0 c0 l0 _ _ 1 _ _ _ _ HG2.out HY.out HL.out (Kd.C_below HR0.out ST.out.bl) HC0.out ST.out.br).mono ?_); rintro x_ w35 ⟨rfl, hbx, hgr⟩; refine ⟨_, rfl, ?_⟩; have STn := Aside0.mk (ST.out.step hbx hgr); clear ST hbx hgr; have ST := STn; clear STn; obtain ⟨⟨x0, x1, x2, x3, x4, x5, x6, x7, x8, x9, x10, x11⟩, xf0, xf1, xf2, xf3, xf4, xf5, xf6, xf7, xf8, xf9, xf10, xf11⟩ := cells12 ST.out.b8))
 clear va0 vaf0 va1 vaf1 va2 vaf2 ya0 yaf0 ya1 yaf1 ya2 yaf2 ya3 yaf3 ya4 yaf4 ya5 yaf5 ya6 yaf6 ya7 yaf7 ya8 yaf8 ya9 yaf9 ya10 yaf10 ya11 yaf11
 clear x0 xf0 x1 xf1 x2 xf2 x3 xf3 x4 xf4 x5 xf5 x6 xf6 x7 xf7 x8 xf8 x9 xf9 x10 xf10 x11 xf11
 have STn := Aside0.mk ((OpSt.put ST.out 1 (.int .i64 d) (cs2 := #[.int .i64 1, .int .i64 d, .bool false, .int .i64 0, .int .i64 0, .int .i64 0, .int .i64 0, .int .i64 0, .int .i64 0, .int .i64 0, .int .i64 0, .int .i64 0]) rfl))
 clear ST
 have ST := STn
 clear STn
 generalize (w35.setCell ⟨g8, 1, none⟩ (.int .i64 d)) = wq2 at ST ⊢
 obtain ⟨⟨vc0, vc1, vc2⟩, vcf0, vcf1, vcf2⟩ := cells3 ST.out.br
 obtain ⟨⟨yc0, yc1, yc2, yc3, yc4, yc5, yc6, yc7, yc8, yc9, yc10, yc11⟩, ycf0, ycf1, ycf2, ycf3, ycf4, ycf5, ycf6, ycf7, ycf8, ycf9, ycf10, ycf11⟩ := cells12 ST.out.b8
 go_upto_region 19 with (fail)
 clear vc0 vcf0 vc1 vcf1 vc2 vcf2 yc0 ycf0 yc1 ycf1 yc2 ycf2 yc3 ycf3 yc4 ycf4 yc5 ycf5 yc6 ycf6 yc7 ycf7 yc8 ycf8 yc9 ycf9 yc10 ycf10 yc11 ycf11
 have STd := Aside0.mk (OpSt.drew ST.out)
 clear ST
 have ST := STd
 clear STd
 refine start_ (n := 8) (S := fun w' => w'.cell? ⟨gr, 2, none⟩ = some (.int .i64 e2)) (ds := []) #[false, false, false, false, false, false, false, false] (by kernel_rfl) rfl rfl ((blk_cell ST.out.br 2).trans rfl) (fun hHeld => ?_); refine with_tabW object_Parse.tab19 object_Parse.bits19 (fun HT_ HW_ => ?_)
 generalize wq2.drew = wd at ST hHeld ⊢
 obtain ⟨⟨o0, o1, o2, o3, o4, o5, o6, o7, o8, o9, o10, o11⟩, of0, of1, of2, of3, of4, of5, of6, of7, of8, of9, of10, of11⟩ := cells12 ST.out.b4
 have n94 : g8 ≠ g4 := ST.out.d48.symm
 have nr4 : gr ≠ g4 := (blk_ne ST.out.br ST.out.b4 (by decide))
 refine pureA (i := 0) (N := some 84) HT_ ?_
 refine pureA (i := 1) (N := some 85) HT_ ?_
 refine pureA (i := 2) (N := some 86) HT_ ?_
 refine pureA (i := 3) (N := some 87) HT_ ?_
 refine takeA (i := 4) (N := some 88) HT_ HW_ hHeld ?_
 refine oneA (i := 5) (N := none) HT_ (fun K hK => ?_)
 refine skip_ (w1 := ?_) (by rfl) rfl ?_ ?_
 rotate_left
 ·go_simp
  rfl
 refine hK.out _ _ ?_ (fun hHeld2 => ?_)
 ·(repeat (first | refine (cell_far n94 _).trans ?_ | refine (cell_far nr4 _).trans ?_)); exact hHeld
 clear hHeld
 have hHeld := hHeld2
 clear hHeld2
 clear hK K
 refine pureA (i := 6) (N := some 5) HT_ ?_
 refine pureA (i := 7) (N := some 6) HT_ ?_
 refine done_ (done_of HT_.out (by kernel_rfl)) ?_
 clear HT_ HW_
 try go_wp2
 refine bodyPost_ret (results_ctt rfl _ _ g4 45 #[.int .i64 0, .int .i64 0, .bool false, .int .i64 0, .int .i64 0, .int .i64 0, .int .i64 0, .int .i64 0, .int .i64 0, .int .i64 0, .int .i64 0, .int .i64 0] (0, 0) _ rfl (blk_put12 ST.out.b4 (.int .i64 0) (.int .i64 0) (.bool false) (.int .i64 0) (.int .i64 0) (.int .i64 0) (.int .i64 0) (.int .i64 0) (.int .i64 0) (.int .i64 0) (.int .i64 0) (.int .i64 0)) Try.underlying45 rfl (by kernel_rfl)) rfl ?_
 exact ⟨rfl, (below_set12 ST.out.bl ST.out.n4)⟩
theorem op_q_no (A0 : Option Addr) (c0 : Nat) (l0 : List Int) (a1 : Int) (w : World) (k p1 e1 d p2 e2 : Int) (HL : l0.length ≤ 1000000000000) (HY : Bytes l0) (HR0 : Kd.C (Kd.int .u8) w A0 l0.length l0) (HC0 : l0.length ≤ c0) (HG1 : rdN l0 1 a1 0 = (k, p1, e1)) (he : e1 = 0) (hk : k = 1) (HG2 : rdN l0 1 p1 0 = (d, p2, e2)) (hf : e2 = 0) (hr : ¬ RO k d false 0 0 0 0 0 0 0 0 0) :
  Calls Try.prog 33 #[.slice A0 l0.length c0, .int .i64 a1] w fun e w' => e = .returned (.tuple #[.agg #[.int .i64 0, .int .i64 0, .bool false, .int .i64 0, .int .i64 0, .int .i64 0, .int .i64 0, .int .i64 0, .int .i64 0, .int .i64 0, .int .i64 0, .int .i64 0], .int .i64 0, .int .i64 4]) ∧ Below w.heap.size w w' := by
 have hu27 := Try.underlying45
 have hu25 := Try.underlying43
 have hu23 := Try.underlying41
 have hu51 := Try.underlying77
 replace HL := Aside0.mk HL
 replace HY := Aside0.mk HY
 replace HR0 := Aside0.mk HR0
 replace HC0 := Aside0.mk HC0
 replace HG1 := Aside0.mk HG1
 replace HG2 := Aside0.mk HG2
 subst he
 subst hk
 subst hf
 obtain ⟨K, hK⟩ := (oc_eq 1 d false 0 0 0 0 0 0 0 0 0).rounds
 rw [if_neg hr] at hK
 have HK := Aside0.mk hK
 clear hK hr
 go_enter Try.func33, Try.ntmps33
 go_upto_region 3 with (first
  | ((with_reducible refine gate_dst (N := 4) rfl ?_); refine box_event ?hg (N := 4) ?hd (cs := #[.int .i64 0, .int .i64 0, .bool false, .int .i64 0, .int .i64 0, .int .i64 0, .int .i64 0, .int .i64 0, .int .i64 0, .int .i64 0, .int .i64 0, .int .i64 0]) (t := 45) ?hr ?_; (case hd => rfl); (case hg => rfl); (case hr => first | (go_simp; done) | (go_simp; rfl)); intro g4 hg w4 hbox hb; have HB4 := Aside0.mk hb; have G4 := Aside0.mk (Nat.le_of_eq hg.symm); have B4 := Aside0.mk hbox; clear hb hbox hg)
  | ((with_reducible refine gate_dst (N := 12) rfl ?_); refine box_event ?hg (N := 12) ?hd (cs := RdC A0 l0.length c0 a1 0) (t := 77) ?hr ?_; (case hd => rfl); (case hg => rfl); (case hr => first | (go_simp; done) | (go_simp; rfl)); intro gr hg w5 hbox hb; have HB5 := Aside0.mk (below_step HB4.out hb); have GR := Aside0.mk (show w.heap.size ≤ gr by rw [hg]; exact below_size HB4.out); have B45 := Aside0.mk (blk_below B4.out hb); have BR := Aside0.mk hbox; clear hb hbox hg HB4 B4)
  | ((with_reducible refine gate_dst (N := 14) rfl ?_); refine goesA (some 14) Try.func42 #[.pointer (some ⟨gr, 0, none⟩), .int .i64 1] ?_; (with_reducible refine (or_number gr A0 c0 l0 a1 0 1 _ _ _ _ HG1.out HY.out HL.out (Kd.C_below HR0.out HB5.out) HC0.out BR.out).mono ?_); rintro x_ w14 ⟨rfl, hbx, hgr⟩; refine ⟨_, rfl, ?_⟩; have HB6 := Aside0.mk (pw_below_grown HB5.out (some gr) (below_size HB5.out) hgr (fun k_ e_ => by cases e_; exact GR.out)); have B46 := Aside0.mk (blk_grown B45.out hgr (fun e_ => blk_ne B45.out BR.out (by decide) (Option.some.inj e_))); have BR6 := Aside0.mk hbx; clear hbx hgr HB5 B45 BR)
  | ((with_reducible refine gate_dst (N := 8) rfl ?_); refine box_event ?hg (N := 8) ?hd (cs := #[.int .i64 0, .int .i64 0, .bool false, .int .i64 0, .int .i64 0, .int .i64 0, .int .i64 0, .int .i64 0, .int .i64 0, .int .i64 0, .int .i64 0, .int .i64 0]) (t := 45) ?hr ?_; (case hd => rfl); (case hg => rfl); (case hr => first | (go_simp; done) | (go_simp; rfl)); intro g8 hg w7 hbox hb; have ST0 := Aside0.mk (OpSt.mk (blk_below B46.out hb) hbox (blk_below BR6.out hb) (below_step HB6.out hb) G4.out (by rw [hg]; exact below_size HB6.out) GR.out (by rw [hg]; exact Nat.ne_of_lt (blk_lt B46.out))); clear hb hbox hg; obtain ⟨⟨u0, u1, u2, u3, u4, u5, u6, u7, u8, u9, u10, u11⟩, uf0, uf1, uf2, uf3, uf4, uf5, uf6, uf7, uf8, uf9, uf10, uf11⟩ := cells12 ST0.out.b8))
 have STn := Aside0.mk ((OpSt.put12 ST0.out (.int .i64 1) (.int .i64 0) (.bool false) (.int .i64 0) (.int .i64 0) (.int .i64 0) (.int .i64 0) (.int .i64 0) (.int .i64 0) (.int .i64 0) (.int .i64 0) (.int .i64 0)))
 clear ST0
 have ST := STn
 clear STn
 generalize ((((((((((((w7.setCell ⟨g8, 0, none⟩ (.int .i64 1)).setCell ⟨g8, 1, none⟩ (.int .i64 0)).setCell ⟨g8, 2, none⟩ (.bool false)).setCell ⟨g8, 3, none⟩ (.int .i64 0)).setCell ⟨g8, 4, none⟩ (.int .i64 0)).setCell ⟨g8, 5, none⟩ (.int .i64 0)).setCell ⟨g8, 6, none⟩ (.int .i64 0)).setCell ⟨g8, 7, none⟩ (.int .i64 0)).setCell ⟨g8, 8, none⟩ (.int .i64 0)).setCell ⟨g8, 9, none⟩ (.int .i64 0)).setCell ⟨g8, 10, none⟩ (.int .i64 0)).setCell ⟨g8, 11, none⟩ (.int .i64 0)) = wq1 at ST ⊢
 clear u0 uf0 u1 uf1 u2 uf2 u3 uf3 u4 uf4 u5 uf5 u6 uf6 u7 uf7 u8 uf8 u9 uf9 u10 uf10 u11 uf11
 obtain ⟨⟨va0, va1, va2⟩, vaf0, vaf1, vaf2⟩ := cells3 ST.out.br
 obtain ⟨⟨ya0, ya1, ya2, ya3, ya4, ya5, ya6, ya7, ya8, ya9, ya10, ya11⟩, yaf0, yaf1, yaf2, yaf3, yaf4, yaf5, yaf6, yaf7, yaf8, yaf9, yaf10, yaf11⟩ := cells12 ST.out.b8
 go_upto_region 6 with (((with_reducible refine gate_dst (N := 35) rfl ?_); refine goesA (some 35) Try.func42 #[.pointer (some ⟨gr, 0, none⟩), .int .i64 1] ?_; (with_reducible refine (or_number gr A0 c0 l0 _ _ 1 _ _ _ _ HG2.out HY.out HL.out (Kd.C_below HR0.out ST.out.bl) HC0.out ST.out.br).mono ?_); rintro x_ w35 ⟨rfl, hbx, hgr⟩; refine ⟨_, rfl, ?_⟩; have STn := Aside0.mk (ST.out.step hbx hgr); clear ST hbx hgr; have ST := STn; clear STn; obtain ⟨⟨x0, x1, x2, x3, x4, x5, x6, x7, x8, x9, x10, x11⟩, xf0, xf1, xf2, xf3, xf4, xf5, xf6, xf7, xf8, xf9, xf10, xf11⟩ := cells12 ST.out.b8))
 clear va0 vaf0 va1 vaf1 va2 vaf2 ya0 yaf0 ya1 yaf1 ya2 yaf2 ya3 yaf3 ya4 yaf4 ya5 yaf5 ya6 yaf6 ya7 yaf7 ya8 yaf8 ya9 yaf9 ya10 yaf10 ya11 yaf11
 clear x0 xf0 x1 xf1 x2 xf2 x3 xf3 x4 xf4 x5 xf5 x6 xf6 x7 xf7 x8 xf8 x9 xf9 x10 xf10 x11 xf11
 have STn := Aside0.mk ((OpSt.put ST.out 1 (.int .i64 d) (cs2 := #[.int .i64 1, .int .i64 d, .bool false, .int .i64 0, .int .i64 0, .int .i64 0, .int .i64 0, .int .i64 0, .int .i64 0, .int .i64 0, .int .i64 0, .int .i64 0]) rfl))
 clear ST
 have ST := STn
 clear STn
 generalize (w35.setCell ⟨g8, 1, none⟩ (.int .i64 d)) = wq2 at ST ⊢
 obtain ⟨⟨vc0, vc1, vc2⟩, vcf0, vcf1, vcf2⟩ := cells3 ST.out.br
 obtain ⟨⟨yc0, yc1, yc2, yc3, yc4, yc5, yc6, yc7, yc8, yc9, yc10, yc11⟩, ycf0, ycf1, ycf2, ycf3, ycf4, ycf5, ycf6, ycf7, ycf8, ycf9, ycf10, ycf11⟩ := cells12 ST.out.b8
 go_upto_region 19 with ((go_at_call 34; (with_reducible refine (object_Check.calls K 1 d false 0 0 0 0 0 0 0 0 0 1 _ HK.out).mono ?_); rintro x_ ws ⟨rfl, hb⟩; have STn := Aside0.mk (OpSt.below ST.out hb); clear ST hb; have ST := STn; clear STn; obtain ⟨⟨s0, s1, s2⟩, sf0, sf1, sf2⟩ := cells3 ST.out.br))
 clear vc0 vcf0 vc1 vcf1 vc2 vcf2 yc0 ycf0 yc1 ycf1 yc2 ycf2 yc3 ycf3 yc4 ycf4 yc5 ycf5 yc6 ycf6 yc7 ycf7 yc8 ycf8 yc9 ycf9 yc10 ycf10 yc11 ycf11
 clear s0 sf0 s1 sf1 s2 sf2
 have STn := Aside0.mk ((OpSt.err ST.out 4))
 clear ST
 have ST := STn
 clear STn
 generalize (ws.setCell ⟨gr, 2, none⟩ (.int .i64 4)) = wq3 at ST ⊢
 have STd := Aside0.mk (OpSt.drew ST.out)
 clear ST
 have ST := STd
 clear STd
 refine start_ (n := 8) (S := fun w' => w'.cell? ⟨gr, 2, none⟩ = some (.int .i64 4)) (ds := []) #[false, false, false, false, false, false, false, false] (by kernel_rfl) rfl rfl ((blk_cell ST.out.br 2).trans rfl) (fun hHeld => ?_); refine with_tabW object_Parse.tab19 object_Parse.bits19 (fun HT_ HW_ => ?_)
 generalize wq3.drew = wd at ST hHeld ⊢
 obtain ⟨⟨o0, o1, o2, o3, o4, o5, o6, o7, o8, o9, o10, o11⟩, of0, of1, of2, of3, of4, of5, of6, of7, of8, of9, of10, of11⟩ := cells12 ST.out.b4
 have n94 : g8 ≠ g4 := ST.out.d48.symm
 have nr4 : gr ≠ g4 := (blk_ne ST.out.br ST.out.b4 (by decide))
 refine pureA (i := 0) (N := some 84) HT_ ?_
 refine pureA (i := 1) (N := some 85) HT_ ?_
 refine pureA (i := 2) (N := some 86) HT_ ?_
 refine pureA (i := 3) (N := some 87) HT_ ?_
 refine takeA (i := 4) (N := some 88) HT_ HW_ hHeld ?_
 refine oneA (i := 5) (N := none) HT_ (fun K hK => ?_)
 refine skip_ (w1 := ?_) (by rfl) rfl ?_ ?_
 rotate_left
 ·go_simp
  rfl
 refine hK.out _ _ ?_ (fun hHeld2 => ?_)
 ·(repeat (first | refine (cell_far n94 _).trans ?_ | refine (cell_far nr4 _).trans ?_)); exact hHeld
 clear hHeld
 have hHeld := hHeld2
 clear hHeld2
 clear hK K
 refine pureA (i := 6) (N := some 5) HT_ ?_
 refine pureA (i := 7) (N := some 6) HT_ ?_
 refine done_ (done_of HT_.out (by kernel_rfl)) ?_
 clear HT_ HW_
 try go_wp2
 refine bodyPost_ret (results_ctt rfl _ _ g4 45 #[.int .i64 0, .int .i64 0, .bool false, .int .i64 0, .int .i64 0, .int .i64 0, .int .i64 0, .int .i64 0, .int .i64 0, .int .i64 0, .int .i64 0, .int .i64 0] (0, 0) _ rfl (blk_put12 ST.out.b4 (.int .i64 0) (.int .i64 0) (.bool false) (.int .i64 0) (.int .i64 0) (.int .i64 0) (.int .i64 0) (.int .i64 0) (.int .i64 0) (.int .i64 0) (.int .i64 0) (.int .i64 0)) Try.underlying45 rfl (by kernel_rfl)) rfl ?_
 exact ⟨rfl, (below_set12 ST.out.bl ST.out.n4)⟩
theorem op_q_yes (A0 : Option Addr) (c0 : Nat) (l0 : List Int) (a1 : Int) (w : World) (k p1 e1 d p2 e2 : Int) (HL : l0.length ≤ 1000000000000) (HY : Bytes l0) (HR0 : Kd.C (Kd.int .u8) w A0 l0.length l0) (HC0 : l0.length ≤ c0) (HG1 : rdN l0 1 a1 0 = (k, p1, e1)) (he : e1 = 0) (hk : k = 1) (HG2 : rdN l0 1 p1 0 = (d, p2, e2)) (hf : e2 = 0) (hr : RO k d false 0 0 0 0 0 0 0 0 0) :
  Calls Try.prog 33 #[.slice A0 l0.length c0, .int .i64 a1] w fun e w' => e = .returned (.tuple #[.agg #[.int .i64 k, .int .i64 d, .bool false, .int .i64 0, .int .i64 0, .int .i64 0, .int .i64 0, .int .i64 0, .int .i64 0, .int .i64 0, .int .i64 0, .int .i64 0], .int .i64 p2, .int .i64 0]) ∧ Below w.heap.size w w' := by
 have hu27 := Try.underlying45
 have hu25 := Try.underlying43
 have hu23 := Try.underlying41
 have hu51 := Try.underlying77
 replace HL := Aside0.mk HL
 replace HY := Aside0.mk HY
 replace HR0 := Aside0.mk HR0
 replace HC0 := Aside0.mk HC0
 replace HG1 := Aside0.mk HG1
 replace HG2 := Aside0.mk HG2
 subst he
 subst hk
 subst hf
 obtain ⟨K, hK⟩ := (oc_eq 1 d false 0 0 0 0 0 0 0 0 0).rounds
 rw [if_pos hr] at hK
 have HK := Aside0.mk hK
 clear hK hr
 go_enter Try.func33, Try.ntmps33
 go_upto_region 3 with (first
  | ((with_reducible refine gate_dst (N := 4) rfl ?_); refine box_event ?hg (N := 4) ?hd (cs := #[.int .i64 0, .int .i64 0, .bool false, .int .i64 0, .int .i64 0, .int .i64 0, .int .i64 0, .int .i64 0, .int .i64 0, .int .i64 0, .int .i64 0, .int .i64 0]) (t := 45) ?hr ?_; (case hd => rfl); (case hg => rfl); (case hr => first | (go_simp; done) | (go_simp; rfl)); intro g4 hg w4 hbox hb; have HB4 := Aside0.mk hb; have G4 := Aside0.mk (Nat.le_of_eq hg.symm); have B4 := Aside0.mk hbox; clear hb hbox hg)
  | ((with_reducible refine gate_dst (N := 12) rfl ?_); refine box_event ?hg (N := 12) ?hd (cs := RdC A0 l0.length c0 a1 0) (t := 77) ?hr ?_; (case hd => rfl); (case hg => rfl); (case hr => first | (go_simp; done) | (go_simp; rfl)); intro gr hg w5 hbox hb; have HB5 := Aside0.mk (below_step HB4.out hb); have GR := Aside0.mk (show w.heap.size ≤ gr by rw [hg]; exact below_size HB4.out); have B45 := Aside0.mk (blk_below B4.out hb); have BR := Aside0.mk hbox; clear hb hbox hg HB4 B4)
  | ((with_reducible refine gate_dst (N := 14) rfl ?_); refine goesA (some 14) Try.func42 #[.pointer (some ⟨gr, 0, none⟩), .int .i64 1] ?_; (with_reducible refine (or_number gr A0 c0 l0 a1 0 1 _ _ _ _ HG1.out HY.out HL.out (Kd.C_below HR0.out HB5.out) HC0.out BR.out).mono ?_); rintro x_ w14 ⟨rfl, hbx, hgr⟩; refine ⟨_, rfl, ?_⟩; have HB6 := Aside0.mk (pw_below_grown HB5.out (some gr) (below_size HB5.out) hgr (fun k_ e_ => by cases e_; exact GR.out)); have B46 := Aside0.mk (blk_grown B45.out hgr (fun e_ => blk_ne B45.out BR.out (by decide) (Option.some.inj e_))); have BR6 := Aside0.mk hbx; clear hbx hgr HB5 B45 BR)
  | ((with_reducible refine gate_dst (N := 8) rfl ?_); refine box_event ?hg (N := 8) ?hd (cs := #[.int .i64 0, .int .i64 0, .bool false, .int .i64 0, .int .i64 0, .int .i64 0, .int .i64 0, .int .i64 0, .int .i64 0, .int .i64 0, .int .i64 0, .int .i64 0]) (t := 45) ?hr ?_; (case hd => rfl); (case hg => rfl); (case hr => first | (go_simp; done) | (go_simp; rfl)); intro g8 hg w7 hbox hb; have ST0 := Aside0.mk (OpSt.mk (blk_below B46.out hb) hbox (blk_below BR6.out hb) (below_step HB6.out hb) G4.out (by rw [hg]; exact below_size HB6.out) GR.out (by rw [hg]; exact Nat.ne_of_lt (blk_lt B46.out))); clear hb hbox hg; obtain ⟨⟨u0, u1, u2, u3, u4, u5, u6, u7, u8, u9, u10, u11⟩, uf0, uf1, uf2, uf3, uf4, uf5, uf6, uf7, uf8, uf9, uf10, uf11⟩ := cells12 ST0.out.b8))
 have STn := Aside0.mk ((OpSt.put12 ST0.out (.int .i64 1) (.int .i64 0) (.bool false) (.int .i64 0) (.int .i64 0) (.int .i64 0) (.int .i64 0) (.int .i64 0) (.int .i64 0) (.int .i64 0) (.int .i64 0) (.int .i64 0)))
 clear ST0
 have ST := STn
 clear STn
 generalize ((((((((((((w7.setCell ⟨g8, 0, none⟩ (.int .i64 1)).setCell ⟨g8, 1, none⟩ (.int .i64 0)).setCell ⟨g8, 2, none⟩ (.bool false)).setCell ⟨g8, 3, none⟩ (.int .i64 0)).setCell ⟨g8, 4, none⟩ (.int .i64 0)).setCell ⟨g8, 5, none⟩ (.int .i64 0)).setCell ⟨g8, 6, none⟩ (.int .i64 0)).setCell ⟨g8, 7, none⟩ (.int .i64 0)).setCell ⟨g8, 8, none⟩ (.int .i64 0)).setCell ⟨g8, 9, none⟩ (.int .i64 0)).setCell ⟨g8, 10, none⟩ (.int .i64 0)).setCell ⟨g8, 11, none⟩ (.int .i64 0)) = wq1 at ST ⊢
 clear u0 uf0 u1 uf1 u2 uf2 u3 uf3 u4 uf4 u5 uf5 u6 uf6 u7 uf7 u8 uf8 u9 uf9 u10 uf10 u11 uf11
 obtain ⟨⟨va0, va1, va2⟩, vaf0, vaf1, vaf2⟩ := cells3 ST.out.br
 obtain ⟨⟨ya0, ya1, ya2, ya3, ya4, ya5, ya6, ya7, ya8, ya9, ya10, ya11⟩, yaf0, yaf1, yaf2, yaf3, yaf4, yaf5, yaf6, yaf7, yaf8, yaf9, yaf10, yaf11⟩ := cells12 ST.out.b8
 go_upto_region 6 with (((with_reducible refine gate_dst (N := 35) rfl ?_); refine goesA (some 35) Try.func42 #[.pointer (some ⟨gr, 0, none⟩), .int .i64 1] ?_; (with_reducible refine (or_number gr A0 c0 l0 _ _ 1 _ _ _ _ HG2.out HY.out HL.out (Kd.C_below HR0.out ST.out.bl) HC0.out ST.out.br).mono ?_); rintro x_ w35 ⟨rfl, hbx, hgr⟩; refine ⟨_, rfl, ?_⟩; have STn := Aside0.mk (ST.out.step hbx hgr); clear ST hbx hgr; have ST := STn; clear STn; obtain ⟨⟨x0, x1, x2, x3, x4, x5, x6, x7, x8, x9, x10, x11⟩, xf0, xf1, xf2, xf3, xf4, xf5, xf6, xf7, xf8, xf9, xf10, xf11⟩ := cells12 ST.out.b8))
 clear va0 vaf0 va1 vaf1 va2 vaf2 ya0 yaf0 ya1 yaf1 ya2 yaf2 ya3 yaf3 ya4 yaf4 ya5 yaf5 ya6 yaf6 ya7 yaf7 ya8 yaf8 ya9 yaf9 ya10 yaf10 ya11 yaf11
 clear x0 xf0 x1 xf1 x2 xf2 x3 xf3 x4 xf4 x5 xf5 x6 xf6 x7 xf7 x8 xf8 x9 xf9 x10 xf10 x11 xf11
 have STn := Aside0.mk ((OpSt.put ST.out 1 (.int .i64 d) (cs2 := #[.int .i64 1, .int .i64 d, .bool false, .int .i64 0, .int .i64 0, .int .i64 0, .int .i64 0, .int .i64 0, .int .i64 0, .int .i64 0, .int .i64 0, .int .i64 0]) rfl))
 clear ST
 have ST := STn
 clear STn
 generalize (w35.setCell ⟨g8, 1, none⟩ (.int .i64 d)) = wq2 at ST ⊢
 obtain ⟨⟨vc0, vc1, vc2⟩, vcf0, vcf1, vcf2⟩ := cells3 ST.out.br
 obtain ⟨⟨yc0, yc1, yc2, yc3, yc4, yc5, yc6, yc7, yc8, yc9, yc10, yc11⟩, ycf0, ycf1, ycf2, ycf3, ycf4, ycf5, ycf6, ycf7, ycf8, ycf9, ycf10, ycf11⟩ := cells12 ST.out.b8
 go_upto_region 20 with ((go_at_call 34; (with_reducible refine (object_Check.calls K 1 d false 0 0 0 0 0 0 0 0 0 0 _ HK.out).mono ?_); rintro x_ ws ⟨rfl, hb⟩; have STn := Aside0.mk (OpSt.below ST.out hb); clear ST hb; have ST := STn; clear STn; obtain ⟨⟨s0, s1, s2⟩, sf0, sf1, sf2⟩ := cells3 ST.out.br))
 clear vc0 vcf0 vc1 vcf1 vc2 vcf2 yc0 ycf0 yc1 ycf1 yc2 ycf2 yc3 ycf3 yc4 ycf4 yc5 ycf5 yc6 ycf6 yc7 ycf7 yc8 ycf8 yc9 ycf9 yc10 ycf10 yc11 ycf11
 clear s0 sf0 s1 sf1 s2 sf2
 have STd := Aside0.mk (OpSt.drew ST.out)
 clear ST
 have ST := STd
 clear STd
 refine start_ (n := 8) (S := fun w' => w'.cell? ⟨g8, 0, none⟩ = some (.int .i64 1) ∧ w'.cell? ⟨g8, 1, none⟩ = some (.int .i64 d) ∧ w'.cell? ⟨g8, 2, none⟩ = some (.bool false) ∧ w'.cell? ⟨g8, 3, none⟩ = some (.int .i64 0) ∧ w'.cell? ⟨g8, 4, none⟩ = some (.int .i64 0) ∧ w'.cell? ⟨g8, 5, none⟩ = some (.int .i64 0) ∧ w'.cell? ⟨g8, 6, none⟩ = some (.int .i64 0) ∧ w'.cell? ⟨g8, 7, none⟩ = some (.int .i64 0) ∧ w'.cell? ⟨g8, 8, none⟩ = some (.int .i64 0) ∧ w'.cell? ⟨g8, 9, none⟩ = some (.int .i64 0) ∧ w'.cell? ⟨g8, 10, none⟩ = some (.int .i64 0) ∧ w'.cell? ⟨g8, 11, none⟩ = some (.int .i64 0) ∧ w'.cell? ⟨gr, 1, none⟩ = some (.int .i64 p2)) (ds := []) #[false, false, false, false, false, false, false, false] (by kernel_rfl) rfl rfl ⟨(blk_cell ST.out.b8 0).trans rfl, (blk_cell ST.out.b8 1).trans rfl, (blk_cell ST.out.b8 2).trans rfl, (blk_cell ST.out.b8 3).trans rfl, (blk_cell ST.out.b8 4).trans rfl, (blk_cell ST.out.b8 5).trans rfl, (blk_cell ST.out.b8 6).trans rfl, (blk_cell ST.out.b8 7).trans rfl, (blk_cell ST.out.b8 8).trans rfl, (blk_cell ST.out.b8 9).trans rfl, (blk_cell ST.out.b8 10).trans rfl, (blk_cell ST.out.b8 11).trans rfl, (blk_cell ST.out.br 1).trans rfl⟩ (fun hHeld => ?_); refine with_tabW object_Parse.tab20 object_Parse.bits20 (fun HT_ HW_ => ?_)
 generalize ws.drew = wd at ST hHeld ⊢
 obtain ⟨⟨o0, o1, o2, o3, o4, o5, o6, o7, o8, o9, o10, o11⟩, of0, of1, of2, of3, of4, of5, of6, of7, of8, of9, of10, of11⟩ := cells12 ST.out.b4
 have n94 : g8 ≠ g4 := ST.out.d48.symm
 have nr4 : gr ≠ g4 := (blk_ne ST.out.br ST.out.b4 (by decide))
 refine pureA (i := 1) (N := some 90) HT_ ?_
 refine pureA (i := 2) (N := some 91) HT_ ?_
 refine pureA (i := 3) (N := some 92) HT_ ?_
 refine takeA (i := 0) (N := some 89) HT_ HW_ hHeld ?_
 refine takeA (i := 4) (N := some 93) HT_ HW_ hHeld ?_
 refine oneA (i := 5) (N := none) HT_ (fun K hK => ?_)
 refine skip_ (w1 := ?_) (by rfl) rfl ?_ ?_
 rotate_left
 ·go_simp
  rfl
 refine hK.out _ _ ?_ (fun hHeld2 => ?_)
 ·refine ⟨?_, ?_, ?_, ?_, ?_, ?_, ?_, ?_, ?_, ?_, ?_, ?_, ?_⟩
  ·(repeat (first | refine (cell_far n94 _).trans ?_ | refine (cell_far nr4 _).trans ?_)); exact hHeld.1
  ·(repeat (first | refine (cell_far n94 _).trans ?_ | refine (cell_far nr4 _).trans ?_)); exact hHeld.2.1
  ·(repeat (first | refine (cell_far n94 _).trans ?_ | refine (cell_far nr4 _).trans ?_)); exact hHeld.2.2.1
  ·(repeat (first | refine (cell_far n94 _).trans ?_ | refine (cell_far nr4 _).trans ?_)); exact hHeld.2.2.2.1
  ·(repeat (first | refine (cell_far n94 _).trans ?_ | refine (cell_far nr4 _).trans ?_)); exact hHeld.2.2.2.2.1
  ·(repeat (first | refine (cell_far n94 _).trans ?_ | refine (cell_far nr4 _).trans ?_)); exact hHeld.2.2.2.2.2.1
  ·(repeat (first | refine (cell_far n94 _).trans ?_ | refine (cell_far nr4 _).trans ?_)); exact hHeld.2.2.2.2.2.2.1
  ·(repeat (first | refine (cell_far n94 _).trans ?_ | refine (cell_far nr4 _).trans ?_)); exact hHeld.2.2.2.2.2.2.2.1
  ·(repeat (first | refine (cell_far n94 _).trans ?_ | refine (cell_far nr4 _).trans ?_)); exact hHeld.2.2.2.2.2.2.2.2.1
  ·(repeat (first | refine (cell_far n94 _).trans ?_ | refine (cell_far nr4 _).trans ?_)); exact hHeld.2.2.2.2.2.2.2.2.2.1
  ·(repeat (first | refine (cell_far n94 _).trans ?_ | refine (cell_far nr4 _).trans ?_)); exact hHeld.2.2.2.2.2.2.2.2.2.2.1
  ·(repeat (first | refine (cell_far n94 _).trans ?_ | refine (cell_far nr4 _).trans ?_)); exact hHeld.2.2.2.2.2.2.2.2.2.2.2.1
  ·(repeat (first | refine (cell_far n94 _).trans ?_ | refine (cell_far nr4 _).trans ?_)); exact hHeld.2.2.2.2.2.2.2.2.2.2.2.2
 clear hHeld
 have hHeld := hHeld2
 clear hHeld2
 clear hK K
 refine pureA (i := 6) (N := some 5) HT_ ?_
 refine pureA (i := 7) (N := some 6) HT_ ?_
 refine done_ (done_of HT_.out (by kernel_rfl)) ?_
 clear HT_ HW_
 try go_wp2
 refine bodyPost_ret (results_ctt rfl _ _ g4 45 #[.int .i64 1, .int .i64 d, .bool false, .int .i64 0, .int .i64 0, .int .i64 0, .int .i64 0, .int .i64 0, .int .i64 0, .int .i64 0, .int .i64 0, .int .i64 0] (0, 0) _ rfl (blk_put12 ST.out.b4 (.int .i64 1) (.int .i64 d) (.bool false) (.int .i64 0) (.int .i64 0) (.int .i64 0) (.int .i64 0) (.int .i64 0) (.int .i64 0) (.int .i64 0) (.int .i64 0) (.int .i64 0)) Try.underlying45 rfl (by kernel_rfl)) rfl ?_
 exact ⟨rfl, (below_set12 ST.out.bl ST.out.n4)⟩
theorem op_u_e (A0 : Option Addr) (c0 : Nat) (l0 : List Int) (a1 : Int) (w : World) (n : Bool) (k p1 e1 d p2 e2 p3 e3 a b c_ dd i : Int) (HL : l0.length ≤ 1000000000000) (HY : Bytes l0) (HR0 : Kd.C (Kd.int .u8) w A0 l0.length l0) (HC0 : l0.length ≤ c0) (HG1 : rdN l0 1 a1 0 = (k, p1, e1)) (he : e1 = 0) (hk : k = 2) (HG2 : rdN l0 1 p1 0 = (d, p2, e2)) (HG3 : rdH l0 p2 e2 = (n, a, b, c_, dd, i, p3, e3)) (hf : ¬ e3 = 0) :
  Calls Try.prog 33 #[.slice A0 l0.length c0, .int .i64 a1] w fun e w' => e = .returned (.tuple #[.agg #[.int .i64 0, .int .i64 0, .bool false, .int .i64 0, .int .i64 0, .int .i64 0, .int .i64 0, .int .i64 0, .int .i64 0, .int .i64 0, .int .i64 0, .int .i64 0], .int .i64 0, .int .i64 e3]) ∧ Below w.heap.size w w' := by
 have hu27 := Try.underlying45
 have hu25 := Try.underlying43
 have hu23 := Try.underlying41
 have hu51 := Try.underlying77
 replace HL := Aside0.mk HL
 replace HY := Aside0.mk HY
 replace HR0 := Aside0.mk HR0
 replace HC0 := Aside0.mk HC0
 replace HG1 := Aside0.mk HG1
 replace HG2 := Aside0.mk HG2
 replace HG3 := Aside0.mk HG3
 subst he
 subst hk
 have b8 : (e3 == 0) = false := beq_eq_false_iff_ne.mpr hf
 have b9 : (e3 != 0) = true := bne_iff_ne.mpr hf
 clear hf
 go_enter Try.func33, Try.ntmps33
 go_upto_region 3 with (first
  | ((with_reducible refine gate_dst (N := 4) rfl ?_); refine box_event ?hg (N := 4) ?hd (cs := #[.int .i64 0, .int .i64 0, .bool false, .int .i64 0, .int .i64 0, .int .i64 0, .int .i64 0, .int .i64 0, .int .i64 0, .int .i64 0, .int .i64 0, .int .i64 0]) (t := 45) ?hr ?_; (case hd => rfl); (case hg => rfl); (case hr => first | (go_simp; done) | (go_simp; rfl)); intro g4 hg w4 hbox hb; have HB4 := Aside0.mk hb; have G4 := Aside0.mk (Nat.le_of_eq hg.symm); have B4 := Aside0.mk hbox; clear hb hbox hg)
  | ((with_reducible refine gate_dst (N := 12) rfl ?_); refine box_event ?hg (N := 12) ?hd (cs := RdC A0 l0.length c0 a1 0) (t := 77) ?hr ?_; (case hd => rfl); (case hg => rfl); (case hr => first | (go_simp; done) | (go_simp; rfl)); intro gr hg w5 hbox hb; have HB5 := Aside0.mk (below_step HB4.out hb); have GR := Aside0.mk (show w.heap.size ≤ gr by rw [hg]; exact below_size HB4.out); have B45 := Aside0.mk (blk_below B4.out hb); have BR := Aside0.mk hbox; clear hb hbox hg HB4 B4)
  | ((with_reducible refine gate_dst (N := 14) rfl ?_); refine goesA (some 14) Try.func42 #[.pointer (some ⟨gr, 0, none⟩), .int .i64 1] ?_; (with_reducible refine (or_number gr A0 c0 l0 a1 0 1 _ _ _ _ HG1.out HY.out HL.out (Kd.C_below HR0.out HB5.out) HC0.out BR.out).mono ?_); rintro x_ w14 ⟨rfl, hbx, hgr⟩; refine ⟨_, rfl, ?_⟩; have HB6 := Aside0.mk (pw_below_grown HB5.out (some gr) (below_size HB5.out) hgr (fun k_ e_ => by cases e_; exact GR.out)); have B46 := Aside0.mk (blk_grown B45.out hgr (fun e_ => blk_ne B45.out BR.out (by decide) (Option.some.inj e_))); have BR6 := Aside0.mk hbx; clear hbx hgr HB5 B45 BR)
  | ((with_reducible refine gate_dst (N := 8) rfl ?_); refine box_event ?hg (N := 8) ?hd (cs := #[.int .i64 0, .int .i64 0, .bool false, .int .i64 0, .int .i64 0, .int .i64 0, .int .i64 0, .int .i64 0, .int .i64 0, .int .i64 0, .int .i64 0, .int .i64 0]) (t := 45) ?hr ?_; (case hd => rfl); (case hg => rfl); (case hr => first | (go_simp; done) | (go_simp; rfl)); intro g8 hg w7 hbox hb; have ST0 := Aside0.mk (OpSt.mk (blk_below B46.out hb) hbox (blk_below BR6.out hb) (below_step HB6.out hb) G4.out (by rw [hg]; exact below_size HB6.out) GR.out (by rw [hg]; exact Nat.ne_of_lt (blk_lt B46.out))); clear hb hbox hg; obtain ⟨⟨u0, u1, u2, u3, u4, u5, u6, u7, u8, u9, u10, u11⟩, uf0, uf1, uf2, uf3, uf4, uf5, uf6, uf7, uf8, uf9, uf10, uf11⟩ := cells12 ST0.out.b8))
 have STn := Aside0.mk ((OpSt.put12 ST0.out (.int .i64 2) (.int .i64 0) (.bool false) (.int .i64 0) (.int .i64 0) (.int .i64 0) (.int .i64 0) (.int .i64 0) (.int .i64 0) (.int .i64 0) (.int .i64 0) (.int .i64 0)))
 clear ST0
 have ST := STn
 clear STn
 generalize ((((((((((((w7.setCell ⟨g8, 0, none⟩ (.int .i64 2)).setCell ⟨g8, 1, none⟩ (.int .i64 0)).setCell ⟨g8, 2, none⟩ (.bool false)).setCell ⟨g8, 3, none⟩ (.int .i64 0)).setCell ⟨g8, 4, none⟩ (.int .i64 0)).setCell ⟨g8, 5, none⟩ (.int .i64 0)).setCell ⟨g8, 6, none⟩ (.int .i64 0)).setCell ⟨g8, 7, none⟩ (.int .i64 0)).setCell ⟨g8, 8, none⟩ (.int .i64 0)).setCell ⟨g8, 9, none⟩ (.int .i64 0)).setCell ⟨g8, 10, none⟩ (.int .i64 0)).setCell ⟨g8, 11, none⟩ (.int .i64 0)) = wq1 at ST ⊢
 clear u0 uf0 u1 uf1 u2 uf2 u3 uf3 u4 uf4 u5 uf5 u6 uf6 u7 uf7 u8 uf8 u9 uf9 u10 uf10 u11 uf11
 obtain ⟨⟨va0, va1, va2⟩, vaf0, vaf1, vaf2⟩ := cells3 ST.out.br
 obtain ⟨⟨ya0, ya1, ya2, ya3, ya4, ya5, ya6, ya7, ya8, ya9, ya10, ya11⟩, yaf0, yaf1, yaf2, yaf3, yaf4, yaf5, yaf6, yaf7, yaf8, yaf9, yaf10, yaf11⟩ := cells12 ST.out.b8
 go_upto_region 6 with (((with_reducible refine gate_dst (N := 35) rfl ?_); refine goesA (some 35) Try.func42 #[.pointer (some ⟨gr, 0, none⟩), .int .i64 1] ?_; (with_reducible refine (or_number gr A0 c0 l0 _ _ 1 _ _ _ _ HG2.out HY.out HL.out (Kd.C_below HR0.out ST.out.bl) HC0.out ST.out.br).mono ?_); rintro x_ w35 ⟨rfl, hbx, hgr⟩; refine ⟨_, rfl, ?_⟩; have STn := Aside0.mk (ST.out.step hbx hgr); clear ST hbx hgr; have ST := STn; clear STn; obtain ⟨⟨x0, x1, x2, x3, x4, x5, x6, x7, x8, x9, x10, x11⟩, xf0, xf1, xf2, xf3, xf4, xf5, xf6, xf7, xf8, xf9, xf10, xf11⟩ := cells12 ST.out.b8))
 clear va0 vaf0 va1 vaf1 va2 vaf2 ya0 yaf0 ya1 yaf1 ya2 yaf2 ya3 yaf3 ya4 yaf4 ya5 yaf5 ya6 yaf6 ya7 yaf7 ya8 yaf8 ya9 yaf9 ya10 yaf10 ya11 yaf11
 clear x0 xf0 x1 xf1 x2 xf2 x3 xf3 x4 xf4 x5 xf5 x6 xf6 x7 xf7 x8 xf8 x9 xf9 x10 xf10 x11 xf11
 have STn := Aside0.mk ((OpSt.put ST.out 1 (.int .i64 d) (cs2 := #[.int .i64 2, .int .i64 d, .bool false, .int .i64 0, .int .i64 0, .int .i64 0, .int .i64 0, .int .i64 0, .int .i64 0, .int .i64 0, .int .i64 0, .int .i64 0]) rfl))
 clear ST
 have ST := STn
 clear STn
 generalize (w35.setCell ⟨g8, 1, none⟩ (.int .i64 d)) = wq2 at ST ⊢
 obtain ⟨⟨yc0, yc1, yc2, yc3, yc4, yc5, yc6, yc7, yc8, yc9, yc10, yc11⟩, ycf0, ycf1, ycf2, ycf3, ycf4, ycf5, ycf6, ycf7, ycf8, ycf9, ycf10, ycf11⟩ := cells12 ST.out.b8
 go_upto_region 16 with (((with_reducible refine gate_dst (N := 42) rfl ?_); refine goesA (some 42) Try.func43 #[.pointer (some ⟨gr, 0, none⟩)] ?_; (with_reducible refine (or_height gr A0 c0 l0 _ _ _ _ _ _ _ _ _ _ _ HG3.out HY.out HL.out (Kd.C_below HR0.out ST.out.bl) HC0.out ST.out.br).mono ?_); rintro x_ w42 ⟨rfl, hbx, hgr⟩; refine ⟨_, rfl, ?_⟩; have STn := Aside0.mk (ST.out.step hbx hgr); clear ST hbx hgr; have ST := STn; clear STn; obtain ⟨⟨x0, x1, x2, x3, x4, x5, x6, x7, x8, x9, x10, x11⟩, xf0, xf1, xf2, xf3, xf4, xf5, xf6, xf7, xf8, xf9, xf10, xf11⟩ := cells12 ST.out.b8))
 clear x0 xf0 x1 xf1 x2 xf2 x3 xf3 x4 xf4 x5 xf5 x6 xf6 x7 xf7 x8 xf8 x9 xf9 x10 xf10 x11 xf11
 clear yc0 ycf0 yc1 ycf1 yc2 ycf2 yc3 ycf3 yc4 ycf4 yc5 ycf5 yc6 ycf6 yc7 ycf7 yc8 ycf8 yc9 ycf9 yc10 ycf10 yc11 ycf11
 have STn := Aside0.mk ((OpSt.put (OpSt.put (OpSt.put (OpSt.put (OpSt.put (OpSt.put ST.out 2 (.bool n) (cs2 := #[.int .i64 2, .int .i64 d, .bool n, .int .i64 0, .int .i64 0, .int .i64 0, .int .i64 0, .int .i64 0, .int .i64 0, .int .i64 0, .int .i64 0, .int .i64 0]) rfl) 3 (.int .i64 a) (cs2 := #[.int .i64 2, .int .i64 d, .bool n, .int .i64 a, .int .i64 0, .int .i64 0, .int .i64 0, .int .i64 0, .int .i64 0, .int .i64 0, .int .i64 0, .int .i64 0]) rfl) 4 (.int .i64 b) (cs2 := #[.int .i64 2, .int .i64 d, .bool n, .int .i64 a, .int .i64 b, .int .i64 0, .int .i64 0, .int .i64 0, .int .i64 0, .int .i64 0, .int .i64 0, .int .i64 0]) rfl) 5 (.int .i64 c_) (cs2 := #[.int .i64 2, .int .i64 d, .bool n, .int .i64 a, .int .i64 b, .int .i64 c_, .int .i64 0, .int .i64 0, .int .i64 0, .int .i64 0, .int .i64 0, .int .i64 0]) rfl) 6 (.int .i64 dd) (cs2 := #[.int .i64 2, .int .i64 d, .bool n, .int .i64 a, .int .i64 b, .int .i64 c_, .int .i64 dd, .int .i64 0, .int .i64 0, .int .i64 0, .int .i64 0, .int .i64 0]) rfl) 7 (.int .i64 i) (cs2 := #[.int .i64 2, .int .i64 d, .bool n, .int .i64 a, .int .i64 b, .int .i64 c_, .int .i64 dd, .int .i64 i, .int .i64 0, .int .i64 0, .int .i64 0, .int .i64 0]) rfl))
 clear ST
 have ST := STn
 clear STn
 generalize ((((((w42.setCell ⟨g8, 2, none⟩ (.bool n)).setCell ⟨g8, 3, none⟩ (.int .i64 a)).setCell ⟨g8, 4, none⟩ (.int .i64 b)).setCell ⟨g8, 5, none⟩ (.int .i64 c_)).setCell ⟨g8, 6, none⟩ (.int .i64 dd)).setCell ⟨g8, 7, none⟩ (.int .i64 i)) = wq3 at ST ⊢
 obtain ⟨⟨vd0, vd1, vd2⟩, vdf0, vdf1, vdf2⟩ := cells3 ST.out.br
 obtain ⟨⟨yd0, yd1, yd2, yd3, yd4, yd5, yd6, yd7, yd8, yd9, yd10, yd11⟩, ydf0, ydf1, ydf2, ydf3, ydf4, ydf5, ydf6, ydf7, ydf8, ydf9, ydf10, ydf11⟩ := cells12 ST.out.b8
 go_upto_region 19 with (fail)
 clear vd0 vdf0 vd1 vdf1 vd2 vdf2 yd0 ydf0 yd1 ydf1 yd2 ydf2 yd3 ydf3 yd4 ydf4 yd5 ydf5 yd6 ydf6 yd7 ydf7 yd8 ydf8 yd9 ydf9 yd10 ydf10 yd11 ydf11
 have STd := Aside0.mk (OpSt.drew ST.out)
 clear ST
 have ST := STd
 clear STd
 refine start_ (n := 8) (S := fun w' => w'.cell? ⟨gr, 2, none⟩ = some (.int .i64 e3)) (ds := []) #[false, false, false, false, false, false, false, false] (by kernel_rfl) rfl rfl ((blk_cell ST.out.br 2).trans rfl) (fun hHeld => ?_); refine with_tabW object_Parse.tab19 object_Parse.bits19 (fun HT_ HW_ => ?_)
 generalize wq3.drew = wd at ST hHeld ⊢
 obtain ⟨⟨o0, o1, o2, o3, o4, o5, o6, o7, o8, o9, o10, o11⟩, of0, of1, of2, of3, of4, of5, of6, of7, of8, of9, of10, of11⟩ := cells12 ST.out.b4
 have n94 : g8 ≠ g4 := ST.out.d48.symm
 have nr4 : gr ≠ g4 := (blk_ne ST.out.br ST.out.b4 (by decide))
 refine pureA (i := 0) (N := some 84) HT_ ?_
 refine pureA (i := 1) (N := some 85) HT_ ?_
 refine pureA (i := 2) (N := some 86) HT_ ?_
 refine pureA (i := 3) (N := some 87) HT_ ?_
 refine takeA (i := 4) (N := some 88) HT_ HW_ hHeld ?_
 refine oneA (i := 5) (N := none) HT_ (fun K hK => ?_)
 refine skip_ (w1 := ?_) (by rfl) rfl ?_ ?_
 rotate_left
 ·go_simp
  rfl
 refine hK.out _ _ ?_ (fun hHeld2 => ?_)
 ·(repeat (first | refine (cell_far n94 _).trans ?_ | refine (cell_far nr4 _).trans ?_)); exact hHeld
 clear hHeld
 have hHeld := hHeld2
 clear hHeld2
 clear hK K
 refine pureA (i := 6) (N := some 5) HT_ ?_
 refine pureA (i := 7) (N := some 6) HT_ ?_
 refine done_ (done_of HT_.out (by kernel_rfl)) ?_
 clear HT_ HW_
 try go_wp2
 refine bodyPost_ret (results_ctt rfl _ _ g4 45 #[.int .i64 0, .int .i64 0, .bool false, .int .i64 0, .int .i64 0, .int .i64 0, .int .i64 0, .int .i64 0, .int .i64 0, .int .i64 0, .int .i64 0, .int .i64 0] (0, 0) _ rfl (blk_put12 ST.out.b4 (.int .i64 0) (.int .i64 0) (.bool false) (.int .i64 0) (.int .i64 0) (.int .i64 0) (.int .i64 0) (.int .i64 0) (.int .i64 0) (.int .i64 0) (.int .i64 0) (.int .i64 0)) Try.underlying45 rfl (by kernel_rfl)) rfl ?_
 exact ⟨rfl, (below_set12 ST.out.bl ST.out.n4)⟩
theorem op_u_no (A0 : Option Addr) (c0 : Nat) (l0 : List Int) (a1 : Int) (w : World) (n : Bool) (k p1 e1 d p2 e2 p3 e3 a b c_ dd i : Int) (HL : l0.length ≤ 1000000000000) (HY : Bytes l0) (HR0 : Kd.C (Kd.int .u8) w A0 l0.length l0) (HC0 : l0.length ≤ c0) (HG1 : rdN l0 1 a1 0 = (k, p1, e1)) (he : e1 = 0) (hk : k = 2) (HG2 : rdN l0 1 p1 0 = (d, p2, e2)) (HG3 : rdH l0 p2 e2 = (n, a, b, c_, dd, i, p3, e3)) (hf : e3 = 0) (hr : ¬ RO k d n a b c_ dd i 0 0 0 0) :
  Calls Try.prog 33 #[.slice A0 l0.length c0, .int .i64 a1] w fun e w' => e = .returned (.tuple #[.agg #[.int .i64 0, .int .i64 0, .bool false, .int .i64 0, .int .i64 0, .int .i64 0, .int .i64 0, .int .i64 0, .int .i64 0, .int .i64 0, .int .i64 0, .int .i64 0], .int .i64 0, .int .i64 4]) ∧ Below w.heap.size w w' := by
 have hu27 := Try.underlying45
 have hu25 := Try.underlying43
 have hu23 := Try.underlying41
 have hu51 := Try.underlying77
 replace HL := Aside0.mk HL
 replace HY := Aside0.mk HY
 replace HR0 := Aside0.mk HR0
 replace HC0 := Aside0.mk HC0
 replace HG1 := Aside0.mk HG1
 replace HG2 := Aside0.mk HG2
 replace HG3 := Aside0.mk HG3
 subst he
 subst hk
 subst hf
 obtain ⟨K, hK⟩ := (oc_eq 2 d n a b c_ dd i 0 0 0 0).rounds
 rw [if_neg hr] at hK
 have HK := Aside0.mk hK
 clear hK hr
 go_enter Try.func33, Try.ntmps33
 go_upto_region 3 with (first
  | ((with_reducible refine gate_dst (N := 4) rfl ?_); refine box_event ?hg (N := 4) ?hd (cs := #[.int .i64 0, .int .i64 0, .bool false, .int .i64 0, .int .i64 0, .int .i64 0, .int .i64 0, .int .i64 0, .int .i64 0, .int .i64 0, .int .i64 0, .int .i64 0]) (t := 45) ?hr ?_; (case hd => rfl); (case hg => rfl); (case hr => first | (go_simp; done) | (go_simp; rfl)); intro g4 hg w4 hbox hb; have HB4 := Aside0.mk hb; have G4 := Aside0.mk (Nat.le_of_eq hg.symm); have B4 := Aside0.mk hbox; clear hb hbox hg)
  | ((with_reducible refine gate_dst (N := 12) rfl ?_); refine box_event ?hg (N := 12) ?hd (cs := RdC A0 l0.length c0 a1 0) (t := 77) ?hr ?_; (case hd => rfl); (case hg => rfl); (case hr => first | (go_simp; done) | (go_simp; rfl)); intro gr hg w5 hbox hb; have HB5 := Aside0.mk (below_step HB4.out hb); have GR := Aside0.mk (show w.heap.size ≤ gr by rw [hg]; exact below_size HB4.out); have B45 := Aside0.mk (blk_below B4.out hb); have BR := Aside0.mk hbox; clear hb hbox hg HB4 B4)
  | ((with_reducible refine gate_dst (N := 14) rfl ?_); refine goesA (some 14) Try.func42 #[.pointer (some ⟨gr, 0, none⟩), .int .i64 1] ?_; (with_reducible refine (or_number gr A0 c0 l0 a1 0 1 _ _ _ _ HG1.out HY.out HL.out (Kd.C_below HR0.out HB5.out) HC0.out BR.out).mono ?_); rintro x_ w14 ⟨rfl, hbx, hgr⟩; refine ⟨_, rfl, ?_⟩; have HB6 := Aside0.mk (pw_below_grown HB5.out (some gr) (below_size HB5.out) hgr (fun k_ e_ => by cases e_; exact GR.out)); have B46 := Aside0.mk (blk_grown B45.out hgr (fun e_ => blk_ne B45.out BR.out (by decide) (Option.some.inj e_))); have BR6 := Aside0.mk hbx; clear hbx hgr HB5 B45 BR)
  | ((with_reducible refine gate_dst (N := 8) rfl ?_); refine box_event ?hg (N := 8) ?hd (cs := #[.int .i64 0, .int .i64 0, .bool false, .int .i64 0, .int .i64 0, .int .i64 0, .int .i64 0, .int .i64 0, .int .i64 0, .int .i64 0, .int .i64 0, .int .i64 0]) (t := 45) ?hr ?_; (case hd => rfl); (case hg => rfl); (case hr => first | (go_simp; done) | (go_simp; rfl)); intro g8 hg w7 hbox hb; have ST0 := Aside0.mk (OpSt.mk (blk_below B46.out hb) hbox (blk_below BR6.out hb) (below_step HB6.out hb) G4.out (by rw [hg]; exact below_size HB6.out) GR.out (by rw [hg]; exact Nat.ne_of_lt (blk_lt B46.out))); clear hb hbox hg; obtain ⟨⟨u0, u1, u2, u3, u4, u5, u6, u7, u8, u9, u10, u11⟩, uf0, uf1, uf2, uf3, uf4, uf5, uf6, uf7, uf8, uf9, uf10, uf11⟩ := cells12 ST0.out.b8))
 have STn := Aside0.mk ((OpSt.put12 ST0.out (.int .i64 2) (.int .i64 0) (.bool false) (.int .i64 0) (.int .i64 0) (.int .i64 0) (.int .i64 0) (.int .i64 0) (.int .i64 0) (.int .i64 0) (.int .i64 0) (.int .i64 0)))
 clear ST0
 have ST := STn
 clear STn
 generalize ((((((((((((w7.setCell ⟨g8, 0, none⟩ (.int .i64 2)).setCell ⟨g8, 1, none⟩ (.int .i64 0)).setCell ⟨g8, 2, none⟩ (.bool false)).setCell ⟨g8, 3, none⟩ (.int .i64 0)).setCell ⟨g8, 4, none⟩ (.int .i64 0)).setCell ⟨g8, 5, none⟩ (.int .i64 0)).setCell ⟨g8, 6, none⟩ (.int .i64 0)).setCell ⟨g8, 7, none⟩ (.int .i64 0)).setCell ⟨g8, 8, none⟩ (.int .i64 0)).setCell ⟨g8, 9, none⟩ (.int .i64 0)).setCell ⟨g8, 10, none⟩ (.int .i64 0)).setCell ⟨g8, 11, none⟩ (.int .i64 0)) = wq1 at ST ⊢
 clear u0 uf0 u1 uf1 u2 uf2 u3 uf3 u4 uf4 u5 uf5 u6 uf6 u7 uf7 u8 uf8 u9 uf9 u10 uf10 u11 uf11
 obtain ⟨⟨va0, va1, va2⟩, vaf0, vaf1, vaf2⟩ := cells3 ST.out.br
 obtain ⟨⟨ya0, ya1, ya2, ya3, ya4, ya5, ya6, ya7, ya8, ya9, ya10, ya11⟩, yaf0, yaf1, yaf2, yaf3, yaf4, yaf5, yaf6, yaf7, yaf8, yaf9, yaf10, yaf11⟩ := cells12 ST.out.b8
 go_upto_region 6 with (((with_reducible refine gate_dst (N := 35) rfl ?_); refine goesA (some 35) Try.func42 #[.pointer (some ⟨gr, 0, none⟩), .int .i64 1] ?_; (with_reducible refine (or_number gr A0 c0 l0 _ _ 1 _ _ _ _ HG2.out HY.out HL.out (Kd.C_below HR0.out ST.out.bl) HC0.out ST.out.br).mono ?_); rintro x_ w35 ⟨rfl, hbx, hgr⟩; refine ⟨_, rfl, ?_⟩; have STn := Aside0.mk (ST.out.step hbx hgr); clear ST hbx hgr; have ST := STn; clear STn; obtain ⟨⟨x0, x1, x2, x3, x4, x5, x6, x7, x8, x9, x10, x11⟩, xf0, xf1, xf2, xf3, xf4, xf5, xf6, xf7, xf8, xf9, xf10, xf11⟩ := cells12 ST.out.b8))
 clear va0 vaf0 va1 vaf1 va2 vaf2 ya0 yaf0 ya1 yaf1 ya2 yaf2 ya3 yaf3 ya4 yaf4 ya5 yaf5 ya6 yaf6 ya7 yaf7 ya8 yaf8 ya9 yaf9 ya10 yaf10 ya11 yaf11
 clear x0 xf0 x1 xf1 x2 xf2 x3 xf3 x4 xf4 x5 xf5 x6 xf6 x7 xf7 x8 xf8 x9 xf9 x10 xf10 x11 xf11
 have STn := Aside0.mk ((OpSt.put ST.out 1 (.int .i64 d) (cs2 := #[.int .i64 2, .int .i64 d, .bool false, .int .i64 0, .int .i64 0, .int .i64 0, .int .i64 0, .int .i64 0, .int .i64 0, .int .i64 0, .int .i64 0, .int .i64 0]) rfl))
 clear ST
 have ST := STn
 clear STn
 generalize (w35.setCell ⟨g8, 1, none⟩ (.int .i64 d)) = wq2 at ST ⊢
 obtain ⟨⟨yc0, yc1, yc2, yc3, yc4, yc5, yc6, yc7, yc8, yc9, yc10, yc11⟩, ycf0, ycf1, ycf2, ycf3, ycf4, ycf5, ycf6, ycf7, ycf8, ycf9, ycf10, ycf11⟩ := cells12 ST.out.b8
 go_upto_region 16 with (((with_reducible refine gate_dst (N := 42) rfl ?_); refine goesA (some 42) Try.func43 #[.pointer (some ⟨gr, 0, none⟩)] ?_; (with_reducible refine (or_height gr A0 c0 l0 _ _ _ _ _ _ _ _ _ _ _ HG3.out HY.out HL.out (Kd.C_below HR0.out ST.out.bl) HC0.out ST.out.br).mono ?_); rintro x_ w42 ⟨rfl, hbx, hgr⟩; refine ⟨_, rfl, ?_⟩; have STn := Aside0.mk (ST.out.step hbx hgr); clear ST hbx hgr; have ST := STn; clear STn; obtain ⟨⟨x0, x1, x2, x3, x4, x5, x6, x7, x8, x9, x10, x11⟩, xf0, xf1, xf2, xf3, xf4, xf5, xf6, xf7, xf8, xf9, xf10, xf11⟩ := cells12 ST.out.b8))
 clear x0 xf0 x1 xf1 x2 xf2 x3 xf3 x4 xf4 x5 xf5 x6 xf6 x7 xf7 x8 xf8 x9 xf9 x10 xf10 x11 xf11
 clear yc0 ycf0 yc1 ycf1 yc2 ycf2 yc3 ycf3 yc4 ycf4 yc5 ycf5 yc6 ycf6 yc7 ycf7 yc8 ycf8 yc9 ycf9 yc10 ycf10 yc11 ycf11
 have STn := Aside0.mk ((OpSt.put (OpSt.put (OpSt.put (OpSt.put (OpSt.put (OpSt.put ST.out 2 (.bool n) (cs2 := #[.int .i64 2, .int .i64 d, .bool n, .int .i64 0, .int .i64 0, .int .i64 0, .int .i64 0, .int .i64 0, .int .i64 0, .int .i64 0, .int .i64 0, .int .i64 0]) rfl) 3 (.int .i64 a) (cs2 := #[.int .i64 2, .int .i64 d, .bool n, .int .i64 a, .int .i64 0, .int .i64 0, .int .i64 0, .int .i64 0, .int .i64 0, .int .i64 0, .int .i64 0, .int .i64 0]) rfl) 4 (.int .i64 b) (cs2 := #[.int .i64 2, .int .i64 d, .bool n, .int .i64 a, .int .i64 b, .int .i64 0, .int .i64 0, .int .i64 0, .int .i64 0, .int .i64 0, .int .i64 0, .int .i64 0]) rfl) 5 (.int .i64 c_) (cs2 := #[.int .i64 2, .int .i64 d, .bool n, .int .i64 a, .int .i64 b, .int .i64 c_, .int .i64 0, .int .i64 0, .int .i64 0, .int .i64 0, .int .i64 0, .int .i64 0]) rfl) 6 (.int .i64 dd) (cs2 := #[.int .i64 2, .int .i64 d, .bool n, .int .i64 a, .int .i64 b, .int .i64 c_, .int .i64 dd, .int .i64 0, .int .i64 0, .int .i64 0, .int .i64 0, .int .i64 0]) rfl) 7 (.int .i64 i) (cs2 := #[.int .i64 2, .int .i64 d, .bool n, .int .i64 a, .int .i64 b, .int .i64 c_, .int .i64 dd, .int .i64 i, .int .i64 0, .int .i64 0, .int .i64 0, .int .i64 0]) rfl))
 clear ST
 have ST := STn
 clear STn
 generalize ((((((w42.setCell ⟨g8, 2, none⟩ (.bool n)).setCell ⟨g8, 3, none⟩ (.int .i64 a)).setCell ⟨g8, 4, none⟩ (.int .i64 b)).setCell ⟨g8, 5, none⟩ (.int .i64 c_)).setCell ⟨g8, 6, none⟩ (.int .i64 dd)).setCell ⟨g8, 7, none⟩ (.int .i64 i)) = wq3 at ST ⊢
 obtain ⟨⟨vd0, vd1, vd2⟩, vdf0, vdf1, vdf2⟩ := cells3 ST.out.br
 obtain ⟨⟨yd0, yd1, yd2, yd3, yd4, yd5, yd6, yd7, yd8, yd9, yd10, yd11⟩, ydf0, ydf1, ydf2, ydf3, ydf4, ydf5, ydf6, ydf7, ydf8, ydf9, ydf10, ydf11⟩ := cells12 ST.out.b8
 go_upto_region 19 with ((go_at_call 34; (with_reducible refine (object_Check.calls K 2 d n a b c_ dd i 0 0 0 0 1 _ HK.out).mono ?_); rintro x_ ws ⟨rfl, hb⟩; have STn := Aside0.mk (OpSt.below ST.out hb); clear ST hb; have ST := STn; clear STn; obtain ⟨⟨s0, s1, s2⟩, sf0, sf1, sf2⟩ := cells3 ST.out.br))
 clear vd0 vdf0 vd1 vdf1 vd2 vdf2 yd0 ydf0 yd1 ydf1 yd2 ydf2 yd3 ydf3 yd4 ydf4 yd5 ydf5 yd6 ydf6 yd7 ydf7 yd8 ydf8 yd9 ydf9 yd10 ydf10 yd11 ydf11
 clear s0 sf0 s1 sf1 s2 sf2
 have STn := Aside0.mk ((OpSt.err ST.out 4))
 clear ST
 have ST := STn
 clear STn
 generalize (ws.setCell ⟨gr, 2, none⟩ (.int .i64 4)) = wq4 at ST ⊢
 have STd := Aside0.mk (OpSt.drew ST.out)
 clear ST
 have ST := STd
 clear STd
 refine start_ (n := 8) (S := fun w' => w'.cell? ⟨gr, 2, none⟩ = some (.int .i64 4)) (ds := []) #[false, false, false, false, false, false, false, false] (by kernel_rfl) rfl rfl ((blk_cell ST.out.br 2).trans rfl) (fun hHeld => ?_); refine with_tabW object_Parse.tab19 object_Parse.bits19 (fun HT_ HW_ => ?_)
 generalize wq4.drew = wd at ST hHeld ⊢
 obtain ⟨⟨o0, o1, o2, o3, o4, o5, o6, o7, o8, o9, o10, o11⟩, of0, of1, of2, of3, of4, of5, of6, of7, of8, of9, of10, of11⟩ := cells12 ST.out.b4
 have n94 : g8 ≠ g4 := ST.out.d48.symm
 have nr4 : gr ≠ g4 := (blk_ne ST.out.br ST.out.b4 (by decide))
 refine pureA (i := 0) (N := some 84) HT_ ?_
 refine pureA (i := 1) (N := some 85) HT_ ?_
 refine pureA (i := 2) (N := some 86) HT_ ?_
 refine pureA (i := 3) (N := some 87) HT_ ?_
 refine takeA (i := 4) (N := some 88) HT_ HW_ hHeld ?_
 refine oneA (i := 5) (N := none) HT_ (fun K hK => ?_)
 refine skip_ (w1 := ?_) (by rfl) rfl ?_ ?_
 rotate_left
 ·go_simp
  rfl
 refine hK.out _ _ ?_ (fun hHeld2 => ?_)
 ·(repeat (first | refine (cell_far n94 _).trans ?_ | refine (cell_far nr4 _).trans ?_)); exact hHeld
 clear hHeld
 have hHeld := hHeld2
 clear hHeld2
 clear hK K
 refine pureA (i := 6) (N := some 5) HT_ ?_
 refine pureA (i := 7) (N := some 6) HT_ ?_
 refine done_ (done_of HT_.out (by kernel_rfl)) ?_
 clear HT_ HW_
 try go_wp2
 refine bodyPost_ret (results_ctt rfl _ _ g4 45 #[.int .i64 0, .int .i64 0, .bool false, .int .i64 0, .int .i64 0, .int .i64 0, .int .i64 0, .int .i64 0, .int .i64 0, .int .i64 0, .int .i64 0, .int .i64 0] (0, 0) _ rfl (blk_put12 ST.out.b4 (.int .i64 0) (.int .i64 0) (.bool false) (.int .i64 0) (.int .i64 0) (.int .i64 0) (.int .i64 0) (.int .i64 0) (.int .i64 0) (.int .i64 0) (.int .i64 0) (.int .i64 0)) Try.underlying45 rfl (by kernel_rfl)) rfl ?_
 exact ⟨rfl, (below_set12 ST.out.bl ST.out.n4)⟩
theorem op_u_yes (A0 : Option Addr) (c0 : Nat) (l0 : List Int) (a1 : Int) (w : World) (n : Bool) (k p1 e1 d p2 e2 p3 e3 a b c_ dd i : Int) (HL : l0.length ≤ 1000000000000) (HY : Bytes l0) (HR0 : Kd.C (Kd.int .u8) w A0 l0.length l0) (HC0 : l0.length ≤ c0) (HG1 : rdN l0 1 a1 0 = (k, p1, e1)) (he : e1 = 0) (hk : k = 2) (HG2 : rdN l0 1 p1 0 = (d, p2, e2)) (HG3 : rdH l0 p2 e2 = (n, a, b, c_, dd, i, p3, e3)) (hf : e3 = 0) (hr : RO k d n a b c_ dd i 0 0 0 0) :
  Calls Try.prog 33 #[.slice A0 l0.length c0, .int .i64 a1] w fun e w' => e = .returned (.tuple #[.agg #[.int .i64 k, .int .i64 d, .bool n, .int .i64 a, .int .i64 b, .int .i64 c_, .int .i64 dd, .int .i64 i, .int .i64 0, .int .i64 0, .int .i64 0, .int .i64 0], .int .i64 p3, .int .i64 0]) ∧ Below w.heap.size w w' := by
 have hu27 := Try.underlying45
 have hu25 := Try.underlying43
 have hu23 := Try.underlying41
 have hu51 := Try.underlying77
 replace HL := Aside0.mk HL
 replace HY := Aside0.mk HY
 replace HR0 := Aside0.mk HR0
 replace HC0 := Aside0.mk HC0
 replace HG1 := Aside0.mk HG1
 replace HG2 := Aside0.mk HG2
 replace HG3 := Aside0.mk HG3
 subst he
 subst hk
 subst hf
 obtain ⟨K, hK⟩ := (oc_eq 2 d n a b c_ dd i 0 0 0 0).rounds
 rw [if_pos hr] at hK
 have HK := Aside0.mk hK
 clear hK hr
 go_enter Try.func33, Try.ntmps33
 go_upto_region 3 with (first
  | ((with_reducible refine gate_dst (N := 4) rfl ?_); refine box_event ?hg (N := 4) ?hd (cs := #[.int .i64 0, .int .i64 0, .bool false, .int .i64 0, .int .i64 0, .int .i64 0, .int .i64 0, .int .i64 0, .int .i64 0, .int .i64 0, .int .i64 0, .int .i64 0]) (t := 45) ?hr ?_; (case hd => rfl); (case hg => rfl); (case hr => first | (go_simp; done) | (go_simp; rfl)); intro g4 hg w4 hbox hb; have HB4 := Aside0.mk hb; have G4 := Aside0.mk (Nat.le_of_eq hg.symm); have B4 := Aside0.mk hbox; clear hb hbox hg)
  | ((with_reducible refine gate_dst (N := 12) rfl ?_); refine box_event ?hg (N := 12) ?hd (cs := RdC A0 l0.length c0 a1 0) (t := 77) ?hr ?_; (case hd => rfl); (case hg => rfl); (case hr => first | (go_simp; done) | (go_simp; rfl)); intro gr hg w5 hbox hb; have HB5 := Aside0.mk (below_step HB4.out hb); have GR := Aside0.mk (show w.heap.size ≤ gr by rw [hg]; exact below_size HB4.out); have B45 := Aside0.mk (blk_below B4.out hb); have BR := Aside0.mk hbox; clear hb hbox hg HB4 B4)
  | ((with_reducible refine gate_dst (N := 14) rfl ?_); refine goesA (some 14) Try.func42 #[.pointer (some ⟨gr, 0, none⟩), .int .i64 1] ?_; (with_reducible refine (or_number gr A0 c0 l0 a1 0 1 _ _ _ _ HG1.out HY.out HL.out (Kd.C_below HR0.out HB5.out) HC0.out BR.out).mono ?_); rintro x_ w14 ⟨rfl, hbx, hgr⟩; refine ⟨_, rfl, ?_⟩; have HB6 := Aside0.mk (pw_below_grown HB5.out (some gr) (below_size HB5.out) hgr (fun k_ e_ => by cases e_; exact GR.out)); have B46 := Aside0.mk (blk_grown B45.out hgr (fun e_ => blk_ne B45.out BR.out (by decide) (Option.some.inj e_))); have BR6 := Aside0.mk hbx; clear hbx hgr HB5 B45 BR)
  | ((with_reducible refine gate_dst (N := 8) rfl ?_); refine box_event ?hg (N := 8) ?hd (cs := #[.int .i64 0, .int .i64 0, .bool false, .int .i64 0, .int .i64 0, .int .i64 0, .int .i64 0, .int .i64 0, .int .i64 0, .int .i64 0, .int .i64 0, .int .i64 0]) (t := 45) ?hr ?_; (case hd => rfl); (case hg => rfl); (case hr => first | (go_simp; done) | (go_simp; rfl)); intro g8 hg w7 hbox hb; have ST0 := Aside0.mk (OpSt.mk (blk_below B46.out hb) hbox (blk_below BR6.out hb) (below_step HB6.out hb) G4.out (by rw [hg]; exact below_size HB6.out) GR.out (by rw [hg]; exact Nat.ne_of_lt (blk_lt B46.out))); clear hb hbox hg; obtain ⟨⟨u0, u1, u2, u3, u4, u5, u6, u7, u8, u9, u10, u11⟩, uf0, uf1, uf2, uf3, uf4, uf5, uf6, uf7, uf8, uf9, uf10, uf11⟩ := cells12 ST0.out.b8))
 have STn := Aside0.mk ((OpSt.put12 ST0.out (.int .i64 2) (.int .i64 0) (.bool false) (.int .i64 0) (.int .i64 0) (.int .i64 0) (.int .i64 0) (.int .i64 0) (.int .i64 0) (.int .i64 0) (.int .i64 0) (.int .i64 0)))
 clear ST0
 have ST := STn
 clear STn
 generalize ((((((((((((w7.setCell ⟨g8, 0, none⟩ (.int .i64 2)).setCell ⟨g8, 1, none⟩ (.int .i64 0)).setCell ⟨g8, 2, none⟩ (.bool false)).setCell ⟨g8, 3, none⟩ (.int .i64 0)).setCell ⟨g8, 4, none⟩ (.int .i64 0)).setCell ⟨g8, 5, none⟩ (.int .i64 0)).setCell ⟨g8, 6, none⟩ (.int .i64 0)).setCell ⟨g8, 7, none⟩ (.int .i64 0)).setCell ⟨g8, 8, none⟩ (.int .i64 0)).setCell ⟨g8, 9, none⟩ (.int .i64 0)).setCell ⟨g8, 10, none⟩ (.int .i64 0)).setCell ⟨g8, 11, none⟩ (.int .i64 0)) = wq1 at ST ⊢
 clear u0 uf0 u1 uf1 u2 uf2 u3 uf3 u4 uf4 u5 uf5 u6 uf6 u7 uf7 u8 uf8 u9 uf9 u10 uf10 u11 uf11
 obtain ⟨⟨va0, va1, va2⟩, vaf0, vaf1, vaf2⟩ := cells3 ST.out.br
 obtain ⟨⟨ya0, ya1, ya2, ya3, ya4, ya5, ya6, ya7, ya8, ya9, ya10, ya11⟩, yaf0, yaf1, yaf2, yaf3, yaf4, yaf5, yaf6, yaf7, yaf8, yaf9, yaf10, yaf11⟩ := cells12 ST.out.b8
 go_upto_region 6 with (((with_reducible refine gate_dst (N := 35) rfl ?_); refine goesA (some 35) Try.func42 #[.pointer (some ⟨gr, 0, none⟩), .int .i64 1] ?_; (with_reducible refine (or_number gr A0 c0 l0 _ _ 1 _ _ _ _ HG2.out HY.out HL.out (Kd.C_below HR0.out ST.out.bl) HC0.out ST.out.br).mono ?_); rintro x_ w35 ⟨rfl, hbx, hgr⟩; refine ⟨_, rfl, ?_⟩; have STn := Aside0.mk (ST.out.step hbx hgr); clear ST hbx hgr; have ST := STn; clear STn; obtain ⟨⟨x0, x1, x2, x3, x4, x5, x6, x7, x8, x9, x10, x11⟩, xf0, xf1, xf2, xf3, xf4, xf5, xf6, xf7, xf8, xf9, xf10, xf11⟩ := cells12 ST.out.b8))
 clear va0 vaf0 va1 vaf1 va2 vaf2 ya0 yaf0 ya1 yaf1 ya2 yaf2 ya3 yaf3 ya4 yaf4 ya5 yaf5 ya6 yaf6 ya7 yaf7 ya8 yaf8 ya9 yaf9 ya10 yaf10 ya11 yaf11
 clear x0 xf0 x1 xf1 x2 xf2 x3 xf3 x4 xf4 x5 xf5 x6 xf6 x7 xf7 x8 xf8 x9 xf9 x10 xf10 x11 xf11
 have STn := Aside0.mk ((OpSt.put ST.out 1 (.int .i64 d) (cs2 := #[.int .i64 2, .int .i64 d, .bool false, .int .i64 0, .int .i64 0, .int .i64 0, .int .i64 0, .int .i64 0, .int .i64 0, .int .i64 0, .int .i64 0, .int .i64 0]) rfl))
 clear ST
 have ST := STn
 clear STn
 generalize (w35.setCell ⟨g8, 1, none⟩ (.int .i64 d)) = wq2 at ST ⊢
 obtain ⟨⟨yc0, yc1, yc2, yc3, yc4, yc5, yc6, yc7, yc8, yc9, yc10, yc11⟩, ycf0, ycf1, ycf2, ycf3, ycf4, ycf5, ycf6, ycf7, ycf8, ycf9, ycf10, ycf11⟩ := cells12 ST.out.b8
 go_upto_region 16 with (((with_reducible refine gate_dst (N := 42) rfl ?_); refine goesA (some 42) Try.func43 #[.pointer (some ⟨gr, 0, none⟩)] ?_; (with_reducible refine (or_height gr A0 c0 l0 _ _ _ _ _ _ _ _ _ _ _ HG3.out HY.out HL.out (Kd.C_below HR0.out ST.out.bl) HC0.out ST.out.br).mono ?_); rintro x_ w42 ⟨rfl, hbx, hgr⟩; refine ⟨_, rfl, ?_⟩; have STn := Aside0.mk (ST.out.step hbx hgr); clear ST hbx hgr; have ST := STn; clear STn; obtain ⟨⟨x0, x1, x2, x3, x4, x5, x6, x7, x8, x9, x10, x11⟩, xf0, xf1, xf2, xf3, xf4, xf5, xf6, xf7, xf8, xf9, xf10, xf11⟩ := cells12 ST.out.b8))
 clear x0 xf0 x1 xf1 x2 xf2 x3 xf3 x4 xf4 x5 xf5 x6 xf6 x7 xf7 x8 xf8 x9 xf9 x10 xf10 x11 xf11
 clear yc0 ycf0 yc1 ycf1 yc2 ycf2 yc3 ycf3 yc4 ycf4 yc5 ycf5 yc6 ycf6 yc7 ycf7 yc8 ycf8 yc9 ycf9 yc10 ycf10 yc11 ycf11
 have STn := Aside0.mk ((OpSt.put (OpSt.put (OpSt.put (OpSt.put (OpSt.put (OpSt.put ST.out 2 (.bool n) (cs2 := #[.int .i64 2, .int .i64 d, .bool n, .int .i64 0, .int .i64 0, .int .i64 0, .int .i64 0, .int .i64 0, .int .i64 0, .int .i64 0, .int .i64 0, .int .i64 0]) rfl) 3 (.int .i64 a) (cs2 := #[.int .i64 2, .int .i64 d, .bool n, .int .i64 a, .int .i64 0, .int .i64 0, .int .i64 0, .int .i64 0, .int .i64 0, .int .i64 0, .int .i64 0, .int .i64 0]) rfl) 4 (.int .i64 b) (cs2 := #[.int .i64 2, .int .i64 d, .bool n, .int .i64 a, .int .i64 b, .int .i64 0, .int .i64 0, .int .i64 0, .int .i64 0, .int .i64 0, .int .i64 0, .int .i64 0]) rfl) 5 (.int .i64 c_) (cs2 := #[.int .i64 2, .int .i64 d, .bool n, .int .i64 a, .int .i64 b, .int .i64 c_, .int .i64 0, .int .i64 0, .int .i64 0, .int .i64 0, .int .i64 0, .int .i64 0]) rfl) 6 (.int .i64 dd) (cs2 := #[.int .i64 2, .int .i64 d, .bool n, .int .i64 a, .int .i64 b, .int .i64 c_, .int .i64 dd, .int .i64 0, .int .i64 0, .int .i64 0, .int .i64 0, .int .i64 0]) rfl) 7 (.int .i64 i) (cs2 := #[.int .i64 2, .int .i64 d, .bool n, .int .i64 a, .int .i64 b, .int .i64 c_, .int .i64 dd, .int .i64 i, .int .i64 0, .int .i64 0, .int .i64 0, .int .i64 0]) rfl))
 clear ST
 have ST := STn
 clear STn
 generalize ((((((w42.setCell ⟨g8, 2, none⟩ (.bool n)).setCell ⟨g8, 3, none⟩ (.int .i64 a)).setCell ⟨g8, 4, none⟩ (.int .i64 b)).setCell ⟨g8, 5, none⟩ (.int .i64 c_)).setCell ⟨g8, 6, none⟩ (.int .i64 dd)).setCell ⟨g8, 7, none⟩ (.int .i64 i)) = wq3 at ST ⊢
 obtain ⟨⟨vd0, vd1, vd2⟩, vdf0, vdf1, vdf2⟩ := cells3 ST.out.br
 obtain ⟨⟨yd0, yd1, yd2, yd3, yd4, yd5, yd6, yd7, yd8, yd9, yd10, yd11⟩, ydf0, ydf1, ydf2, ydf3, ydf4, ydf5, ydf6, ydf7, ydf8, ydf9, ydf10, ydf11⟩ := cells12 ST.out.b8
 go_upto_region 20 with ((go_at_call 34; (with_reducible refine (object_Check.calls K 2 d n a b c_ dd i 0 0 0 0 0 _ HK.out).mono ?_); rintro x_ ws ⟨rfl, hb⟩; have STn := Aside0.mk (OpSt.below ST.out hb); clear ST hb; have ST := STn; clear STn; obtain ⟨⟨s0, s1, s2⟩, sf0, sf1, sf2⟩ := cells3 ST.out.br))
 clear vd0 vdf0 vd1 vdf1 vd2 vdf2 yd0 ydf0 yd1 ydf1 yd2 ydf2 yd3 ydf3 yd4 ydf4 yd5 ydf5 yd6 ydf6 yd7 ydf7 yd8 ydf8 yd9 ydf9 yd10 ydf10 yd11 ydf11
 clear s0 sf0 s1 sf1 s2 sf2
 have STd := Aside0.mk (OpSt.drew ST.out)
 clear ST
 have ST := STd
 clear STd
 refine start_ (n := 8) (S := fun w' => w'.cell? ⟨g8, 0, none⟩ = some (.int .i64 2) ∧ w'.cell? ⟨g8, 1, none⟩ = some (.int .i64 d) ∧ w'.cell? ⟨g8, 2, none⟩ = some (.bool n) ∧ w'.cell? ⟨g8, 3, none⟩ = some (.int .i64 a) ∧ w'.cell? ⟨g8, 4, none⟩ = some (.int .i64 b) ∧ w'.cell? ⟨g8, 5, none⟩ = some (.int .i64 c_) ∧ w'.cell? ⟨g8, 6, none⟩ = some (.int .i64 dd) ∧ w'.cell? ⟨g8, 7, none⟩ = some (.int .i64 i) ∧ w'.cell? ⟨g8, 8, none⟩ = some (.int .i64 0) ∧ w'.cell? ⟨g8, 9, none⟩ = some (.int .i64 0) ∧ w'.cell? ⟨g8, 10, none⟩ = some (.int .i64 0) ∧ w'.cell? ⟨g8, 11, none⟩ = some (.int .i64 0) ∧ w'.cell? ⟨gr, 1, none⟩ = some (.int .i64 p3)) (ds := []) #[false, false, false, false, false, false, false, false] (by kernel_rfl) rfl rfl ⟨(blk_cell ST.out.b8 0).trans rfl, (blk_cell ST.out.b8 1).trans rfl, (blk_cell ST.out.b8 2).trans rfl, (blk_cell ST.out.b8 3).trans rfl, (blk_cell ST.out.b8 4).trans rfl, (blk_cell ST.out.b8 5).trans rfl, (blk_cell ST.out.b8 6).trans rfl, (blk_cell ST.out.b8 7).trans rfl, (blk_cell ST.out.b8 8).trans rfl, (blk_cell ST.out.b8 9).trans rfl, (blk_cell ST.out.b8 10).trans rfl, (blk_cell ST.out.b8 11).trans rfl, (blk_cell ST.out.br 1).trans rfl⟩ (fun hHeld => ?_); refine with_tabW object_Parse.tab20 object_Parse.bits20 (fun HT_ HW_ => ?_)
 generalize ws.drew = wd at ST hHeld ⊢
 obtain ⟨⟨o0, o1, o2, o3, o4, o5, o6, o7, o8, o9, o10, o11⟩, of0, of1, of2, of3, of4, of5, of6, of7, of8, of9, of10, of11⟩ := cells12 ST.out.b4
 have n94 : g8 ≠ g4 := ST.out.d48.symm
 have nr4 : gr ≠ g4 := (blk_ne ST.out.br ST.out.b4 (by decide))
 refine pureA (i := 1) (N := some 90) HT_ ?_
 refine pureA (i := 2) (N := some 91) HT_ ?_
 refine pureA (i := 3) (N := some 92) HT_ ?_
 refine takeA (i := 0) (N := some 89) HT_ HW_ hHeld ?_
 refine takeA (i := 4) (N := some 93) HT_ HW_ hHeld ?_
 refine oneA (i := 5) (N := none) HT_ (fun K hK => ?_)
 refine skip_ (w1 := ?_) (by rfl) rfl ?_ ?_
 rotate_left
 ·go_simp
  rfl
 refine hK.out _ _ ?_ (fun hHeld2 => ?_)
 ·refine ⟨?_, ?_, ?_, ?_, ?_, ?_, ?_, ?_, ?_, ?_, ?_, ?_, ?_⟩
  ·(repeat (first | refine (cell_far n94 _).trans ?_ | refine (cell_far nr4 _).trans ?_)); exact hHeld.1
  ·(repeat (first | refine (cell_far n94 _).trans ?_ | refine (cell_far nr4 _).trans ?_)); exact hHeld.2.1
  ·(repeat (first | refine (cell_far n94 _).trans ?_ | refine (cell_far nr4 _).trans ?_)); exact hHeld.2.2.1
  ·(repeat (first | refine (cell_far n94 _).trans ?_ | refine (cell_far nr4 _).trans ?_)); exact hHeld.2.2.2.1
  ·(repeat (first | refine (cell_far n94 _).trans ?_ | refine (cell_far nr4 _).trans ?_)); exact hHeld.2.2.2.2.1
  ·(repeat (first | refine (cell_far n94 _).trans ?_ | refine (cell_far nr4 _).trans ?_)); exact hHeld.2.2.2.2.2.1
  ·(repeat (first | refine (cell_far n94 _).trans ?_ | refine (cell_far nr4 _).trans ?_)); exact hHeld.2.2.2.2.2.2.1
  ·(repeat (first | refine (cell_far n94 _).trans ?_ | refine (cell_far nr4 _).trans ?_)); exact hHeld.2.2.2.2.2.2.2.1
  ·(repeat (first | refine (cell_far n94 _).trans ?_ | refine (cell_far nr4 _).trans ?_)); exact hHeld.2.2.2.2.2.2.2.2.1
  ·(repeat (first | refine (cell_far n94 _).trans ?_ | refine (cell_far nr4 _).trans ?_)); exact hHeld.2.2.2.2.2.2.2.2.2.1
  ·(repeat (first | refine (cell_far n94 _).trans ?_ | refine (cell_far nr4 _).trans ?_)); exact hHeld.2.2.2.2.2.2.2.2.2.2.1
  ·(repeat (first | refine (cell_far n94 _).trans ?_ | refine (cell_far nr4 _).trans ?_)); exact hHeld.2.2.2.2.2.2.2.2.2.2.2.1
  ·(repeat (first | refine (cell_far n94 _).trans ?_ | refine (cell_far nr4 _).trans ?_)); exact hHeld.2.2.2.2.2.2.2.2.2.2.2.2
 clear hHeld
 have hHeld := hHeld2
 clear hHeld2
 clear hK K
 refine pureA (i := 6) (N := some 5) HT_ ?_
 refine pureA (i := 7) (N := some 6) HT_ ?_
 refine done_ (done_of HT_.out (by kernel_rfl)) ?_
 clear HT_ HW_
 try go_wp2
 refine bodyPost_ret (results_ctt rfl _ _ g4 45 #[.int .i64 2, .int .i64 d, .bool n, .int .i64 a, .int .i64 b, .int .i64 c_, .int .i64 dd, .int .i64 i, .int .i64 0, .int .i64 0, .int .i64 0, .int .i64 0] (0, 0) _ rfl (blk_put12 ST.out.b4 (.int .i64 2) (.int .i64 d) (.bool n) (.int .i64 a) (.int .i64 b) (.int .i64 c_) (.int .i64 dd) (.int .i64 i) (.int .i64 0) (.int .i64 0) (.int .i64 0) (.int .i64 0)) Try.underlying45 rfl (by kernel_rfl)) rfl ?_
 exact ⟨rfl, (below_set12 ST.out.bl ST.out.n4)⟩
theorem op_c_e (A0 : Option Addr) (c0 : Nat) (l0 : List Int) (a1 : Int) (w : World) (k p1 e1 d p2 e2 p3 e3 x p4 e4 y p5 e5 z : Int) (HL : l0.length ≤ 1000000000000) (HY : Bytes l0) (HR0 : Kd.C (Kd.int .u8) w A0 l0.length l0) (HC0 : l0.length ≤ c0) (HG1 : rdN l0 1 a1 0 = (k, p1, e1)) (he : e1 = 0) (hk : k = 3) (HG2 : rdN l0 1 p1 0 = (d, p2, e2)) (HG3 : rdN l0 8 p2 e2 = (x, p3, e3)) (HG4 : rdN l0 1 p3 e3 = (y, p4, e4)) (HG5 : rdN l0 1 p4 e4 = (z, p5, e5)) (hf : ¬ e5 = 0) :
  Calls Try.prog 33 #[.slice A0 l0.length c0, .int .i64 a1] w fun e w' => e = .returned (.tuple #[.agg #[.int .i64 0, .int .i64 0, .bool false, .int .i64 0, .int .i64 0, .int .i64 0, .int .i64 0, .int .i64 0, .int .i64 0, .int .i64 0, .int .i64 0, .int .i64 0], .int .i64 0, .int .i64 e5]) ∧ Below w.heap.size w w' := by
 have hu27 := Try.underlying45
 have hu25 := Try.underlying43
 have hu23 := Try.underlying41
 have hu51 := Try.underlying77
 replace HL := Aside0.mk HL
 replace HY := Aside0.mk HY
 replace HR0 := Aside0.mk HR0
 replace HC0 := Aside0.mk HC0
 replace HG1 := Aside0.mk HG1
 replace HG2 := Aside0.mk HG2
 replace HG3 := Aside0.mk HG3
 replace HG4 := Aside0.mk HG4
 replace HG5 := Aside0.mk HG5
 subst he
 subst hk
 have b8 : (e5 == 0) = false := beq_eq_false_iff_ne.mpr hf
 have b9 : (e5 != 0) = true := bne_iff_ne.mpr hf
 clear hf
 go_enter Try.func33, Try.ntmps33
 go_upto_region 3 with (first
  | ((with_reducible refine gate_dst (N := 4) rfl ?_); refine box_event ?hg (N := 4) ?hd (cs := #[.int .i64 0, .int .i64 0, .bool false, .int .i64 0, .int .i64 0, .int .i64 0, .int .i64 0, .int .i64 0, .int .i64 0, .int .i64 0, .int .i64 0, .int .i64 0]) (t := 45) ?hr ?_; (case hd => rfl); (case hg => rfl); (case hr => first | (go_simp; done) | (go_simp; rfl)); intro g4 hg w4 hbox hb; have HB4 := Aside0.mk hb; have G4 := Aside0.mk (Nat.le_of_eq hg.symm); have B4 := Aside0.mk hbox; clear hb hbox hg)
  | ((with_reducible refine gate_dst (N := 12) rfl ?_); refine box_event ?hg (N := 12) ?hd (cs := RdC A0 l0.length c0 a1 0) (t := 77) ?hr ?_; (case hd => rfl); (case hg => rfl); (case hr => first | (go_simp; done) | (go_simp; rfl)); intro gr hg w5 hbox hb; have HB5 := Aside0.mk (below_step HB4.out hb); have GR := Aside0.mk (show w.heap.size ≤ gr by rw [hg]; exact below_size HB4.out); have B45 := Aside0.mk (blk_below B4.out hb); have BR := Aside0.mk hbox; clear hb hbox hg HB4 B4)
  | ((with_reducible refine gate_dst (N := 14) rfl ?_); refine goesA (some 14) Try.func42 #[.pointer (some ⟨gr, 0, none⟩), .int .i64 1] ?_; (with_reducible refine (or_number gr A0 c0 l0 a1 0 1 _ _ _ _ HG1.out HY.out HL.out (Kd.C_below HR0.out HB5.out) HC0.out BR.out).mono ?_); rintro x_ w14 ⟨rfl, hbx, hgr⟩; refine ⟨_, rfl, ?_⟩; have HB6 := Aside0.mk (pw_below_grown HB5.out (some gr) (below_size HB5.out) hgr (fun k_ e_ => by cases e_; exact GR.out)); have B46 := Aside0.mk (blk_grown B45.out hgr (fun e_ => blk_ne B45.out BR.out (by decide) (Option.some.inj e_))); have BR6 := Aside0.mk hbx; clear hbx hgr HB5 B45 BR)
  | ((with_reducible refine gate_dst (N := 8) rfl ?_); refine box_event ?hg (N := 8) ?hd (cs := #[.int .i64 0, .int .i64 0, .bool false, .int .i64 0, .int .i64 0, .int .i64 0, .int .i64 0, .int .i64 0, .int .i64 0, .int .i64 0, .int .i64 0, .int .i64 0]) (t := 45) ?hr ?_; (case hd => rfl); (case hg => rfl); (case hr => first | (go_simp; done) | (go_simp; rfl)); intro g8 hg w7 hbox hb; have ST0 := Aside0.mk (OpSt.mk (blk_below B46.out hb) hbox (blk_below BR6.out hb) (below_step HB6.out hb) G4.out (by rw [hg]; exact below_size HB6.out) GR.out (by rw [hg]; exact Nat.ne_of_lt (blk_lt B46.out))); clear hb hbox hg; obtain ⟨⟨u0, u1, u2, u3, u4, u5, u6, u7, u8, u9, u10, u11⟩, uf0, uf1, uf2, uf3, uf4, uf5, uf6, uf7, uf8, uf9, uf10, uf11⟩ := cells12 ST0.out.b8))
 have STn := Aside0.mk ((OpSt.put12 ST0.out (.int .i64 3) (.int .i64 0) (.bool false) (.int .i64 0) (.int .i64 0) (.int .i64 0) (.int .i64 0) (.int .i64 0) (.int .i64 0) (.int .i64 0) (.int .i64 0) (.int .i64 0)))
 clear ST0
 have ST := STn
 clear STn
 generalize ((((((((((((w7.setCell ⟨g8, 0, none⟩ (.int .i64 3)).setCell ⟨g8, 1, none⟩ (.int .i64 0)).setCell ⟨g8, 2, none⟩ (.bool false)).setCell ⟨g8, 3, none⟩ (.int .i64 0)).setCell ⟨g8, 4, none⟩ (.int .i64 0)).setCell ⟨g8, 5, none⟩ (.int .i64 0)).setCell ⟨g8, 6, none⟩ (.int .i64 0)).setCell ⟨g8, 7, none⟩ (.int .i64 0)).setCell ⟨g8, 8, none⟩ (.int .i64 0)).setCell ⟨g8, 9, none⟩ (.int .i64 0)).setCell ⟨g8, 10, none⟩ (.int .i64 0)).setCell ⟨g8, 11, none⟩ (.int .i64 0)) = wq1 at ST ⊢
 clear u0 uf0 u1 uf1 u2 uf2 u3 uf3 u4 uf4 u5 uf5 u6 uf6 u7 uf7 u8 uf8 u9 uf9 u10 uf10 u11 uf11
 obtain ⟨⟨va0, va1, va2⟩, vaf0, vaf1, vaf2⟩ := cells3 ST.out.br
 obtain ⟨⟨ya0, ya1, ya2, ya3, ya4, ya5, ya6, ya7, ya8, ya9, ya10, ya11⟩, yaf0, yaf1, yaf2, yaf3, yaf4, yaf5, yaf6, yaf7, yaf8, yaf9, yaf10, yaf11⟩ := cells12 ST.out.b8
 go_upto_region 6 with (((with_reducible refine gate_dst (N := 35) rfl ?_); refine goesA (some 35) Try.func42 #[.pointer (some ⟨gr, 0, none⟩), .int .i64 1] ?_; (with_reducible refine (or_number gr A0 c0 l0 _ _ 1 _ _ _ _ HG2.out HY.out HL.out (Kd.C_below HR0.out ST.out.bl) HC0.out ST.out.br).mono ?_); rintro x_ w35 ⟨rfl, hbx, hgr⟩; refine ⟨_, rfl, ?_⟩; have STn := Aside0.mk (ST.out.step hbx hgr); clear ST hbx hgr; have ST := STn; clear STn; obtain ⟨⟨x0, x1, x2, x3, x4, x5, x6, x7, x8, x9, x10, x11⟩, xf0, xf1, xf2, xf3, xf4, xf5, xf6, xf7, xf8, xf9, xf10, xf11⟩ := cells12 ST.out.b8))
 clear va0 vaf0 va1 vaf1 va2 vaf2 ya0 yaf0 ya1 yaf1 ya2 yaf2 ya3 yaf3 ya4 yaf4 ya5 yaf5 ya6 yaf6 ya7 yaf7 ya8 yaf8 ya9 yaf9 ya10 yaf10 ya11 yaf11
 clear x0 xf0 x1 xf1 x2 xf2 x3 xf3 x4 xf4 x5 xf5 x6 xf6 x7 xf7 x8 xf8 x9 xf9 x10 xf10 x11 xf11
 have STn := Aside0.mk ((OpSt.put ST.out 1 (.int .i64 d) (cs2 := #[.int .i64 3, .int .i64 d, .bool false, .int .i64 0, .int .i64 0, .int .i64 0, .int .i64 0, .int .i64 0, .int .i64 0, .int .i64 0, .int .i64 0, .int .i64 0]) rfl))
 clear ST
 have ST := STn
 clear STn
 generalize (w35.setCell ⟨g8, 1, none⟩ (.int .i64 d)) = wq2 at ST ⊢
 obtain ⟨⟨yc0, yc1, yc2, yc3, yc4, yc5, yc6, yc7, yc8, yc9, yc10, yc11⟩, ycf0, ycf1, ycf2, ycf3, ycf4, ycf5, ycf6, ycf7, ycf8, ycf9, ycf10, ycf11⟩ := cells12 ST.out.b8
 go_upto_region 11 with (((with_reducible refine gate_dst (N := 47) rfl ?_); refine goesA (some 47) Try.func42 #[.pointer (some ⟨gr, 0, none⟩), .int .i64 8] ?_; (with_reducible refine (or_number gr A0 c0 l0 _ _ 8 _ _ _ _ HG3.out HY.out HL.out (Kd.C_below HR0.out ST.out.bl) HC0.out ST.out.br).mono ?_); rintro x_ w47 ⟨rfl, hbx, hgr⟩; refine ⟨_, rfl, ?_⟩; have STn := Aside0.mk (ST.out.step hbx hgr); clear ST hbx hgr; have ST := STn; clear STn; obtain ⟨⟨x0, x1, x2, x3, x4, x5, x6, x7, x8, x9, x10, x11⟩, xf0, xf1, xf2, xf3, xf4, xf5, xf6, xf7, xf8, xf9, xf10, xf11⟩ := cells12 ST.out.b8))
 clear x0 xf0 x1 xf1 x2 xf2 x3 xf3 x4 xf4 x5 xf5 x6 xf6 x7 xf7 x8 xf8 x9 xf9 x10 xf10 x11 xf11
 clear yc0 ycf0 yc1 ycf1 yc2 ycf2 yc3 ycf3 yc4 ycf4 yc5 ycf5 yc6 ycf6 yc7 ycf7 yc8 ycf8 yc9 ycf9 yc10 ycf10 yc11 ycf11
 have STn := Aside0.mk ((OpSt.put ST.out 8 (.int .i64 x) (cs2 := #[.int .i64 3, .int .i64 d, .bool false, .int .i64 0, .int .i64 0, .int .i64 0, .int .i64 0, .int .i64 0, .int .i64 x, .int .i64 0, .int .i64 0, .int .i64 0]) rfl))
 clear ST
 have ST := STn
 clear STn
 generalize (w47.setCell ⟨g8, 8, none⟩ (.int .i64 x)) = wq3 at ST ⊢
 obtain ⟨⟨yd0, yd1, yd2, yd3, yd4, yd5, yd6, yd7, yd8, yd9, yd10, yd11⟩, ydf0, ydf1, ydf2, ydf3, ydf4, ydf5, ydf6, ydf7, ydf8, ydf9, ydf10, ydf11⟩ := cells12 ST.out.b8
 go_upto_region 12 with (((with_reducible refine gate_dst (N := 51) rfl ?_); refine goesA (some 51) Try.func42 #[.pointer (some ⟨gr, 0, none⟩), .int .i64 1] ?_; (with_reducible refine (or_number gr A0 c0 l0 _ _ 1 _ _ _ _ HG4.out HY.out HL.out (Kd.C_below HR0.out ST.out.bl) HC0.out ST.out.br).mono ?_); rintro x_ w51 ⟨rfl, hbx, hgr⟩; refine ⟨_, rfl, ?_⟩; have STn := Aside0.mk (ST.out.step hbx hgr); clear ST hbx hgr; have ST := STn; clear STn; obtain ⟨⟨x0, x1, x2, x3, x4, x5, x6, x7, x8, x9, x10, x11⟩, xf0, xf1, xf2, xf3, xf4, xf5, xf6, xf7, xf8, xf9, xf10, xf11⟩ := cells12 ST.out.b8))
 clear x0 xf0 x1 xf1 x2 xf2 x3 xf3 x4 xf4 x5 xf5 x6 xf6 x7 xf7 x8 xf8 x9 xf9 x10 xf10 x11 xf11
 clear yd0 ydf0 yd1 ydf1 yd2 ydf2 yd3 ydf3 yd4 ydf4 yd5 ydf5 yd6 ydf6 yd7 ydf7 yd8 ydf8 yd9 ydf9 yd10 ydf10 yd11 ydf11
 have STn := Aside0.mk ((OpSt.put ST.out 9 (.int .i64 y) (cs2 := #[.int .i64 3, .int .i64 d, .bool false, .int .i64 0, .int .i64 0, .int .i64 0, .int .i64 0, .int .i64 0, .int .i64 x, .int .i64 y, .int .i64 0, .int .i64 0]) rfl))
 clear ST
 have ST := STn
 clear STn
 generalize (w51.setCell ⟨g8, 9, none⟩ (.int .i64 y)) = wq4 at ST ⊢
 obtain ⟨⟨yf0, yf1, yf2, yf3, yf4, yf5, yf6, yf7, yf8, yf9, yf10, yf11⟩, yff0, yff1, yff2, yff3, yff4, yff5, yff6, yff7, yff8, yff9, yff10, yff11⟩ := cells12 ST.out.b8
 go_upto_region 16 with (((with_reducible refine gate_dst (N := 55) rfl ?_); refine goesA (some 55) Try.func42 #[.pointer (some ⟨gr, 0, none⟩), .int .i64 1] ?_; (with_reducible refine (or_number gr A0 c0 l0 _ _ 1 _ _ _ _ HG5.out HY.out HL.out (Kd.C_below HR0.out ST.out.bl) HC0.out ST.out.br).mono ?_); rintro x_ w55 ⟨rfl, hbx, hgr⟩; refine ⟨_, rfl, ?_⟩; have STn := Aside0.mk (ST.out.step hbx hgr); clear ST hbx hgr; have ST := STn; clear STn; obtain ⟨⟨x0, x1, x2, x3, x4, x5, x6, x7, x8, x9, x10, x11⟩, xf0, xf1, xf2, xf3, xf4, xf5, xf6, xf7, xf8, xf9, xf10, xf11⟩ := cells12 ST.out.b8))
 clear x0 xf0 x1 xf1 x2 xf2 x3 xf3 x4 xf4 x5 xf5 x6 xf6 x7 xf7 x8 xf8 x9 xf9 x10 xf10 x11 xf11
 clear yf0 yff0 yf1 yff1 yf2 yff2 yf3 yff3 yf4 yff4 yf5 yff5 yf6 yff6 yf7 yff7 yf8 yff8 yf9 yff9 yf10 yff10 yf11 yff11
 have STn := Aside0.mk ((OpSt.put ST.out 10 (.int .i64 z) (cs2 := #[.int .i64 3, .int .i64 d, .bool false, .int .i64 0, .int .i64 0, .int .i64 0, .int .i64 0, .int .i64 0, .int .i64 x, .int .i64 y, .int .i64 z, .int .i64 0]) rfl))
 clear ST
 have ST := STn
 clear STn
 generalize (w55.setCell ⟨g8, 10, none⟩ (.int .i64 z)) = wq5 at ST ⊢
 obtain ⟨⟨vh0, vh1, vh2⟩, vhf0, vhf1, vhf2⟩ := cells3 ST.out.br
 obtain ⟨⟨yh0, yh1, yh2, yh3, yh4, yh5, yh6, yh7, yh8, yh9, yh10, yh11⟩, yhf0, yhf1, yhf2, yhf3, yhf4, yhf5, yhf6, yhf7, yhf8, yhf9, yhf10, yhf11⟩ := cells12 ST.out.b8
 go_upto_region 19 with (fail)
 clear vh0 vhf0 vh1 vhf1 vh2 vhf2 yh0 yhf0 yh1 yhf1 yh2 yhf2 yh3 yhf3 yh4 yhf4 yh5 yhf5 yh6 yhf6 yh7 yhf7 yh8 yhf8 yh9 yhf9 yh10 yhf10 yh11 yhf11
 have STd := Aside0.mk (OpSt.drew ST.out)
 clear ST
 have ST := STd
 clear STd
 refine start_ (n := 8) (S := fun w' => w'.cell? ⟨gr, 2, none⟩ = some (.int .i64 e5)) (ds := []) #[false, false, false, false, false, false, false, false] (by kernel_rfl) rfl rfl ((blk_cell ST.out.br 2).trans rfl) (fun hHeld => ?_); refine with_tabW object_Parse.tab19 object_Parse.bits19 (fun HT_ HW_ => ?_)
 generalize wq5.drew = wd at ST hHeld ⊢
 obtain ⟨⟨o0, o1, o2, o3, o4, o5, o6, o7, o8, o9, o10, o11⟩, of0, of1, of2, of3, of4, of5, of6, of7, of8, of9, of10, of11⟩ := cells12 ST.out.b4
 have n94 : g8 ≠ g4 := ST.out.d48.symm
 have nr4 : gr ≠ g4 := (blk_ne ST.out.br ST.out.b4 (by decide))
 refine pureA (i := 0) (N := some 84) HT_ ?_
 refine pureA (i := 1) (N := some 85) HT_ ?_
 refine pureA (i := 2) (N := some 86) HT_ ?_
 refine pureA (i := 3) (N := some 87) HT_ ?_
 refine takeA (i := 4) (N := some 88) HT_ HW_ hHeld ?_
 refine oneA (i := 5) (N := none) HT_ (fun K hK => ?_)
 refine skip_ (w1 := ?_) (by rfl) rfl ?_ ?_
 rotate_left
 ·go_simp
  rfl
 refine hK.out _ _ ?_ (fun hHeld2 => ?_)
 ·(repeat (first | refine (cell_far n94 _).trans ?_ | refine (cell_far nr4 _).trans ?_)); exact hHeld
 clear hHeld
 have hHeld := hHeld2
 clear hHeld2
 clear hK K
 refine pureA (i := 6) (N := some 5) HT_ ?_
 refine pureA (i := 7) (N := some 6) HT_ ?_
 refine done_ (done_of HT_.out (by kernel_rfl)) ?_
 clear HT_ HW_
 try go_wp2
 refine bodyPost_ret (results_ctt rfl _ _ g4 45 #[.int .i64 0, .int .i64 0, .bool false, .int .i64 0, .int .i64 0, .int .i64 0, .int .i64 0, .int .i64 0, .int .i64 0, .int .i64 0, .int .i64 0, .int .i64 0] (0, 0) _ rfl (blk_put12 ST.out.b4 (.int .i64 0) (.int .i64 0) (.bool false) (.int .i64 0) (.int .i64 0) (.int .i64 0) (.int .i64 0) (.int .i64 0) (.int .i64 0) (.int .i64 0) (.int .i64 0) (.int .i64 0)) Try.underlying45 rfl (by kernel_rfl)) rfl ?_
 exact ⟨rfl, (below_set12 ST.out.bl ST.out.n4)⟩
theorem op_c_no (A0 : Option Addr) (c0 : Nat) (l0 : List Int) (a1 : Int) (w : World) (k p1 e1 d p2 e2 p3 e3 x p4 e4 y p5 e5 z : Int) (HL : l0.length ≤ 1000000000000) (HY : Bytes l0) (HR0 : Kd.C (Kd.int .u8) w A0 l0.length l0) (HC0 : l0.length ≤ c0) (HG1 : rdN l0 1 a1 0 = (k, p1, e1)) (he : e1 = 0) (hk : k = 3) (HG2 : rdN l0 1 p1 0 = (d, p2, e2)) (HG3 : rdN l0 8 p2 e2 = (x, p3, e3)) (HG4 : rdN l0 1 p3 e3 = (y, p4, e4)) (HG5 : rdN l0 1 p4 e4 = (z, p5, e5)) (hf : e5 = 0) (hr : ¬ RO k d false 0 0 0 0 0 x y z 0) :
  Calls Try.prog 33 #[.slice A0 l0.length c0, .int .i64 a1] w fun e w' => e = .returned (.tuple #[.agg #[.int .i64 0, .int .i64 0, .bool false, .int .i64 0, .int .i64 0, .int .i64 0, .int .i64 0, .int .i64 0, .int .i64 0, .int .i64 0, .int .i64 0, .int .i64 0], .int .i64 0, .int .i64 4]) ∧ Below w.heap.size w w' := by
 have hu27 := Try.underlying45
 have hu25 := Try.underlying43
 have hu23 := Try.underlying41
 have hu51 := Try.underlying77
 replace HL := Aside0.mk HL
 replace HY := Aside0.mk HY
 replace HR0 := Aside0.mk HR0
 replace HC0 := Aside0.mk HC0
 replace HG1 := Aside0.mk HG1
 replace HG2 := Aside0.mk HG2
 replace HG3 := Aside0.mk HG3
 replace HG4 := Aside0.mk HG4
 replace HG5 := Aside0.mk HG5
 subst he
 subst hk
 subst hf
 obtain ⟨K, hK⟩ := (oc_eq 3 d false 0 0 0 0 0 x y z 0).rounds
 rw [if_neg hr] at hK
 have HK := Aside0.mk hK
 clear hK hr
 go_enter Try.func33, Try.ntmps33
 go_upto_region 3 with (first
  | ((with_reducible refine gate_dst (N := 4) rfl ?_); refine box_event ?hg (N := 4) ?hd (cs := #[.int .i64 0, .int .i64 0, .bool false, .int .i64 0, .int .i64 0, .int .i64 0, .int .i64 0, .int .i64 0, .int .i64 0, .int .i64 0, .int .i64 0, .int .i64 0]) (t := 45) ?hr ?_; (case hd => rfl); (case hg => rfl); (case hr => first | (go_simp; done) | (go_simp; rfl)); intro g4 hg w4 hbox hb; have HB4 := Aside0.mk hb; have G4 := Aside0.mk (Nat.le_of_eq hg.symm); have B4 := Aside0.mk hbox; clear hb hbox hg)
  | ((with_reducible refine gate_dst (N := 12) rfl ?_); refine box_event ?hg (N := 12) ?hd (cs := RdC A0 l0.length c0 a1 0) (t := 77) ?hr ?_; (case hd => rfl); (case hg => rfl); (case hr => first | (go_simp; done) | (go_simp; rfl)); intro gr hg w5 hbox hb; have HB5 := Aside0.mk (below_step HB4.out hb); have GR := Aside0.mk (show w.heap.size ≤ gr by rw [hg]; exact below_size HB4.out); have B45 := Aside0.mk (blk_below B4.out hb); have BR := Aside0.mk hbox; clear hb hbox hg HB4 B4)
  | ((with_reducible refine gate_dst (N := 14) rfl ?_); refine goesA (some 14) Try.func42 #[.pointer (some ⟨gr, 0, none⟩), .int .i64 1] ?_; (with_reducible refine (or_number gr A0 c0 l0 a1 0 1 _ _ _ _ HG1.out HY.out HL.out (Kd.C_below HR0.out HB5.out) HC0.out BR.out).mono ?_); rintro x_ w14 ⟨rfl, hbx, hgr⟩; refine ⟨_, rfl, ?_⟩; have HB6 := Aside0.mk (pw_below_grown HB5.out (some gr) (below_size HB5.out) hgr (fun k_ e_ => by cases e_; exact GR.out)); have B46 := Aside0.mk (blk_grown B45.out hgr (fun e_ => blk_ne B45.out BR.out (by decide) (Option.some.inj e_))); have BR6 := Aside0.mk hbx; clear hbx hgr HB5 B45 BR)
  | ((with_reducible refine gate_dst (N := 8) rfl ?_); refine box_event ?hg (N := 8) ?hd (cs := #[.int .i64 0, .int .i64 0, .bool false, .int .i64 0, .int .i64 0, .int .i64 0, .int .i64 0, .int .i64 0, .int .i64 0, .int .i64 0, .int .i64 0, .int .i64 0]) (t := 45) ?hr ?_; (case hd => rfl); (case hg => rfl); (case hr => first | (go_simp; done) | (go_simp; rfl)); intro g8 hg w7 hbox hb; have ST0 := Aside0.mk (OpSt.mk (blk_below B46.out hb) hbox (blk_below BR6.out hb) (below_step HB6.out hb) G4.out (by rw [hg]; exact below_size HB6.out) GR.out (by rw [hg]; exact Nat.ne_of_lt (blk_lt B46.out))); clear hb hbox hg; obtain ⟨⟨u0, u1, u2, u3, u4, u5, u6, u7, u8, u9, u10, u11⟩, uf0, uf1, uf2, uf3, uf4, uf5, uf6, uf7, uf8, uf9, uf10, uf11⟩ := cells12 ST0.out.b8))
 have STn := Aside0.mk ((OpSt.put12 ST0.out (.int .i64 3) (.int .i64 0) (.bool false) (.int .i64 0) (.int .i64 0) (.int .i64 0) (.int .i64 0) (.int .i64 0) (.int .i64 0) (.int .i64 0) (.int .i64 0) (.int .i64 0)))
 clear ST0
 have ST := STn
 clear STn
 generalize ((((((((((((w7.setCell ⟨g8, 0, none⟩ (.int .i64 3)).setCell ⟨g8, 1, none⟩ (.int .i64 0)).setCell ⟨g8, 2, none⟩ (.bool false)).setCell ⟨g8, 3, none⟩ (.int .i64 0)).setCell ⟨g8, 4, none⟩ (.int .i64 0)).setCell ⟨g8, 5, none⟩ (.int .i64 0)).setCell ⟨g8, 6, none⟩ (.int .i64 0)).setCell ⟨g8, 7, none⟩ (.int .i64 0)).setCell ⟨g8, 8, none⟩ (.int .i64 0)).setCell ⟨g8, 9, none⟩ (.int .i64 0)).setCell ⟨g8, 10, none⟩ (.int .i64 0)).setCell ⟨g8, 11, none⟩ (.int .i64 0)) = wq1 at ST ⊢
 clear u0 uf0 u1 uf1 u2 uf2 u3 uf3 u4 uf4 u5 uf5 u6 uf6 u7 uf7 u8 uf8 u9 uf9 u10 uf10 u11 uf11
 obtain ⟨⟨va0, va1, va2⟩, vaf0, vaf1, vaf2⟩ := cells3 ST.out.br
 obtain ⟨⟨ya0, ya1, ya2, ya3, ya4, ya5, ya6, ya7, ya8, ya9, ya10, ya11⟩, yaf0, yaf1, yaf2, yaf3, yaf4, yaf5, yaf6, yaf7, yaf8, yaf9, yaf10, yaf11⟩ := cells12 ST.out.b8
 go_upto_region 6 with (((with_reducible refine gate_dst (N := 35) rfl ?_); refine goesA (some 35) Try.func42 #[.pointer (some ⟨gr, 0, none⟩), .int .i64 1] ?_; (with_reducible refine (or_number gr A0 c0 l0 _ _ 1 _ _ _ _ HG2.out HY.out HL.out (Kd.C_below HR0.out ST.out.bl) HC0.out ST.out.br).mono ?_); rintro x_ w35 ⟨rfl, hbx, hgr⟩; refine ⟨_, rfl, ?_⟩; have STn := Aside0.mk (ST.out.step hbx hgr); clear ST hbx hgr; have ST := STn; clear STn; obtain ⟨⟨x0, x1, x2, x3, x4, x5, x6, x7, x8, x9, x10, x11⟩, xf0, xf1, xf2, xf3, xf4, xf5, xf6, xf7, xf8, xf9, xf10, xf11⟩ := cells12 ST.out.b8))
 clear va0 vaf0 va1 vaf1 va2 vaf2 ya0 yaf0 ya1 yaf1 ya2 yaf2 ya3 yaf3 ya4 yaf4 ya5 yaf5 ya6 yaf6 ya7 yaf7 ya8 yaf8 ya9 yaf9 ya10 yaf10 ya11 yaf11
 clear x0 xf0 x1 xf1 x2 xf2 x3 xf3 x4 xf4 x5 xf5 x6 xf6 x7 xf7 x8 xf8 x9 xf9 x10 xf10 x11 xf11
 have STn := Aside0.mk ((OpSt.put ST.out 1 (.int .i64 d) (cs2 := #[.int .i64 3, .int .i64 d, .bool false, .int .i64 0, .int .i64 0, .int .i64 0, .int .i64 0, .int .i64 0, .int .i64 0, .int .i64 0, .int .i64 0, .int .i64 0]) rfl))
 clear ST
 have ST := STn
 clear STn
 generalize (w35.setCell ⟨g8, 1, none⟩ (.int .i64 d)) = wq2 at ST ⊢
 obtain ⟨⟨yc0, yc1, yc2, yc3, yc4, yc5, yc6, yc7, yc8, yc9, yc10, yc11⟩, ycf0, ycf1, ycf2, ycf3, ycf4, ycf5, ycf6, ycf7, ycf8, ycf9, ycf10, ycf11⟩ := cells12 ST.out.b8
 go_upto_region 11 with (((with_reducible refine gate_dst (N := 47) rfl ?_); refine goesA (some 47) Try.func42 #[.pointer (some ⟨gr, 0, none⟩), .int .i64 8] ?_; (with_reducible refine (or_number gr A0 c0 l0 _ _ 8 _ _ _ _ HG3.out HY.out HL.out (Kd.C_below HR0.out ST.out.bl) HC0.out ST.out.br).mono ?_); rintro x_ w47 ⟨rfl, hbx, hgr⟩; refine ⟨_, rfl, ?_⟩; have STn := Aside0.mk (ST.out.step hbx hgr); clear ST hbx hgr; have ST := STn; clear STn; obtain ⟨⟨x0, x1, x2, x3, x4, x5, x6, x7, x8, x9, x10, x11⟩, xf0, xf1, xf2, xf3, xf4, xf5, xf6, xf7, xf8, xf9, xf10, xf11⟩ := cells12 ST.out.b8))
 clear x0 xf0 x1 xf1 x2 xf2 x3 xf3 x4 xf4 x5 xf5 x6 xf6 x7 xf7 x8 xf8 x9 xf9 x10 xf10 x11 xf11
 clear yc0 ycf0 yc1 ycf1 yc2 ycf2 yc3 ycf3 yc4 ycf4 yc5 ycf5 yc6 ycf6 yc7 ycf7 yc8 ycf8 yc9 ycf9 yc10 ycf10 yc11 ycf11
 have STn := Aside0.mk ((OpSt.put ST.out 8 (.int .i64 x) (cs2 := #[.int .i64 3, .int .i64 d, .bool false, .int .i64 0, .int .i64 0, .int .i64 0, .int .i64 0, .int .i64 0, .int .i64 x, .int .i64 0, .int .i64 0, .int .i64 0]) rfl))
 clear ST
 have ST := STn
 clear STn
 generalize (w47.setCell ⟨g8, 8, none⟩ (.int .i64 x)) = wq3 at ST ⊢
 obtain ⟨⟨yd0, yd1, yd2, yd3, yd4, yd5, yd6, yd7, yd8, yd9, yd10, yd11⟩, ydf0, ydf1, ydf2, ydf3, ydf4, ydf5, ydf6, ydf7, ydf8, ydf9, ydf10, ydf11⟩ := cells12 ST.out.b8
 go_upto_region 12 with (((with_reducible refine gate_dst (N := 51) rfl ?_); refine goesA (some 51) Try.func42 #[.pointer (some ⟨gr, 0, none⟩), .int .i64 1] ?_; (with_reducible refine (or_number gr A0 c0 l0 _ _ 1 _ _ _ _ HG4.out HY.out HL.out (Kd.C_below HR0.out ST.out.bl) HC0.out ST.out.br).mono ?_); rintro x_ w51 ⟨rfl, hbx, hgr⟩; refine ⟨_, rfl, ?_⟩; have STn := Aside0.mk (ST.out.step hbx hgr); clear ST hbx hgr; have ST := STn; clear STn; obtain ⟨⟨x0, x1, x2, x3, x4, x5, x6, x7, x8, x9, x10, x11⟩, xf0, xf1, xf2, xf3, xf4, xf5, xf6, xf7, xf8, xf9, xf10, xf11⟩ := cells12 ST.out.b8))
 clear x0 xf0 x1 xf1 x2 xf2 x3 xf3 x4 xf4 x5 xf5 x6 xf6 x7 xf7 x8 xf8 x9 xf9 x10 xf10 x11 xf11
 clear yd0 ydf0 yd1 ydf1 yd2 ydf2 yd3 ydf3 yd4 ydf4 yd5 ydf5 yd6 ydf6 yd7 ydf7 yd8 ydf8 yd9 ydf9 yd10 ydf10 yd11 ydf11
 have STn := Aside0.mk ((OpSt.put ST.out 9 (.int .i64 y) (cs2 := #[.int .i64 3, .int .i64 d, .bool false, .int .i64 0, .int .i64 0, .int .i64 0, .int .i64 0, .int .i64 0, .int .i64 x, .int .i64 y, .int .i64 0, .int .i64 0]) rfl))
 clear ST
 have ST := STn
 clear STn
 generalize (w51.setCell ⟨g8, 9, none⟩ (.int .i64 y)) = wq4 at ST ⊢
 obtain ⟨⟨yf0, yf1, yf2, yf3, yf4, yf5, yf6, yf7, yf8, yf9, yf10, yf11⟩, yff0, yff1, yff2, yff3, yff4, yff5, yff6, yff7, yff8, yff9, yff10, yff11⟩ := cells12 ST.out.b8
 go_upto_region 16 with (((with_reducible refine gate_dst (N := 55) rfl ?_); refine goesA (some 55) Try.func42 #[.pointer (some ⟨gr, 0, none⟩), .int .i64 1] ?_; (with_reducible refine (or_number gr A0 c0 l0 _ _ 1 _ _ _ _ HG5.out HY.out HL.out (Kd.C_below HR0.out ST.out.bl) HC0.out ST.out.br).mono ?_); rintro x_ w55 ⟨rfl, hbx, hgr⟩; refine ⟨_, rfl, ?_⟩; have STn := Aside0.mk (ST.out.step hbx hgr); clear ST hbx hgr; have ST := STn; clear STn; obtain ⟨⟨x0, x1, x2, x3, x4, x5, x6, x7, x8, x9, x10, x11⟩, xf0, xf1, xf2, xf3, xf4, xf5, xf6, xf7, xf8, xf9, xf10, xf11⟩ := cells12 ST.out.b8))
 clear x0 xf0 x1 xf1 x2 xf2 x3 xf3 x4 xf4 x5 xf5 x6 xf6 x7 xf7 x8 xf8 x9 xf9 x10 xf10 x11 xf11
 clear yf0 yff0 yf1 yff1 yf2 yff2 yf3 yff3 yf4 yff4 yf5 yff5 yf6 yff6 yf7 yff7 yf8 yff8 yf9 yff9 yf10 yff10 yf11 yff11
 have STn := Aside0.mk ((OpSt.put ST.out 10 (.int .i64 z) (cs2 := #[.int .i64 3, .int .i64 d, .bool false, .int .i64 0, .int .i64 0, .int .i64 0, .int .i64 0, .int .i64 0, .int .i64 x, .int .i64 y, .int .i64 z, .int .i64 0]) rfl))
 clear ST
 have ST := STn
 clear STn
 generalize (w55.setCell ⟨g8, 10, none⟩ (.int .i64 z)) = wq5 at ST ⊢
 obtain ⟨⟨vh0, vh1, vh2⟩, vhf0, vhf1, vhf2⟩ := cells3 ST.out.br
 obtain ⟨⟨yh0, yh1, yh2, yh3, yh4, yh5, yh6, yh7, yh8, yh9, yh10, yh11⟩, yhf0, yhf1, yhf2, yhf3, yhf4, yhf5, yhf6, yhf7, yhf8, yhf9, yhf10, yhf11⟩ := cells12 ST.out.b8
 go_upto_region 19 with ((go_at_call 34; (with_reducible refine (object_Check.calls K 3 d false 0 0 0 0 0 x y z 0 1 _ HK.out).mono ?_); rintro x_ ws ⟨rfl, hb⟩; have STn := Aside0.mk (OpSt.below ST.out hb); clear ST hb; have ST := STn; clear STn; obtain ⟨⟨s0, s1, s2⟩, sf0, sf1, sf2⟩ := cells3 ST.out.br))
 clear vh0 vhf0 vh1 vhf1 vh2 vhf2 yh0 yhf0 yh1 yhf1 yh2 yhf2 yh3 yhf3 yh4 yhf4 yh5 yhf5 yh6 yhf6 yh7 yhf7 yh8 yhf8 yh9 yhf9 yh10 yhf10 yh11 yhf11
 clear s0 sf0 s1 sf1 s2 sf2
 have STn := Aside0.mk ((OpSt.err ST.out 4))
 clear ST
 have ST := STn
 clear STn
 generalize (ws.setCell ⟨gr, 2, none⟩ (.int .i64 4)) = wq6 at ST ⊢
 have STd := Aside0.mk (OpSt.drew ST.out)
 clear ST
 have ST := STd
 clear STd
 refine start_ (n := 8) (S := fun w' => w'.cell? ⟨gr, 2, none⟩ = some (.int .i64 4)) (ds := []) #[false, false, false, false, false, false, false, false] (by kernel_rfl) rfl rfl ((blk_cell ST.out.br 2).trans rfl) (fun hHeld => ?_); refine with_tabW object_Parse.tab19 object_Parse.bits19 (fun HT_ HW_ => ?_)
 generalize wq6.drew = wd at ST hHeld ⊢
 obtain ⟨⟨o0, o1, o2, o3, o4, o5, o6, o7, o8, o9, o10, o11⟩, of0, of1, of2, of3, of4, of5, of6, of7, of8, of9, of10, of11⟩ := cells12 ST.out.b4
 have n94 : g8 ≠ g4 := ST.out.d48.symm
 have nr4 : gr ≠ g4 := (blk_ne ST.out.br ST.out.b4 (by decide))
 refine pureA (i := 0) (N := some 84) HT_ ?_
 refine pureA (i := 1) (N := some 85) HT_ ?_
 refine pureA (i := 2) (N := some 86) HT_ ?_
 refine pureA (i := 3) (N := some 87) HT_ ?_
 refine takeA (i := 4) (N := some 88) HT_ HW_ hHeld ?_
 refine oneA (i := 5) (N := none) HT_ (fun K hK => ?_)
 refine skip_ (w1 := ?_) (by rfl) rfl ?_ ?_
 rotate_left
 ·go_simp
  rfl
 refine hK.out _ _ ?_ (fun hHeld2 => ?_)
 ·(repeat (first | refine (cell_far n94 _).trans ?_ | refine (cell_far nr4 _).trans ?_)); exact hHeld
 clear hHeld
 have hHeld := hHeld2
 clear hHeld2
 clear hK K
 refine pureA (i := 6) (N := some 5) HT_ ?_
 refine pureA (i := 7) (N := some 6) HT_ ?_
 refine done_ (done_of HT_.out (by kernel_rfl)) ?_
 clear HT_ HW_
 try go_wp2
 refine bodyPost_ret (results_ctt rfl _ _ g4 45 #[.int .i64 0, .int .i64 0, .bool false, .int .i64 0, .int .i64 0, .int .i64 0, .int .i64 0, .int .i64 0, .int .i64 0, .int .i64 0, .int .i64 0, .int .i64 0] (0, 0) _ rfl (blk_put12 ST.out.b4 (.int .i64 0) (.int .i64 0) (.bool false) (.int .i64 0) (.int .i64 0) (.int .i64 0) (.int .i64 0) (.int .i64 0) (.int .i64 0) (.int .i64 0) (.int .i64 0) (.int .i64 0)) Try.underlying45 rfl (by kernel_rfl)) rfl ?_
 exact ⟨rfl, (below_set12 ST.out.bl ST.out.n4)⟩
theorem op_c_yes (A0 : Option Addr) (c0 : Nat) (l0 : List Int) (a1 : Int) (w : World) (k p1 e1 d p2 e2 p3 e3 x p4 e4 y p5 e5 z : Int) (HL : l0.length ≤ 1000000000000) (HY : Bytes l0) (HR0 : Kd.C (Kd.int .u8) w A0 l0.length l0) (HC0 : l0.length ≤ c0) (HG1 : rdN l0 1 a1 0 = (k, p1, e1)) (he : e1 = 0) (hk : k = 3) (HG2 : rdN l0 1 p1 0 = (d, p2, e2)) (HG3 : rdN l0 8 p2 e2 = (x, p3, e3)) (HG4 : rdN l0 1 p3 e3 = (y, p4, e4)) (HG5 : rdN l0 1 p4 e4 = (z, p5, e5)) (hf : e5 = 0) (hr : RO k d false 0 0 0 0 0 x y z 0) :
  Calls Try.prog 33 #[.slice A0 l0.length c0, .int .i64 a1] w fun e w' => e = .returned (.tuple #[.agg #[.int .i64 k, .int .i64 d, .bool false, .int .i64 0, .int .i64 0, .int .i64 0, .int .i64 0, .int .i64 0, .int .i64 x, .int .i64 y, .int .i64 z, .int .i64 0], .int .i64 p5, .int .i64 0]) ∧ Below w.heap.size w w' := by
 have hu27 := Try.underlying45
 have hu25 := Try.underlying43
 have hu23 := Try.underlying41
 have hu51 := Try.underlying77
 replace HL := Aside0.mk HL
 replace HY := Aside0.mk HY
 replace HR0 := Aside0.mk HR0
 replace HC0 := Aside0.mk HC0
 replace HG1 := Aside0.mk HG1
 replace HG2 := Aside0.mk HG2
 replace HG3 := Aside0.mk HG3
 replace HG4 := Aside0.mk HG4
 replace HG5 := Aside0.mk HG5
 subst he
 subst hk
 subst hf
 obtain ⟨K, hK⟩ := (oc_eq 3 d false 0 0 0 0 0 x y z 0).rounds
 rw [if_pos hr] at hK
 have HK := Aside0.mk hK
 clear hK hr
 go_enter Try.func33, Try.ntmps33
 go_upto_region 3 with (first
  | ((with_reducible refine gate_dst (N := 4) rfl ?_); refine box_event ?hg (N := 4) ?hd (cs := #[.int .i64 0, .int .i64 0, .bool false, .int .i64 0, .int .i64 0, .int .i64 0, .int .i64 0, .int .i64 0, .int .i64 0, .int .i64 0, .int .i64 0, .int .i64 0]) (t := 45) ?hr ?_; (case hd => rfl); (case hg => rfl); (case hr => first | (go_simp; done) | (go_simp; rfl)); intro g4 hg w4 hbox hb; have HB4 := Aside0.mk hb; have G4 := Aside0.mk (Nat.le_of_eq hg.symm); have B4 := Aside0.mk hbox; clear hb hbox hg)
  | ((with_reducible refine gate_dst (N := 12) rfl ?_); refine box_event ?hg (N := 12) ?hd (cs := RdC A0 l0.length c0 a1 0) (t := 77) ?hr ?_; (case hd => rfl); (case hg => rfl); (case hr => first | (go_simp; done) | (go_simp; rfl)); intro gr hg w5 hbox hb; have HB5 := Aside0.mk (below_step HB4.out hb); have GR := Aside0.mk (show w.heap.size ≤ gr by rw [hg]; exact below_size HB4.out); have B45 := Aside0.mk (blk_below B4.out hb); have BR := Aside0.mk hbox; clear hb hbox hg HB4 B4)
  | ((with_reducible refine gate_dst (N := 14) rfl ?_); refine goesA (some 14) Try.func42 #[.pointer (some ⟨gr, 0, none⟩), .int .i64 1] ?_; (with_reducible refine (or_number gr A0 c0 l0 a1 0 1 _ _ _ _ HG1.out HY.out HL.out (Kd.C_below HR0.out HB5.out) HC0.out BR.out).mono ?_); rintro x_ w14 ⟨rfl, hbx, hgr⟩; refine ⟨_, rfl, ?_⟩; have HB6 := Aside0.mk (pw_below_grown HB5.out (some gr) (below_size HB5.out) hgr (fun k_ e_ => by cases e_; exact GR.out)); have B46 := Aside0.mk (blk_grown B45.out hgr (fun e_ => blk_ne B45.out BR.out (by decide) (Option.some.inj e_))); have BR6 := Aside0.mk hbx; clear hbx hgr HB5 B45 BR)
  | ((with_reducible refine gate_dst (N := 8) rfl ?_); refine box_event ?hg (N := 8) ?hd (cs := #[.int .i64 0, .int .i64 0, .bool false, .int .i64 0, .int .i64 0, .int .i64 0, .int .i64 0, .int .i64 0, .int .i64 0, .int .i64 0, .int .i64 0, .int .i64 0]) (t := 45) ?hr ?_; (case hd => rfl); (case hg => rfl); (case hr => first | (go_simp; done) | (go_simp; rfl)); intro g8 hg w7 hbox hb; have ST0 := Aside0.mk (OpSt.mk (blk_below B46.out hb) hbox (blk_below BR6.out hb) (below_step HB6.out hb) G4.out (by rw [hg]; exact below_size HB6.out) GR.out (by rw [hg]; exact Nat.ne_of_lt (blk_lt B46.out))); clear hb hbox hg; obtain ⟨⟨u0, u1, u2, u3, u4, u5, u6, u7, u8, u9, u10, u11⟩, uf0, uf1, uf2, uf3, uf4, uf5, uf6, uf7, uf8, uf9, uf10, uf11⟩ := cells12 ST0.out.b8))
 have STn := Aside0.mk ((OpSt.put12 ST0.out (.int .i64 3) (.int .i64 0) (.bool false) (.int .i64 0) (.int .i64 0) (.int .i64 0) (.int .i64 0) (.int .i64 0) (.int .i64 0) (.int .i64 0) (.int .i64 0) (.int .i64 0)))
 clear ST0
 have ST := STn
 clear STn
 generalize ((((((((((((w7.setCell ⟨g8, 0, none⟩ (.int .i64 3)).setCell ⟨g8, 1, none⟩ (.int .i64 0)).setCell ⟨g8, 2, none⟩ (.bool false)).setCell ⟨g8, 3, none⟩ (.int .i64 0)).setCell ⟨g8, 4, none⟩ (.int .i64 0)).setCell ⟨g8, 5, none⟩ (.int .i64 0)).setCell ⟨g8, 6, none⟩ (.int .i64 0)).setCell ⟨g8, 7, none⟩ (.int .i64 0)).setCell ⟨g8, 8, none⟩ (.int .i64 0)).setCell ⟨g8, 9, none⟩ (.int .i64 0)).setCell ⟨g8, 10, none⟩ (.int .i64 0)).setCell ⟨g8, 11, none⟩ (.int .i64 0)) = wq1 at ST ⊢
 clear u0 uf0 u1 uf1 u2 uf2 u3 uf3 u4 uf4 u5 uf5 u6 uf6 u7 uf7 u8 uf8 u9 uf9 u10 uf10 u11 uf11
 obtain ⟨⟨va0, va1, va2⟩, vaf0, vaf1, vaf2⟩ := cells3 ST.out.br
 obtain ⟨⟨ya0, ya1, ya2, ya3, ya4, ya5, ya6, ya7, ya8, ya9, ya10, ya11⟩, yaf0, yaf1, yaf2, yaf3, yaf4, yaf5, yaf6, yaf7, yaf8, yaf9, yaf10, yaf11⟩ := cells12 ST.out.b8
 go_upto_region 6 with (((with_reducible refine gate_dst (N := 35) rfl ?_); refine goesA (some 35) Try.func42 #[.pointer (some ⟨gr, 0, none⟩), .int .i64 1] ?_; (with_reducible refine (or_number gr A0 c0 l0 _ _ 1 _ _ _ _ HG2.out HY.out HL.out (Kd.C_below HR0.out ST.out.bl) HC0.out ST.out.br).mono ?_); rintro x_ w35 ⟨rfl, hbx, hgr⟩; refine ⟨_, rfl, ?_⟩; have STn := Aside0.mk (ST.out.step hbx hgr); clear ST hbx hgr; have ST := STn; clear STn; obtain ⟨⟨x0, x1, x2, x3, x4, x5, x6, x7, x8, x9, x10, x11⟩, xf0, xf1, xf2, xf3, xf4, xf5, xf6, xf7, xf8, xf9, xf10, xf11⟩ := cells12 ST.out.b8))
 clear va0 vaf0 va1 vaf1 va2 vaf2 ya0 yaf0 ya1 yaf1 ya2 yaf2 ya3 yaf3 ya4 yaf4 ya5 yaf5 ya6 yaf6 ya7 yaf7 ya8 yaf8 ya9 yaf9 ya10 yaf10 ya11 yaf11
 clear x0 xf0 x1 xf1 x2 xf2 x3 xf3 x4 xf4 x5 xf5 x6 xf6 x7 xf7 x8 xf8 x9 xf9 x10 xf10 x11 xf11
 have STn := Aside0.mk ((OpSt.put ST.out 1 (.int .i64 d) (cs2 := #[.int .i64 3, .int .i64 d, .bool false, .int .i64 0, .int .i64 0, .int .i64 0, .int .i64 0, .int .i64 0, .int .i64 0, .int .i64 0, .int .i64 0, .int .i64 0]) rfl))
 clear ST
 have ST := STn
 clear STn
 generalize (w35.setCell ⟨g8, 1, none⟩ (.int .i64 d)) = wq2 at ST ⊢
 obtain ⟨⟨yc0, yc1, yc2, yc3, yc4, yc5, yc6, yc7, yc8, yc9, yc10, yc11⟩, ycf0, ycf1, ycf2, ycf3, ycf4, ycf5, ycf6, ycf7, ycf8, ycf9, ycf10, ycf11⟩ := cells12 ST.out.b8
 go_upto_region 11 with (((with_reducible refine gate_dst (N := 47) rfl ?_); refine goesA (some 47) Try.func42 #[.pointer (some ⟨gr, 0, none⟩), .int .i64 8] ?_; (with_reducible refine (or_number gr A0 c0 l0 _ _ 8 _ _ _ _ HG3.out HY.out HL.out (Kd.C_below HR0.out ST.out.bl) HC0.out ST.out.br).mono ?_); rintro x_ w47 ⟨rfl, hbx, hgr⟩; refine ⟨_, rfl, ?_⟩; have STn := Aside0.mk (ST.out.step hbx hgr); clear ST hbx hgr; have ST := STn; clear STn; obtain ⟨⟨x0, x1, x2, x3, x4, x5, x6, x7, x8, x9, x10, x11⟩, xf0, xf1, xf2, xf3, xf4, xf5, xf6, xf7, xf8, xf9, xf10, xf11⟩ := cells12 ST.out.b8))
 clear x0 xf0 x1 xf1 x2 xf2 x3 xf3 x4 xf4 x5 xf5 x6 xf6 x7 xf7 x8 xf8 x9 xf9 x10 xf10 x11 xf11
 clear yc0 ycf0 yc1 ycf1 yc2 ycf2 yc3 ycf3 yc4 ycf4 yc5 ycf5 yc6 ycf6 yc7 ycf7 yc8 ycf8 yc9 ycf9 yc10 ycf10 yc11 ycf11
 have STn := Aside0.mk ((OpSt.put ST.out 8 (.int .i64 x) (cs2 := #[.int .i64 3, .int .i64 d, .bool false, .int .i64 0, .int .i64 0, .int .i64 0, .int .i64 0, .int .i64 0, .int .i64 x, .int .i64 0, .int .i64 0, .int .i64 0]) rfl))
 clear ST
 have ST := STn
 clear STn
 generalize (w47.setCell ⟨g8, 8, none⟩ (.int .i64 x)) = wq3 at ST ⊢
 obtain ⟨⟨yd0, yd1, yd2, yd3, yd4, yd5, yd6, yd7, yd8, yd9, yd10, yd11⟩, ydf0, ydf1, ydf2, ydf3, ydf4, ydf5, ydf6, ydf7, ydf8, ydf9, ydf10, ydf11⟩ := cells12 ST.out.b8
 go_upto_region 12 with (((with_reducible refine gate_dst (N := 51) rfl ?_); refine goesA (some 51) Try.func42 #[.pointer (some ⟨gr, 0, none⟩), .int .i64 1] ?_; (with_reducible refine (or_number gr A0 c0 l0 _ _ 1 _ _ _ _ HG4.out HY.out HL.out (Kd.C_below HR0.out ST.out.bl) HC0.out ST.out.br).mono ?_); rintro x_ w51 ⟨rfl, hbx, hgr⟩; refine ⟨_, rfl, ?_⟩; have STn := Aside0.mk (ST.out.step hbx hgr); clear ST hbx hgr; have ST := STn; clear STn; obtain ⟨⟨x0, x1, x2, x3, x4, x5, x6, x7, x8, x9, x10, x11⟩, xf0, xf1, xf2, xf3, xf4, xf5, xf6, xf7, xf8, xf9, xf10, xf11⟩ := cells12 ST.out.b8))
 clear x0 xf0 x1 xf1 x2 xf2 x3 xf3 x4 xf4 x5 xf5 x6 xf6 x7 xf7 x8 xf8 x9 xf9 x10 xf10 x11 xf11
 clear yd0 ydf0 yd1 ydf1 yd2 ydf2 yd3 ydf3 yd4 ydf4 yd5 ydf5 yd6 ydf6 yd7 ydf7 yd8 ydf8 yd9 ydf9 yd10 ydf10 yd11 ydf11
 have STn := Aside0.mk ((OpSt.put ST.out 9 (.int .i64 y) (cs2 := #[.int .i64 3, .int .i64 d, .bool false, .int .i64 0, .int .i64 0, .int .i64 0, .int .i64 0, .int .i64 0, .int .i64 x, .int .i64 y, .int .i64 0, .int .i64 0]) rfl))
 clear ST
 have ST := STn
 clear STn
 generalize (w51.setCell ⟨g8, 9, none⟩ (.int .i64 y)) = wq4 at ST ⊢
 obtain ⟨⟨yf0, yf1, yf2, yf3, yf4, yf5, yf6, yf7, yf8, yf9, yf10, yf11⟩, yff0, yff1, yff2, yff3, yff4, yff5, yff6, yff7, yff8, yff9, yff10, yff11⟩ := cells12 ST.out.b8
 go_upto_region 16 with (((with_reducible refine gate_dst (N := 55) rfl ?_); refine goesA (some 55) Try.func42 #[.pointer (some ⟨gr, 0, none⟩), .int .i64 1] ?_; (with_reducible refine (or_number gr A0 c0 l0 _ _ 1 _ _ _ _ HG5.out HY.out HL.out (Kd.C_below HR0.out ST.out.bl) HC0.out ST.out.br).mono ?_); rintro x_ w55 ⟨rfl, hbx, hgr⟩; refine ⟨_, rfl, ?_⟩; have STn := Aside0.mk (ST.out.step hbx hgr); clear ST hbx hgr; have ST := STn; clear STn; obtain ⟨⟨x0, x1, x2, x3, x4, x5, x6, x7, x8, x9, x10, x11⟩, xf0, xf1, xf2, xf3, xf4, xf5, xf6, xf7, xf8, xf9, xf10, xf11⟩ := cells12 ST.out.b8))
 clear x0 xf0 x1 xf1 x2 xf2 x3 xf3 x4 xf4 x5 xf5 x6 xf6 x7 xf7 x8 xf8 x9 xf9 x10 xf10 x11 xf11
 clear yf0 yff0 yf1 yff1 yf2 yff2 yf3 yff3 yf4 yff4 yf5 yff5 yf6 yff6 yf7 yff7 yf8 yff8 yf9 yff9 yf10 yff10 yf11 yff11
 have STn := Aside0.mk ((OpSt.put ST.out 10 (.int .i64 z) (cs2 := #[.int .i64 3, .int .i64 d, .bool false, .int .i64 0, .int .i64 0, .int .i64 0, .int .i64 0, .int .i64 0, .int .i64 x, .int .i64 y, .int .i64 z, .int .i64 0]) rfl))
 clear ST
 have ST := STn
 clear STn
 generalize (w55.setCell ⟨g8, 10, none⟩ (.int .i64 z)) = wq5 at ST ⊢
 obtain ⟨⟨vh0, vh1, vh2⟩, vhf0, vhf1, vhf2⟩ := cells3 ST.out.br
 obtain ⟨⟨yh0, yh1, yh2, yh3, yh4, yh5, yh6, yh7, yh8, yh9, yh10, yh11⟩, yhf0, yhf1, yhf2, yhf3, yhf4, yhf5, yhf6, yhf7, yhf8, yhf9, yhf10, yhf11⟩ := cells12 ST.out.b8
 go_upto_region 20 with ((go_at_call 34; (with_reducible refine (object_Check.calls K 3 d false 0 0 0 0 0 x y z 0 0 _ HK.out).mono ?_); rintro x_ ws ⟨rfl, hb⟩; have STn := Aside0.mk (OpSt.below ST.out hb); clear ST hb; have ST := STn; clear STn; obtain ⟨⟨s0, s1, s2⟩, sf0, sf1, sf2⟩ := cells3 ST.out.br))
 clear vh0 vhf0 vh1 vhf1 vh2 vhf2 yh0 yhf0 yh1 yhf1 yh2 yhf2 yh3 yhf3 yh4 yhf4 yh5 yhf5 yh6 yhf6 yh7 yhf7 yh8 yhf8 yh9 yhf9 yh10 yhf10 yh11 yhf11
 clear s0 sf0 s1 sf1 s2 sf2
 have STd := Aside0.mk (OpSt.drew ST.out)
 clear ST
 have ST := STd
 clear STd
 refine start_ (n := 8) (S := fun w' => w'.cell? ⟨g8, 0, none⟩ = some (.int .i64 3) ∧ w'.cell? ⟨g8, 1, none⟩ = some (.int .i64 d) ∧ w'.cell? ⟨g8, 2, none⟩ = some (.bool false) ∧ w'.cell? ⟨g8, 3, none⟩ = some (.int .i64 0) ∧ w'.cell? ⟨g8, 4, none⟩ = some (.int .i64 0) ∧ w'.cell? ⟨g8, 5, none⟩ = some (.int .i64 0) ∧ w'.cell? ⟨g8, 6, none⟩ = some (.int .i64 0) ∧ w'.cell? ⟨g8, 7, none⟩ = some (.int .i64 0) ∧ w'.cell? ⟨g8, 8, none⟩ = some (.int .i64 x) ∧ w'.cell? ⟨g8, 9, none⟩ = some (.int .i64 y) ∧ w'.cell? ⟨g8, 10, none⟩ = some (.int .i64 z) ∧ w'.cell? ⟨g8, 11, none⟩ = some (.int .i64 0) ∧ w'.cell? ⟨gr, 1, none⟩ = some (.int .i64 p5)) (ds := []) #[false, false, false, false, false, false, false, false] (by kernel_rfl) rfl rfl ⟨(blk_cell ST.out.b8 0).trans rfl, (blk_cell ST.out.b8 1).trans rfl, (blk_cell ST.out.b8 2).trans rfl, (blk_cell ST.out.b8 3).trans rfl, (blk_cell ST.out.b8 4).trans rfl, (blk_cell ST.out.b8 5).trans rfl, (blk_cell ST.out.b8 6).trans rfl, (blk_cell ST.out.b8 7).trans rfl, (blk_cell ST.out.b8 8).trans rfl, (blk_cell ST.out.b8 9).trans rfl, (blk_cell ST.out.b8 10).trans rfl, (blk_cell ST.out.b8 11).trans rfl, (blk_cell ST.out.br 1).trans rfl⟩ (fun hHeld => ?_); refine with_tabW object_Parse.tab20 object_Parse.bits20 (fun HT_ HW_ => ?_)
 generalize ws.drew = wd at ST hHeld ⊢
 obtain ⟨⟨o0, o1, o2, o3, o4, o5, o6, o7, o8, o9, o10, o11⟩, of0, of1, of2, of3, of4, of5, of6, of7, of8, of9, of10, of11⟩ := cells12 ST.out.b4
 have n94 : g8 ≠ g4 := ST.out.d48.symm
 have nr4 : gr ≠ g4 := (blk_ne ST.out.br ST.out.b4 (by decide))
 refine pureA (i := 1) (N := some 90) HT_ ?_
 refine pureA (i := 2) (N := some 91) HT_ ?_
 refine pureA (i := 3) (N := some 92) HT_ ?_
 refine takeA (i := 0) (N := some 89) HT_ HW_ hHeld ?_
 refine takeA (i := 4) (N := some 93) HT_ HW_ hHeld ?_
 refine oneA (i := 5) (N := none) HT_ (fun K hK => ?_)
 refine skip_ (w1 := ?_) (by rfl) rfl ?_ ?_
 rotate_left
 ·go_simp
  rfl
 refine hK.out _ _ ?_ (fun hHeld2 => ?_)
 ·refine ⟨?_, ?_, ?_, ?_, ?_, ?_, ?_, ?_, ?_, ?_, ?_, ?_, ?_⟩
  ·(repeat (first | refine (cell_far n94 _).trans ?_ | refine (cell_far nr4 _).trans ?_)); exact hHeld.1
  ·(repeat (first | refine (cell_far n94 _).trans ?_ | refine (cell_far nr4 _).trans ?_)); exact hHeld.2.1
  ·(repeat (first | refine (cell_far n94 _).trans ?_ | refine (cell_far nr4 _).trans ?_)); exact hHeld.2.2.1
  ·(repeat (first | refine (cell_far n94 _).trans ?_ | refine (cell_far nr4 _).trans ?_)); exact hHeld.2.2.2.1
  ·(repeat (first | refine (cell_far n94 _).trans ?_ | refine (cell_far nr4 _).trans ?_)); exact hHeld.2.2.2.2.1
  ·(repeat (first | refine (cell_far n94 _).trans ?_ | refine (cell_far nr4 _).trans ?_)); exact hHeld.2.2.2.2.2.1
  ·(repeat (first | refine (cell_far n94 _).trans ?_ | refine (cell_far nr4 _).trans ?_)); exact hHeld.2.2.2.2.2.2.1
  ·(repeat (first | refine (cell_far n94 _).trans ?_ | refine (cell_far nr4 _).trans ?_)); exact hHeld.2.2.2.2.2.2.2.1
  ·(repeat (first | refine (cell_far n94 _).trans ?_ | refine (cell_far nr4 _).trans ?_)); exact hHeld.2.2.2.2.2.2.2.2.1
  ·(repeat (first | refine (cell_far n94 _).trans ?_ | refine (cell_far nr4 _).trans ?_)); exact hHeld.2.2.2.2.2.2.2.2.2.1
  ·(repeat (first | refine (cell_far n94 _).trans ?_ | refine (cell_far nr4 _).trans ?_)); exact hHeld.2.2.2.2.2.2.2.2.2.2.1
  ·(repeat (first | refine (cell_far n94 _).trans ?_ | refine (cell_far nr4 _).trans ?_)); exact hHeld.2.2.2.2.2.2.2.2.2.2.2.1
  ·(repeat (first | refine (cell_far n94 _).trans ?_ | refine (cell_far nr4 _).trans ?_)); exact hHeld.2.2.2.2.2.2.2.2.2.2.2.2
 clear hHeld
 have hHeld := hHeld2
 clear hHeld2
 clear hK K
 refine pureA (i := 6) (N := some 5) HT_ ?_
 refine pureA (i := 7) (N := some 6) HT_ ?_
 refine done_ (done_of HT_.out (by kernel_rfl)) ?_
 clear HT_ HW_
 try go_wp2
 refine bodyPost_ret (results_ctt rfl _ _ g4 45 #[.int .i64 3, .int .i64 d, .bool false, .int .i64 0, .int .i64 0, .int .i64 0, .int .i64 0, .int .i64 0, .int .i64 x, .int .i64 y, .int .i64 z, .int .i64 0] (0, 0) _ rfl (blk_put12 ST.out.b4 (.int .i64 3) (.int .i64 d) (.bool false) (.int .i64 0) (.int .i64 0) (.int .i64 0) (.int .i64 0) (.int .i64 0) (.int .i64 x) (.int .i64 y) (.int .i64 z) (.int .i64 0)) Try.underlying45 rfl (by kernel_rfl)) rfl ?_
 exact ⟨rfl, (below_set12 ST.out.bl ST.out.n4)⟩
theorem op_o_e (A0 : Option Addr) (c0 : Nat) (l0 : List Int) (a1 : Int) (w : World) (n : Bool) (k p1 e1 d p2 e2 p3 e3 a b c_ dd i p4 e4 m : Int) (HL : l0.length ≤ 1000000000000) (HY : Bytes l0) (HR0 : Kd.C (Kd.int .u8) w A0 l0.length l0) (HC0 : l0.length ≤ c0) (HG1 : rdN l0 1 a1 0 = (k, p1, e1)) (he : e1 = 0) (hk : k = 4) (HG2 : rdN l0 1 p1 0 = (d, p2, e2)) (HG3 : rdH l0 p2 e2 = (n, a, b, c_, dd, i, p3, e3)) (HG4 : rdN l0 2 p3 e3 = (m, p4, e4)) (hf : ¬ e4 = 0) :
  Calls Try.prog 33 #[.slice A0 l0.length c0, .int .i64 a1] w fun e w' => e = .returned (.tuple #[.agg #[.int .i64 0, .int .i64 0, .bool false, .int .i64 0, .int .i64 0, .int .i64 0, .int .i64 0, .int .i64 0, .int .i64 0, .int .i64 0, .int .i64 0, .int .i64 0], .int .i64 0, .int .i64 e4]) ∧ Below w.heap.size w w' := by
 have hu27 := Try.underlying45
 have hu25 := Try.underlying43
 have hu23 := Try.underlying41
 have hu51 := Try.underlying77
 replace HL := Aside0.mk HL
 replace HY := Aside0.mk HY
 replace HR0 := Aside0.mk HR0
 replace HC0 := Aside0.mk HC0
 replace HG1 := Aside0.mk HG1
 replace HG2 := Aside0.mk HG2
 replace HG3 := Aside0.mk HG3
 replace HG4 := Aside0.mk HG4
 subst he
 subst hk
 have b8 : (e4 == 0) = false := beq_eq_false_iff_ne.mpr hf
 have b9 : (e4 != 0) = true := bne_iff_ne.mpr hf
 clear hf
 go_enter Try.func33, Try.ntmps33
 go_upto_region 3 with (first
  | ((with_reducible refine gate_dst (N := 4) rfl ?_); refine box_event ?hg (N := 4) ?hd (cs := #[.int .i64 0, .int .i64 0, .bool false, .int .i64 0, .int .i64 0, .int .i64 0, .int .i64 0, .int .i64 0, .int .i64 0, .int .i64 0, .int .i64 0, .int .i64 0]) (t := 45) ?hr ?_; (case hd => rfl); (case hg => rfl); (case hr => first | (go_simp; done) | (go_simp; rfl)); intro g4 hg w4 hbox hb; have HB4 := Aside0.mk hb; have G4 := Aside0.mk (Nat.le_of_eq hg.symm); have B4 := Aside0.mk hbox; clear hb hbox hg)
  | ((with_reducible refine gate_dst (N := 12) rfl ?_); refine box_event ?hg (N := 12) ?hd (cs := RdC A0 l0.length c0 a1 0) (t := 77) ?hr ?_; (case hd => rfl); (case hg => rfl); (case hr => first | (go_simp; done) | (go_simp; rfl)); intro gr hg w5 hbox hb; have HB5 := Aside0.mk (below_step HB4.out hb); have GR := Aside0.mk (show w.heap.size ≤ gr by rw [hg]; exact below_size HB4.out); have B45 := Aside0.mk (blk_below B4.out hb); have BR := Aside0.mk hbox; clear hb hbox hg HB4 B4)
  | ((with_reducible refine gate_dst (N := 14) rfl ?_); refine goesA (some 14) Try.func42 #[.pointer (some ⟨gr, 0, none⟩), .int .i64 1] ?_; (with_reducible refine (or_number gr A0 c0 l0 a1 0 1 _ _ _ _ HG1.out HY.out HL.out (Kd.C_below HR0.out HB5.out) HC0.out BR.out).mono ?_); rintro x_ w14 ⟨rfl, hbx, hgr⟩; refine ⟨_, rfl, ?_⟩; have HB6 := Aside0.mk (pw_below_grown HB5.out (some gr) (below_size HB5.out) hgr (fun k_ e_ => by cases e_; exact GR.out)); have B46 := Aside0.mk (blk_grown B45.out hgr (fun e_ => blk_ne B45.out BR.out (by decide) (Option.some.inj e_))); have BR6 := Aside0.mk hbx; clear hbx hgr HB5 B45 BR)
  | ((with_reducible refine gate_dst (N := 8) rfl ?_); refine box_event ?hg (N := 8) ?hd (cs := #[.int .i64 0, .int .i64 0, .bool false, .int .i64 0, .int .i64 0, .int .i64 0, .int .i64 0, .int .i64 0, .int .i64 0, .int .i64 0, .int .i64 0, .int .i64 0]) (t := 45) ?hr ?_; (case hd => rfl); (case hg => rfl); (case hr => first | (go_simp; done) | (go_simp; rfl)); intro g8 hg w7 hbox hb; have ST0 := Aside0.mk (OpSt.mk (blk_below B46.out hb) hbox (blk_below BR6.out hb) (below_step HB6.out hb) G4.out (by rw [hg]; exact below_size HB6.out) GR.out (by rw [hg]; exact Nat.ne_of_lt (blk_lt B46.out))); clear hb hbox hg; obtain ⟨⟨u0, u1, u2, u3, u4, u5, u6, u7, u8, u9, u10, u11⟩, uf0, uf1, uf2, uf3, uf4, uf5, uf6, uf7, uf8, uf9, uf10, uf11⟩ := cells12 ST0.out.b8))
 have STn := Aside0.mk ((OpSt.put12 ST0.out (.int .i64 4) (.int .i64 0) (.bool false) (.int .i64 0) (.int .i64 0) (.int .i64 0) (.int .i64 0) (.int .i64 0) (.int .i64 0) (.int .i64 0) (.int .i64 0) (.int .i64 0)))
 clear ST0
 have ST := STn
 clear STn
 generalize ((((((((((((w7.setCell ⟨g8, 0, none⟩ (.int .i64 4)).setCell ⟨g8, 1, none⟩ (.int .i64 0)).setCell ⟨g8, 2, none⟩ (.bool false)).setCell ⟨g8, 3, none⟩ (.int .i64 0)).setCell ⟨g8, 4, none⟩ (.int .i64 0)).setCell ⟨g8, 5, none⟩ (.int .i64 0)).setCell ⟨g8, 6, none⟩ (.int .i64 0)).setCell ⟨g8, 7, none⟩ (.int .i64 0)).setCell ⟨g8, 8, none⟩ (.int .i64 0)).setCell ⟨g8, 9, none⟩ (.int .i64 0)).setCell ⟨g8, 10, none⟩ (.int .i64 0)).setCell ⟨g8, 11, none⟩ (.int .i64 0)) = wq1 at ST ⊢
 clear u0 uf0 u1 uf1 u2 uf2 u3 uf3 u4 uf4 u5 uf5 u6 uf6 u7 uf7 u8 uf8 u9 uf9 u10 uf10 u11 uf11
 obtain ⟨⟨va0, va1, va2⟩, vaf0, vaf1, vaf2⟩ := cells3 ST.out.br
 obtain ⟨⟨ya0, ya1, ya2, ya3, ya4, ya5, ya6, ya7, ya8, ya9, ya10, ya11⟩, yaf0, yaf1, yaf2, yaf3, yaf4, yaf5, yaf6, yaf7, yaf8, yaf9, yaf10, yaf11⟩ := cells12 ST.out.b8
 go_upto_region 6 with (((with_reducible refine gate_dst (N := 35) rfl ?_); refine goesA (some 35) Try.func42 #[.pointer (some ⟨gr, 0, none⟩), .int .i64 1] ?_; (with_reducible refine (or_number gr A0 c0 l0 _ _ 1 _ _ _ _ HG2.out HY.out HL.out (Kd.C_below HR0.out ST.out.bl) HC0.out ST.out.br).mono ?_); rintro x_ w35 ⟨rfl, hbx, hgr⟩; refine ⟨_, rfl, ?_⟩; have STn := Aside0.mk (ST.out.step hbx hgr); clear ST hbx hgr; have ST := STn; clear STn; obtain ⟨⟨x0, x1, x2, x3, x4, x5, x6, x7, x8, x9, x10, x11⟩, xf0, xf1, xf2, xf3, xf4, xf5, xf6, xf7, xf8, xf9, xf10, xf11⟩ := cells12 ST.out.b8))
 clear va0 vaf0 va1 vaf1 va2 vaf2 ya0 yaf0 ya1 yaf1 ya2 yaf2 ya3 yaf3 ya4 yaf4 ya5 yaf5 ya6 yaf6 ya7 yaf7 ya8 yaf8 ya9 yaf9 ya10 yaf10 ya11 yaf11
 clear x0 xf0 x1 xf1 x2 xf2 x3 xf3 x4 xf4 x5 xf5 x6 xf6 x7 xf7 x8 xf8 x9 xf9 x10 xf10 x11 xf11
 have STn := Aside0.mk ((OpSt.put ST.out 1 (.int .i64 d) (cs2 := #[.int .i64 4, .int .i64 d, .bool false, .int .i64 0, .int .i64 0, .int .i64 0, .int .i64 0, .int .i64 0, .int .i64 0, .int .i64 0, .int .i64 0, .int .i64 0]) rfl))
 clear ST
 have ST := STn
 clear STn
 generalize (w35.setCell ⟨g8, 1, none⟩ (.int .i64 d)) = wq2 at ST ⊢
 obtain ⟨⟨yc0, yc1, yc2, yc3, yc4, yc5, yc6, yc7, yc8, yc9, yc10, yc11⟩, ycf0, ycf1, ycf2, ycf3, ycf4, ycf5, ycf6, ycf7, ycf8, ycf9, ycf10, ycf11⟩ := cells12 ST.out.b8
 go_upto_region 15 with (((with_reducible refine gate_dst (N := 61) rfl ?_); refine goesA (some 61) Try.func43 #[.pointer (some ⟨gr, 0, none⟩)] ?_; (with_reducible refine (or_height gr A0 c0 l0 _ _ _ _ _ _ _ _ _ _ _ HG3.out HY.out HL.out (Kd.C_below HR0.out ST.out.bl) HC0.out ST.out.br).mono ?_); rintro x_ w61 ⟨rfl, hbx, hgr⟩; refine ⟨_, rfl, ?_⟩; have STn := Aside0.mk (ST.out.step hbx hgr); clear ST hbx hgr; have ST := STn; clear STn; obtain ⟨⟨x0, x1, x2, x3, x4, x5, x6, x7, x8, x9, x10, x11⟩, xf0, xf1, xf2, xf3, xf4, xf5, xf6, xf7, xf8, xf9, xf10, xf11⟩ := cells12 ST.out.b8))
 clear x0 xf0 x1 xf1 x2 xf2 x3 xf3 x4 xf4 x5 xf5 x6 xf6 x7 xf7 x8 xf8 x9 xf9 x10 xf10 x11 xf11
 clear yc0 ycf0 yc1 ycf1 yc2 ycf2 yc3 ycf3 yc4 ycf4 yc5 ycf5 yc6 ycf6 yc7 ycf7 yc8 ycf8 yc9 ycf9 yc10 ycf10 yc11 ycf11
 have STn := Aside0.mk ((OpSt.put (OpSt.put (OpSt.put (OpSt.put (OpSt.put (OpSt.put ST.out 2 (.bool n) (cs2 := #[.int .i64 4, .int .i64 d, .bool n, .int .i64 0, .int .i64 0, .int .i64 0, .int .i64 0, .int .i64 0, .int .i64 0, .int .i64 0, .int .i64 0, .int .i64 0]) rfl) 3 (.int .i64 a) (cs2 := #[.int .i64 4, .int .i64 d, .bool n, .int .i64 a, .int .i64 0, .int .i64 0, .int .i64 0, .int .i64 0, .int .i64 0, .int .i64 0, .int .i64 0, .int .i64 0]) rfl) 4 (.int .i64 b) (cs2 := #[.int .i64 4, .int .i64 d, .bool n, .int .i64 a, .int .i64 b, .int .i64 0, .int .i64 0, .int .i64 0, .int .i64 0, .int .i64 0, .int .i64 0, .int .i64 0]) rfl) 5 (.int .i64 c_) (cs2 := #[.int .i64 4, .int .i64 d, .bool n, .int .i64 a, .int .i64 b, .int .i64 c_, .int .i64 0, .int .i64 0, .int .i64 0, .int .i64 0, .int .i64 0, .int .i64 0]) rfl) 6 (.int .i64 dd) (cs2 := #[.int .i64 4, .int .i64 d, .bool n, .int .i64 a, .int .i64 b, .int .i64 c_, .int .i64 dd, .int .i64 0, .int .i64 0, .int .i64 0, .int .i64 0, .int .i64 0]) rfl) 7 (.int .i64 i) (cs2 := #[.int .i64 4, .int .i64 d, .bool n, .int .i64 a, .int .i64 b, .int .i64 c_, .int .i64 dd, .int .i64 i, .int .i64 0, .int .i64 0, .int .i64 0, .int .i64 0]) rfl))
 clear ST
 have ST := STn
 clear STn
 generalize ((((((w61.setCell ⟨g8, 2, none⟩ (.bool n)).setCell ⟨g8, 3, none⟩ (.int .i64 a)).setCell ⟨g8, 4, none⟩ (.int .i64 b)).setCell ⟨g8, 5, none⟩ (.int .i64 c_)).setCell ⟨g8, 6, none⟩ (.int .i64 dd)).setCell ⟨g8, 7, none⟩ (.int .i64 i)) = wq3 at ST ⊢
 obtain ⟨⟨yd0, yd1, yd2, yd3, yd4, yd5, yd6, yd7, yd8, yd9, yd10, yd11⟩, ydf0, ydf1, ydf2, ydf3, ydf4, ydf5, ydf6, ydf7, ydf8, ydf9, ydf10, ydf11⟩ := cells12 ST.out.b8
 go_upto_region 16 with (((with_reducible refine gate_dst (N := 64) rfl ?_); refine goesA (some 64) Try.func42 #[.pointer (some ⟨gr, 0, none⟩), .int .i64 2] ?_; (with_reducible refine (or_number gr A0 c0 l0 _ _ 2 _ _ _ _ HG4.out HY.out HL.out (Kd.C_below HR0.out ST.out.bl) HC0.out ST.out.br).mono ?_); rintro x_ w64 ⟨rfl, hbx, hgr⟩; refine ⟨_, rfl, ?_⟩; have STn := Aside0.mk (ST.out.step hbx hgr); clear ST hbx hgr; have ST := STn; clear STn; obtain ⟨⟨x0, x1, x2, x3, x4, x5, x6, x7, x8, x9, x10, x11⟩, xf0, xf1, xf2, xf3, xf4, xf5, xf6, xf7, xf8, xf9, xf10, xf11⟩ := cells12 ST.out.b8))
 clear x0 xf0 x1 xf1 x2 xf2 x3 xf3 x4 xf4 x5 xf5 x6 xf6 x7 xf7 x8 xf8 x9 xf9 x10 xf10 x11 xf11
 clear yd0 ydf0 yd1 ydf1 yd2 ydf2 yd3 ydf3 yd4 ydf4 yd5 ydf5 yd6 ydf6 yd7 ydf7 yd8 ydf8 yd9 ydf9 yd10 ydf10 yd11 ydf11
 have STn := Aside0.mk ((OpSt.put ST.out 11 (.int .i64 m) (cs2 := #[.int .i64 4, .int .i64 d, .bool n, .int .i64 a, .int .i64 b, .int .i64 c_, .int .i64 dd, .int .i64 i, .int .i64 0, .int .i64 0, .int .i64 0, .int .i64 m]) rfl))
 clear ST
 have ST := STn
 clear STn
 generalize (w64.setCell ⟨g8, 11, none⟩ (.int .i64 m)) = wq4 at ST ⊢
 obtain ⟨⟨vf0, vf1, vf2⟩, vff0, vff1, vff2⟩ := cells3 ST.out.br
 obtain ⟨⟨yf0, yf1, yf2, yf3, yf4, yf5, yf6, yf7, yf8, yf9, yf10, yf11⟩, yff0, yff1, yff2, yff3, yff4, yff5, yff6, yff7, yff8, yff9, yff10, yff11⟩ := cells12 ST.out.b8
 go_upto_region 19 with (fail)
 clear vf0 vff0 vf1 vff1 vf2 vff2 yf0 yff0 yf1 yff1 yf2 yff2 yf3 yff3 yf4 yff4 yf5 yff5 yf6 yff6 yf7 yff7 yf8 yff8 yf9 yff9 yf10 yff10 yf11 yff11
 have STd := Aside0.mk (OpSt.drew ST.out)
 clear ST
 have ST := STd
 clear STd
 refine start_ (n := 8) (S := fun w' => w'.cell? ⟨gr, 2, none⟩ = some (.int .i64 e4)) (ds := []) #[false, false, false, false, false, false, false, false] (by kernel_rfl) rfl rfl ((blk_cell ST.out.br 2).trans rfl) (fun hHeld => ?_); refine with_tabW object_Parse.tab19 object_Parse.bits19 (fun HT_ HW_ => ?_)
 generalize wq4.drew = wd at ST hHeld ⊢
 obtain ⟨⟨o0, o1, o2, o3, o4, o5, o6, o7, o8, o9, o10, o11⟩, of0, of1, of2, of3, of4, of5, of6, of7, of8, of9, of10, of11⟩ := cells12 ST.out.b4
 have n94 : g8 ≠ g4 := ST.out.d48.symm
 have nr4 : gr ≠ g4 := (blk_ne ST.out.br ST.out.b4 (by decide))
 refine pureA (i := 0) (N := some 84) HT_ ?_
 refine pureA (i := 1) (N := some 85) HT_ ?_
 refine pureA (i := 2) (N := some 86) HT_ ?_
 refine pureA (i := 3) (N := some 87) HT_ ?_
 refine takeA (i := 4) (N := some 88) HT_ HW_ hHeld ?_
 refine oneA (i := 5) (N := none) HT_ (fun K hK => ?_)
 refine skip_ (w1 := ?_) (by rfl) rfl ?_ ?_
 rotate_left
 ·go_simp
  rfl
 refine hK.out _ _ ?_ (fun hHeld2 => ?_)
 ·(repeat (first | refine (cell_far n94 _).trans ?_ | refine (cell_far nr4 _).trans ?_)); exact hHeld
 clear hHeld
 have hHeld := hHeld2
 clear hHeld2
 clear hK K
 refine pureA (i := 6) (N := some 5) HT_ ?_
 refine pureA (i := 7) (N := some 6) HT_ ?_
 refine done_ (done_of HT_.out (by kernel_rfl)) ?_
 clear HT_ HW_
 try go_wp2
 refine bodyPost_ret (results_ctt rfl _ _ g4 45 #[.int .i64 0, .int .i64 0, .bool false, .int .i64 0, .int .i64 0, .int .i64 0, .int .i64 0, .int .i64 0, .int .i64 0, .int .i64 0, .int .i64 0, .int .i64 0] (0, 0) _ rfl (blk_put12 ST.out.b4 (.int .i64 0) (.int .i64 0) (.bool false) (.int .i64 0) (.int .i64 0) (.int .i64 0) (.int .i64 0) (.int .i64 0) (.int .i64 0) (.int .i64 0) (.int .i64 0) (.int .i64 0)) Try.underlying45 rfl (by kernel_rfl)) rfl ?_
 exact ⟨rfl, (below_set12 ST.out.bl ST.out.n4)⟩
theorem op_o_no (A0 : Option Addr) (c0 : Nat) (l0 : List Int) (a1 : Int) (w : World) (n : Bool) (k p1 e1 d p2 e2 p3 e3 a b c_ dd i p4 e4 m : Int) (HL : l0.length ≤ 1000000000000) (HY : Bytes l0) (HR0 : Kd.C (Kd.int .u8) w A0 l0.length l0) (HC0 : l0.length ≤ c0) (HG1 : rdN l0 1 a1 0 = (k, p1, e1)) (he : e1 = 0) (hk : k = 4) (HG2 : rdN l0 1 p1 0 = (d, p2, e2)) (HG3 : rdH l0 p2 e2 = (n, a, b, c_, dd, i, p3, e3)) (HG4 : rdN l0 2 p3 e3 = (m, p4, e4)) (hf : e4 = 0) (hr : ¬ RO k d n a b c_ dd i 0 0 0 m) :
  Calls Try.prog 33 #[.slice A0 l0.length c0, .int .i64 a1] w fun e w' => e = .returned (.tuple #[.agg #[.int .i64 0, .int .i64 0, .bool false, .int .i64 0, .int .i64 0, .int .i64 0, .int .i64 0, .int .i64 0, .int .i64 0, .int .i64 0, .int .i64 0, .int .i64 0], .int .i64 0, .int .i64 4]) ∧ Below w.heap.size w w' := by
 have hu27 := Try.underlying45
 have hu25 := Try.underlying43
 have hu23 := Try.underlying41
 have hu51 := Try.underlying77
 replace HL := Aside0.mk HL
 replace HY := Aside0.mk HY
 replace HR0 := Aside0.mk HR0
 replace HC0 := Aside0.mk HC0
 replace HG1 := Aside0.mk HG1
 replace HG2 := Aside0.mk HG2
 replace HG3 := Aside0.mk HG3
 replace HG4 := Aside0.mk HG4
 subst he
 subst hk
 subst hf
 obtain ⟨K, hK⟩ := (oc_eq 4 d n a b c_ dd i 0 0 0 m).rounds
 rw [if_neg hr] at hK
 have HK := Aside0.mk hK
 clear hK hr
 go_enter Try.func33, Try.ntmps33
 go_upto_region 3 with (first
  | ((with_reducible refine gate_dst (N := 4) rfl ?_); refine box_event ?hg (N := 4) ?hd (cs := #[.int .i64 0, .int .i64 0, .bool false, .int .i64 0, .int .i64 0, .int .i64 0, .int .i64 0, .int .i64 0, .int .i64 0, .int .i64 0, .int .i64 0, .int .i64 0]) (t := 45) ?hr ?_; (case hd => rfl); (case hg => rfl); (case hr => first | (go_simp; done) | (go_simp; rfl)); intro g4 hg w4 hbox hb; have HB4 := Aside0.mk hb; have G4 := Aside0.mk (Nat.le_of_eq hg.symm); have B4 := Aside0.mk hbox; clear hb hbox hg)
  | ((with_reducible refine gate_dst (N := 12) rfl ?_); refine box_event ?hg (N := 12) ?hd (cs := RdC A0 l0.length c0 a1 0) (t := 77) ?hr ?_; (case hd => rfl); (case hg => rfl); (case hr => first | (go_simp; done) | (go_simp; rfl)); intro gr hg w5 hbox hb; have HB5 := Aside0.mk (below_step HB4.out hb); have GR := Aside0.mk (show w.heap.size ≤ gr by rw [hg]; exact below_size HB4.out); have B45 := Aside0.mk (blk_below B4.out hb); have BR := Aside0.mk hbox; clear hb hbox hg HB4 B4)
  | ((with_reducible refine gate_dst (N := 14) rfl ?_); refine goesA (some 14) Try.func42 #[.pointer (some ⟨gr, 0, none⟩), .int .i64 1] ?_; (with_reducible refine (or_number gr A0 c0 l0 a1 0 1 _ _ _ _ HG1.out HY.out HL.out (Kd.C_below HR0.out HB5.out) HC0.out BR.out).mono ?_); rintro x_ w14 ⟨rfl, hbx, hgr⟩; refine ⟨_, rfl, ?_⟩; have HB6 := Aside0.mk (pw_below_grown HB5.out (some gr) (below_size HB5.out) hgr (fun k_ e_ => by cases e_; exact GR.out)); have B46 := Aside0.mk (blk_grown B45.out hgr (fun e_ => blk_ne B45.out BR.out (by decide) (Option.some.inj e_))); have BR6 := Aside0.mk hbx; clear hbx hgr HB5 B45 BR)
  | ((with_reducible refine gate_dst (N := 8) rfl ?_); refine box_event ?hg (N := 8) ?hd (cs := #[.int .i64 0, .int .i64 0, .bool false, .int .i64 0, .int .i64 0, .int .i64 0, .int .i64 0, .int .i64 0, .int .i64 0, .int .i64 0, .int .i64 0, .int .i64 0]) (t := 45) ?hr ?_; (case hd => rfl); (case hg => rfl); (case hr => first | (go_simp; done) | (go_simp; rfl)); intro g8 hg w7 hbox hb; have ST0 := Aside0.mk (OpSt.mk (blk_below B46.out hb) hbox (blk_below BR6.out hb) (below_step HB6.out hb) G4.out (by rw [hg]; exact below_size HB6.out) GR.out (by rw [hg]; exact Nat.ne_of_lt (blk_lt B46.out))); clear hb hbox hg; obtain ⟨⟨u0, u1, u2, u3, u4, u5, u6, u7, u8, u9, u10, u11⟩, uf0, uf1, uf2, uf3, uf4, uf5, uf6, uf7, uf8, uf9, uf10, uf11⟩ := cells12 ST0.out.b8))
 have STn := Aside0.mk ((OpSt.put12 ST0.out (.int .i64 4) (.int .i64 0) (.bool false) (.int .i64 0) (.int .i64 0) (.int .i64 0) (.int .i64 0) (.int .i64 0) (.int .i64 0) (.int .i64 0) (.int .i64 0) (.int .i64 0)))
 clear ST0
 have ST := STn
 clear STn
 generalize ((((((((((((w7.setCell ⟨g8, 0, none⟩ (.int .i64 4)).setCell ⟨g8, 1, none⟩ (.int .i64 0)).setCell ⟨g8, 2, none⟩ (.bool false)).setCell ⟨g8, 3, none⟩ (.int .i64 0)).setCell ⟨g8, 4, none⟩ (.int .i64 0)).setCell ⟨g8, 5, none⟩ (.int .i64 0)).setCell ⟨g8, 6, none⟩ (.int .i64 0)).setCell ⟨g8, 7, none⟩ (.int .i64 0)).setCell ⟨g8, 8, none⟩ (.int .i64 0)).setCell ⟨g8, 9, none⟩ (.int .i64 0)).setCell ⟨g8, 10, none⟩ (.int .i64 0)).setCell ⟨g8, 11, none⟩ (.int .i64 0)) = wq1 at ST ⊢
 clear u0 uf0 u1 uf1 u2 uf2 u3 uf3 u4 uf4 u5 uf5 u6 uf6 u7 uf7 u8 uf8 u9 uf9 u10 uf10 u11 uf11
 obtain ⟨⟨va0, va1, va2⟩, vaf0, vaf1, vaf2⟩ := cells3 ST.out.br
 obtain ⟨⟨ya0, ya1, ya2, ya3, ya4, ya5, ya6, ya7, ya8, ya9, ya10, ya11⟩, yaf0, yaf1, yaf2, yaf3, yaf4, yaf5, yaf6, yaf7, yaf8, yaf9, yaf10, yaf11⟩ := cells12 ST.out.b8
 go_upto_region 6 with (((with_reducible refine gate_dst (N := 35) rfl ?_); refine goesA (some 35) Try.func42 #[.pointer (some ⟨gr, 0, none⟩), .int .i64 1] ?_; (with_reducible refine (or_number gr A0 c0 l0 _ _ 1 _ _ _ _ HG2.out HY.out HL.out (Kd.C_below HR0.out ST.out.bl) HC0.out ST.out.br).mono ?_); rintro x_ w35 ⟨rfl, hbx, hgr⟩; refine ⟨_, rfl, ?_⟩; have STn := Aside0.mk (ST.out.step hbx hgr); clear ST hbx hgr; have ST := STn; clear STn; obtain ⟨⟨x0, x1, x2, x3, x4, x5, x6, x7, x8, x9, x10, x11⟩, xf0, xf1, xf2, xf3, xf4, xf5, xf6, xf7, xf8, xf9, xf10, xf11⟩ := cells12 ST.out.b8))
 clear va0 vaf0 va1 vaf1 va2 vaf2 ya0 yaf0 ya1 yaf1 ya2 yaf2 ya3 yaf3 ya4 yaf4 ya5 yaf5 ya6 yaf6 ya7 yaf7 ya8 yaf8 ya9 yaf9 ya10 yaf10 ya11 yaf11
 clear x0 xf0 x1 xf1 x2 xf2 x3 xf3 x4 xf4 x5 xf5 x6 xf6 x7 xf7 x8 xf8 x9 xf9 x10 xf10 x11 xf11
 have STn := Aside0.mk ((OpSt.put ST.out 1 (.int .i64 d) (cs2 := #[.int .i64 4, .int .i64 d, .bool false, .int .i64 0, .int .i64 0, .int .i64 0, .int .i64 0, .int .i64 0, .int .i64 0, .int .i64 0, .int .i64 0, .int .i64 0]) rfl))
 clear ST
 have ST := STn
 clear STn
 generalize (w35.setCell ⟨g8, 1, none⟩ (.int .i64 d)) = wq2 at ST ⊢
 obtain ⟨⟨yc0, yc1, yc2, yc3, yc4, yc5, yc6, yc7, yc8, yc9, yc10, yc11⟩, ycf0, ycf1, ycf2, ycf3, ycf4, ycf5, ycf6, ycf7, ycf8, ycf9, ycf10, ycf11⟩ := cells12 ST.out.b8
 go_upto_region 15 with (((with_reducible refine gate_dst (N := 61) rfl ?_); refine goesA (some 61) Try.func43 #[.pointer (some ⟨gr, 0, none⟩)] ?_; (with_reducible refine (or_height gr A0 c0 l0 _ _ _ _ _ _ _ _ _ _ _ HG3.out HY.out HL.out (Kd.C_below HR0.out ST.out.bl) HC0.out ST.out.br).mono ?_); rintro x_ w61 ⟨rfl, hbx, hgr⟩; refine ⟨_, rfl, ?_⟩; have STn := Aside0.mk (ST.out.step hbx hgr); clear ST hbx hgr; have ST := STn; clear STn; obtain ⟨⟨x0, x1, x2, x3, x4, x5, x6, x7, x8, x9, x10, x11⟩, xf0, xf1, xf2, xf3, xf4, xf5, xf6, xf7, xf8, xf9, xf10, xf11⟩ := cells12 ST.out.b8))
 clear x0 xf0 x1 xf1 x2 xf2 x3 xf3 x4 xf4 x5 xf5 x6 xf6 x7 xf7 x8 xf8 x9 xf9 x10 xf10 x11 xf11
 clear yc0 ycf0 yc1 ycf1 yc2 ycf2 yc3 ycf3 yc4 ycf4 yc5 ycf5 yc6 ycf6 yc7 ycf7 yc8 ycf8 yc9 ycf9 yc10 ycf10 yc11 ycf11
 have STn := Aside0.mk ((OpSt.put (OpSt.put (OpSt.put (OpSt.put (OpSt.put (OpSt.put ST.out 2 (.bool n) (cs2 := #[.int .i64 4, .int .i64 d, .bool n, .int .i64 0, .int .i64 0, .int .i64 0, .int .i64 0, .int .i64 0, .int .i64 0, .int .i64 0, .int .i64 0, .int .i64 0]) rfl) 3 (.int .i64 a) (cs2 := #[.int .i64 4, .int .i64 d, .bool n, .int .i64 a, .int .i64 0, .int .i64 0, .int .i64 0, .int .i64 0, .int .i64 0, .int .i64 0, .int .i64 0, .int .i64 0]) rfl) 4 (.int .i64 b) (cs2 := #[.int .i64 4, .int .i64 d, .bool n, .int .i64 a, .int .i64 b, .int .i64 0, .int .i64 0, .int .i64 0, .int .i64 0, .int .i64 0, .int .i64 0, .int .i64 0]) rfl) 5 (.int .i64 c_) (cs2 := #[.int .i64 4, .int .i64 d, .bool n, .int .i64 a, .int .i64 b, .int .i64 c_, .int .i64 0, .int .i64 0, .int .i64 0, .int .i64 0, .int .i64 0, .int .i64 0]) rfl) 6 (.int .i64 dd) (cs2 := #[.int .i64 4, .int .i64 d, .bool n, .int .i64 a, .int .i64 b, .int .i64 c_, .int .i64 dd, .int .i64 0, .int .i64 0, .int .i64 0, .int .i64 0, .int .i64 0]) rfl) 7 (.int .i64 i) (cs2 := #[.int .i64 4, .int .i64 d, .bool n, .int .i64 a, .int .i64 b, .int .i64 c_, .int .i64 dd, .int .i64 i, .int .i64 0, .int .i64 0, .int .i64 0, .int .i64 0]) rfl))
 clear ST
 have ST := STn
 clear STn
 generalize ((((((w61.setCell ⟨g8, 2, none⟩ (.bool n)).setCell ⟨g8, 3, none⟩ (.int .i64 a)).setCell ⟨g8, 4, none⟩ (.int .i64 b)).setCell ⟨g8, 5, none⟩ (.int .i64 c_)).setCell ⟨g8, 6, none⟩ (.int .i64 dd)).setCell ⟨g8, 7, none⟩ (.int .i64 i)) = wq3 at ST ⊢
 obtain ⟨⟨yd0, yd1, yd2, yd3, yd4, yd5, yd6, yd7, yd8, yd9, yd10, yd11⟩, ydf0, ydf1, ydf2, ydf3, ydf4, ydf5, ydf6, ydf7, ydf8, ydf9, ydf10, ydf11⟩ := cells12 ST.out.b8
 go_upto_region 16 with (((with_reducible refine gate_dst (N := 64) rfl ?_); refine goesA (some 64) Try.func42 #[.pointer (some ⟨gr, 0, none⟩), .int .i64 2] ?_; (with_reducible refine (or_number gr A0 c0 l0 _ _ 2 _ _ _ _ HG4.out HY.out HL.out (Kd.C_below HR0.out ST.out.bl) HC0.out ST.out.br).mono ?_); rintro x_ w64 ⟨rfl, hbx, hgr⟩; refine ⟨_, rfl, ?_⟩; have STn := Aside0.mk (ST.out.step hbx hgr); clear ST hbx hgr; have ST := STn; clear STn; obtain ⟨⟨x0, x1, x2, x3, x4, x5, x6, x7, x8, x9, x10, x11⟩, xf0, xf1, xf2, xf3, xf4, xf5, xf6, xf7, xf8, xf9, xf10, xf11⟩ := cells12 ST.out.b8))
 clear x0 xf0 x1 xf1 x2 xf2 x3 xf3 x4 xf4 x5 xf5 x6 xf6 x7 xf7 x8 xf8 x9 xf9 x10 xf10 x11 xf11
 clear yd0 ydf0 yd1 ydf1 yd2 ydf2 yd3 ydf3 yd4 ydf4 yd5 ydf5 yd6 ydf6 yd7 ydf7 yd8 ydf8 yd9 ydf9 yd10 ydf10 yd11 ydf11
 have STn := Aside0.mk ((OpSt.put ST.out 11 (.int .i64 m) (cs2 := #[.int .i64 4, .int .i64 d, .bool n, .int .i64 a, .int .i64 b, .int .i64 c_, .int .i64 dd, .int .i64 i, .int .i64 0, .int .i64 0, .int .i64 0, .int .i64 m]) rfl))
 clear ST
 have ST := STn
 clear STn
 generalize (w64.setCell ⟨g8, 11, none⟩ (.int .i64 m)) = wq4 at ST ⊢
 obtain ⟨⟨vf0, vf1, vf2⟩, vff0, vff1, vff2⟩ := cells3 ST.out.br
 obtain ⟨⟨yf0, yf1, yf2, yf3, yf4, yf5, yf6, yf7, yf8, yf9, yf10, yf11⟩, yff0, yff1, yff2, yff3, yff4, yff5, yff6, yff7, yff8, yff9, yff10, yff11⟩ := cells12 ST.out.b8
 go_upto_region 19 with ((go_at_call 34; (with_reducible refine (object_Check.calls K 4 d n a b c_ dd i 0 0 0 m 1 _ HK.out).mono ?_); rintro x_ ws ⟨rfl, hb⟩; have STn := Aside0.mk (OpSt.below ST.out hb); clear ST hb; have ST := STn; clear STn; obtain ⟨⟨s0, s1, s2⟩, sf0, sf1, sf2⟩ := cells3 ST.out.br))
 clear vf0 vff0 vf1 vff1 vf2 vff2 yf0 yff0 yf1 yff1 yf2 yff2 yf3 yff3 yf4 yff4 yf5 yff5 yf6 yff6 yf7 yff7 yf8 yff8 yf9 yff9 yf10 yff10 yf11 yff11
 clear s0 sf0 s1 sf1 s2 sf2
 have STn := Aside0.mk ((OpSt.err ST.out 4))
 clear ST
 have ST := STn
 clear STn
 generalize (ws.setCell ⟨gr, 2, none⟩ (.int .i64 4)) = wq5 at ST ⊢
 have STd := Aside0.mk (OpSt.drew ST.out)
 clear ST
 have ST := STd
 clear STd
 refine start_ (n := 8) (S := fun w' => w'.cell? ⟨gr, 2, none⟩ = some (.int .i64 4)) (ds := []) #[false, false, false, false, false, false, false, false] (by kernel_rfl) rfl rfl ((blk_cell ST.out.br 2).trans rfl) (fun hHeld => ?_); refine with_tabW object_Parse.tab19 object_Parse.bits19 (fun HT_ HW_ => ?_)
 generalize wq5.drew = wd at ST hHeld ⊢
 obtain ⟨⟨o0, o1, o2, o3, o4, o5, o6, o7, o8, o9, o10, o11⟩, of0, of1, of2, of3, of4, of5, of6, of7, of8, of9, of10, of11⟩ := cells12 ST.out.b4
 have n94 : g8 ≠ g4 := ST.out.d48.symm
 have nr4 : gr ≠ g4 := (blk_ne ST.out.br ST.out.b4 (by decide))
 refine pureA (i := 0) (N := some 84) HT_ ?_
 refine pureA (i := 1) (N := some 85) HT_ ?_
 refine pureA (i := 2) (N := some 86) HT_ ?_
 refine pureA (i := 3) (N := some 87) HT_ ?_
 refine takeA (i := 4) (N := some 88) HT_ HW_ hHeld ?_
 refine oneA (i := 5) (N := none) HT_ (fun K hK => ?_)
 refine skip_ (w1 := ?_) (by rfl) rfl ?_ ?_
 rotate_left
 ·go_simp
  rfl
 refine hK.out _ _ ?_ (fun hHeld2 => ?_)
 ·(repeat (first | refine (cell_far n94 _).trans ?_ | refine (cell_far nr4 _).trans ?_)); exact hHeld
 clear hHeld
 have hHeld := hHeld2
 clear hHeld2
 clear hK K
 refine pureA (i := 6) (N := some 5) HT_ ?_
 refine pureA (i := 7) (N := some 6) HT_ ?_
 refine done_ (done_of HT_.out (by kernel_rfl)) ?_
 clear HT_ HW_
 try go_wp2
 refine bodyPost_ret (results_ctt rfl _ _ g4 45 #[.int .i64 0, .int .i64 0, .bool false, .int .i64 0, .int .i64 0, .int .i64 0, .int .i64 0, .int .i64 0, .int .i64 0, .int .i64 0, .int .i64 0, .int .i64 0] (0, 0) _ rfl (blk_put12 ST.out.b4 (.int .i64 0) (.int .i64 0) (.bool false) (.int .i64 0) (.int .i64 0) (.int .i64 0) (.int .i64 0) (.int .i64 0) (.int .i64 0) (.int .i64 0) (.int .i64 0) (.int .i64 0)) Try.underlying45 rfl (by kernel_rfl)) rfl ?_
 exact ⟨rfl, (below_set12 ST.out.bl ST.out.n4)⟩
theorem op_o_yes (A0 : Option Addr) (c0 : Nat) (l0 : List Int) (a1 : Int) (w : World) (n : Bool) (k p1 e1 d p2 e2 p3 e3 a b c_ dd i p4 e4 m : Int) (HL : l0.length ≤ 1000000000000) (HY : Bytes l0) (HR0 : Kd.C (Kd.int .u8) w A0 l0.length l0) (HC0 : l0.length ≤ c0) (HG1 : rdN l0 1 a1 0 = (k, p1, e1)) (he : e1 = 0) (hk : k = 4) (HG2 : rdN l0 1 p1 0 = (d, p2, e2)) (HG3 : rdH l0 p2 e2 = (n, a, b, c_, dd, i, p3, e3)) (HG4 : rdN l0 2 p3 e3 = (m, p4, e4)) (hf : e4 = 0) (hr : RO k d n a b c_ dd i 0 0 0 m) :
  Calls Try.prog 33 #[.slice A0 l0.length c0, .int .i64 a1] w fun e w' => e = .returned (.tuple #[.agg #[.int .i64 k, .int .i64 d, .bool n, .int .i64 a, .int .i64 b, .int .i64 c_, .int .i64 dd, .int .i64 i, .int .i64 0, .int .i64 0, .int .i64 0, .int .i64 m], .int .i64 p4, .int .i64 0]) ∧ Below w.heap.size w w' := by
 have hu27 := Try.underlying45
 have hu25 := Try.underlying43
 have hu23 := Try.underlying41
 have hu51 := Try.underlying77
 replace HL := Aside0.mk HL
 replace HY := Aside0.mk HY
 replace HR0 := Aside0.mk HR0
 replace HC0 := Aside0.mk HC0
 replace HG1 := Aside0.mk HG1
 replace HG2 := Aside0.mk HG2
 replace HG3 := Aside0.mk HG3
 replace HG4 := Aside0.mk HG4
 subst he
 subst hk
 subst hf
 obtain ⟨K, hK⟩ := (oc_eq 4 d n a b c_ dd i 0 0 0 m).rounds
 rw [if_pos hr] at hK
 have HK := Aside0.mk hK
 clear hK hr
 go_enter Try.func33, Try.ntmps33
 go_upto_region 3 with (first
  | ((with_reducible refine gate_dst (N := 4) rfl ?_); refine box_event ?hg (N := 4) ?hd (cs := #[.int .i64 0, .int .i64 0, .bool false, .int .i64 0, .int .i64 0, .int .i64 0, .int .i64 0, .int .i64 0, .int .i64 0, .int .i64 0, .int .i64 0, .int .i64 0]) (t := 45) ?hr ?_; (case hd => rfl); (case hg => rfl); (case hr => first | (go_simp; done) | (go_simp; rfl)); intro g4 hg w4 hbox hb; have HB4 := Aside0.mk hb; have G4 := Aside0.mk (Nat.le_of_eq hg.symm); have B4 := Aside0.mk hbox; clear hb hbox hg)
  | ((with_reducible refine gate_dst (N := 12) rfl ?_); refine box_event ?hg (N := 12) ?hd (cs := RdC A0 l0.length c0 a1 0) (t := 77) ?hr ?_; (case hd => rfl); (case hg => rfl); (case hr => first | (go_simp; done) | (go_simp; rfl)); intro gr hg w5 hbox hb; have HB5 := Aside0.mk (below_step HB4.out hb); have GR := Aside0.mk (show w.heap.size ≤ gr by rw [hg]; exact below_size HB4.out); have B45 := Aside0.mk (blk_below B4.out hb); have BR := Aside0.mk hbox; clear hb hbox hg HB4 B4)
  | ((with_reducible refine gate_dst (N := 14) rfl ?_); refine goesA (some 14) Try.func42 #[.pointer (some ⟨gr, 0, none⟩), .int .i64 1] ?_; (with_reducible refine (or_number gr A0 c0 l0 a1 0 1 _ _ _ _ HG1.out HY.out HL.out (Kd.C_below HR0.out HB5.out) HC0.out BR.out).mono ?_); rintro x_ w14 ⟨rfl, hbx, hgr⟩; refine ⟨_, rfl, ?_⟩; have HB6 := Aside0.mk (pw_below_grown HB5.out (some gr) (below_size HB5.out) hgr (fun k_ e_ => by cases e_; exact GR.out)); have B46 := Aside0.mk (blk_grown B45.out hgr (fun e_ => blk_ne B45.out BR.out (by decide) (Option.some.inj e_))); have BR6 := Aside0.mk hbx; clear hbx hgr HB5 B45 BR)
  | ((with_reducible refine gate_dst (N := 8) rfl ?_); refine box_event ?hg (N := 8) ?hd (cs := #[.int .i64 0, .int .i64 0, .bool false, .int .i64 0, .int .i64 0, .int .i64 0, .int .i64 0, .int .i64 0, .int .i64 0, .int .i64 0, .int .i64 0, .int .i64 0]) (t := 45) ?hr ?_; (case hd => rfl); (case hg => rfl); (case hr => first | (go_simp; done) | (go_simp; rfl)); intro g8 hg w7 hbox hb; have ST0 := Aside0.mk (OpSt.mk (blk_below B46.out hb) hbox (blk_below BR6.out hb) (below_step HB6.out hb) G4.out (by rw [hg]; exact below_size HB6.out) GR.out (by rw [hg]; exact Nat.ne_of_lt (blk_lt B46.out))); clear hb hbox hg; obtain ⟨⟨u0, u1, u2, u3, u4, u5, u6, u7, u8, u9, u10, u11⟩, uf0, uf1, uf2, uf3, uf4, uf5, uf6, uf7, uf8, uf9, uf10, uf11⟩ := cells12 ST0.out.b8))
 have STn := Aside0.mk ((OpSt.put12 ST0.out (.int .i64 4) (.int .i64 0) (.bool false) (.int .i64 0) (.int .i64 0) (.int .i64 0) (.int .i64 0) (.int .i64 0) (.int .i64 0) (.int .i64 0) (.int .i64 0) (.int .i64 0)))
 clear ST0
 have ST := STn
 clear STn
 generalize ((((((((((((w7.setCell ⟨g8, 0, none⟩ (.int .i64 4)).setCell ⟨g8, 1, none⟩ (.int .i64 0)).setCell ⟨g8, 2, none⟩ (.bool false)).setCell ⟨g8, 3, none⟩ (.int .i64 0)).setCell ⟨g8, 4, none⟩ (.int .i64 0)).setCell ⟨g8, 5, none⟩ (.int .i64 0)).setCell ⟨g8, 6, none⟩ (.int .i64 0)).setCell ⟨g8, 7, none⟩ (.int .i64 0)).setCell ⟨g8, 8, none⟩ (.int .i64 0)).setCell ⟨g8, 9, none⟩ (.int .i64 0)).setCell ⟨g8, 10, none⟩ (.int .i64 0)).setCell ⟨g8, 11, none⟩ (.int .i64 0)) = wq1 at ST ⊢
 clear u0 uf0 u1 uf1 u2 uf2 u3 uf3 u4 uf4 u5 uf5 u6 uf6 u7 uf7 u8 uf8 u9 uf9 u10 uf10 u11 uf11
 obtain ⟨⟨va0, va1, va2⟩, vaf0, vaf1, vaf2⟩ := cells3 ST.out.br
 obtain ⟨⟨ya0, ya1, ya2, ya3, ya4, ya5, ya6, ya7, ya8, ya9, ya10, ya11⟩, yaf0, yaf1, yaf2, yaf3, yaf4, yaf5, yaf6, yaf7, yaf8, yaf9, yaf10, yaf11⟩ := cells12 ST.out.b8
 go_upto_region 6 with (((with_reducible refine gate_dst (N := 35) rfl ?_); refine goesA (some 35) Try.func42 #[.pointer (some ⟨gr, 0, none⟩), .int .i64 1] ?_; (with_reducible refine (or_number gr A0 c0 l0 _ _ 1 _ _ _ _ HG2.out HY.out HL.out (Kd.C_below HR0.out ST.out.bl) HC0.out ST.out.br).mono ?_); rintro x_ w35 ⟨rfl, hbx, hgr⟩; refine ⟨_, rfl, ?_⟩; have STn := Aside0.mk (ST.out.step hbx hgr); clear ST hbx hgr; have ST := STn; clear STn; obtain ⟨⟨x0, x1, x2, x3, x4, x5, x6, x7, x8, x9, x10, x11⟩, xf0, xf1, xf2, xf3, xf4, xf5, xf6, xf7, xf8, xf9, xf10, xf11⟩ := cells12 ST.out.b8))
 clear va0 vaf0 va1 vaf1 va2 vaf2 ya0 yaf0 ya1 yaf1 ya2 yaf2 ya3 yaf3 ya4 yaf4 ya5 yaf5 ya6 yaf6 ya7 yaf7 ya8 yaf8 ya9 yaf9 ya10 yaf10 ya11 yaf11
 clear x0 xf0 x1 xf1 x2 xf2 x3 xf3 x4 xf4 x5 xf5 x6 xf6 x7 xf7 x8 xf8 x9 xf9 x10 xf10 x11 xf11
 have STn := Aside0.mk ((OpSt.put ST.out 1 (.int .i64 d) (cs2 := #[.int .i64 4, .int .i64 d, .bool false, .int .i64 0, .int .i64 0, .int .i64 0, .int .i64 0, .int .i64 0, .int .i64 0, .int .i64 0, .int .i64 0, .int .i64 0]) rfl))
 clear ST
 have ST := STn
 clear STn
 generalize (w35.setCell ⟨g8, 1, none⟩ (.int .i64 d)) = wq2 at ST ⊢
 obtain ⟨⟨yc0, yc1, yc2, yc3, yc4, yc5, yc6, yc7, yc8, yc9, yc10, yc11⟩, ycf0, ycf1, ycf2, ycf3, ycf4, ycf5, ycf6, ycf7, ycf8, ycf9, ycf10, ycf11⟩ := cells12 ST.out.b8
 go_upto_region 15 with (((with_reducible refine gate_dst (N := 61) rfl ?_); refine goesA (some 61) Try.func43 #[.pointer (some ⟨gr, 0, none⟩)] ?_; (with_reducible refine (or_height gr A0 c0 l0 _ _ _ _ _ _ _ _ _ _ _ HG3.out HY.out HL.out (Kd.C_below HR0.out ST.out.bl) HC0.out ST.out.br).mono ?_); rintro x_ w61 ⟨rfl, hbx, hgr⟩; refine ⟨_, rfl, ?_⟩; have STn := Aside0.mk (ST.out.step hbx hgr); clear ST hbx hgr; have ST := STn; clear STn; obtain ⟨⟨x0, x1, x2, x3, x4, x5, x6, x7, x8, x9, x10, x11⟩, xf0, xf1, xf2, xf3, xf4, xf5, xf6, xf7, xf8, xf9, xf10, xf11⟩ := cells12 ST.out.b8))
 clear x0 xf0 x1 xf1 x2 xf2 x3 xf3 x4 xf4 x5 xf5 x6 xf6 x7 xf7 x8 xf8 x9 xf9 x10 xf10 x11 xf11
 clear yc0 ycf0 yc1 ycf1 yc2 ycf2 yc3 ycf3 yc4 ycf4 yc5 ycf5 yc6 ycf6 yc7 ycf7 yc8 ycf8 yc9 ycf9 yc10 ycf10 yc11 ycf11
 have STn := Aside0.mk ((OpSt.put (OpSt.put (OpSt.put (OpSt.put (OpSt.put (OpSt.put ST.out 2 (.bool n) (cs2 := #[.int .i64 4, .int .i64 d, .bool n, .int .i64 0, .int .i64 0, .int .i64 0, .int .i64 0, .int .i64 0, .int .i64 0, .int .i64 0, .int .i64 0, .int .i64 0]) rfl) 3 (.int .i64 a) (cs2 := #[.int .i64 4, .int .i64 d, .bool n, .int .i64 a, .int .i64 0, .int .i64 0, .int .i64 0, .int .i64 0, .int .i64 0, .int .i64 0, .int .i64 0, .int .i64 0]) rfl) 4 (.int .i64 b) (cs2 := #[.int .i64 4, .int .i64 d, .bool n, .int .i64 a, .int .i64 b, .int .i64 0, .int .i64 0, .int .i64 0, .int .i64 0, .int .i64 0, .int .i64 0, .int .i64 0]) rfl) 5 (.int .i64 c_) (cs2 := #[.int .i64 4, .int .i64 d, .bool n, .int .i64 a, .int .i64 b, .int .i64 c_, .int .i64 0, .int .i64 0, .int .i64 0, .int .i64 0, .int .i64 0, .int .i64 0]) rfl) 6 (.int .i64 dd) (cs2 := #[.int .i64 4, .int .i64 d, .bool n, .int .i64 a, .int .i64 b, .int .i64 c_, .int .i64 dd, .int .i64 0, .int .i64 0, .int .i64 0, .int .i64 0, .int .i64 0]) rfl) 7 (.int .i64 i) (cs2 := #[.int .i64 4, .int .i64 d, .bool n, .int .i64 a, .int .i64 b, .int .i64 c_, .int .i64 dd, .int .i64 i, .int .i64 0, .int .i64 0, .int .i64 0, .int .i64 0]) rfl))
 clear ST
 have ST := STn
 clear STn
 generalize ((((((w61.setCell ⟨g8, 2, none⟩ (.bool n)).setCell ⟨g8, 3, none⟩ (.int .i64 a)).setCell ⟨g8, 4, none⟩ (.int .i64 b)).setCell ⟨g8, 5, none⟩ (.int .i64 c_)).setCell ⟨g8, 6, none⟩ (.int .i64 dd)).setCell ⟨g8, 7, none⟩ (.int .i64 i)) = wq3 at ST ⊢
 obtain ⟨⟨yd0, yd1, yd2, yd3, yd4, yd5, yd6, yd7, yd8, yd9, yd10, yd11⟩, ydf0, ydf1, ydf2, ydf3, ydf4, ydf5, ydf6, ydf7, ydf8, ydf9, ydf10, ydf11⟩ := cells12 ST.out.b8
 go_upto_region 16 with (((with_reducible refine gate_dst (N := 64) rfl ?_); refine goesA (some 64) Try.func42 #[.pointer (some ⟨gr, 0, none⟩), .int .i64 2] ?_; (with_reducible refine (or_number gr A0 c0 l0 _ _ 2 _ _ _ _ HG4.out HY.out HL.out (Kd.C_below HR0.out ST.out.bl) HC0.out ST.out.br).mono ?_); rintro x_ w64 ⟨rfl, hbx, hgr⟩; refine ⟨_, rfl, ?_⟩; have STn := Aside0.mk (ST.out.step hbx hgr); clear ST hbx hgr; have ST := STn; clear STn; obtain ⟨⟨x0, x1, x2, x3, x4, x5, x6, x7, x8, x9, x10, x11⟩, xf0, xf1, xf2, xf3, xf4, xf5, xf6, xf7, xf8, xf9, xf10, xf11⟩ := cells12 ST.out.b8))
 clear x0 xf0 x1 xf1 x2 xf2 x3 xf3 x4 xf4 x5 xf5 x6 xf6 x7 xf7 x8 xf8 x9 xf9 x10 xf10 x11 xf11
 clear yd0 ydf0 yd1 ydf1 yd2 ydf2 yd3 ydf3 yd4 ydf4 yd5 ydf5 yd6 ydf6 yd7 ydf7 yd8 ydf8 yd9 ydf9 yd10 ydf10 yd11 ydf11
 have STn := Aside0.mk ((OpSt.put ST.out 11 (.int .i64 m) (cs2 := #[.int .i64 4, .int .i64 d, .bool n, .int .i64 a, .int .i64 b, .int .i64 c_, .int .i64 dd, .int .i64 i, .int .i64 0, .int .i64 0, .int .i64 0, .int .i64 m]) rfl))
 clear ST
 have ST := STn
 clear STn
 generalize (w64.setCell ⟨g8, 11, none⟩ (.int .i64 m)) = wq4 at ST ⊢
 obtain ⟨⟨vf0, vf1, vf2⟩, vff0, vff1, vff2⟩ := cells3 ST.out.br
 obtain ⟨⟨yf0, yf1, yf2, yf3, yf4, yf5, yf6, yf7, yf8, yf9, yf10, yf11⟩, yff0, yff1, yff2, yff3, yff4, yff5, yff6, yff7, yff8, yff9, yff10, yff11⟩ := cells12 ST.out.b8
 go_upto_region 20 with ((go_at_call 34; (with_reducible refine (object_Check.calls K 4 d n a b c_ dd i 0 0 0 m 0 _ HK.out).mono ?_); rintro x_ ws ⟨rfl, hb⟩; have STn := Aside0.mk (OpSt.below ST.out hb); clear ST hb; have ST := STn; clear STn; obtain ⟨⟨s0, s1, s2⟩, sf0, sf1, sf2⟩ := cells3 ST.out.br))
 clear vf0 vff0 vf1 vff1 vf2 vff2 yf0 yff0 yf1 yff1 yf2 yff2 yf3 yff3 yf4 yff4 yf5 yff5 yf6 yff6 yf7 yff7 yf8 yff8 yf9 yff9 yf10 yff10 yf11 yff11
 clear s0 sf0 s1 sf1 s2 sf2
 have STd := Aside0.mk (OpSt.drew ST.out)
 clear ST
 have ST := STd
 clear STd
 refine start_ (n := 8) (S := fun w' => w'.cell? ⟨g8, 0, none⟩ = some (.int .i64 4) ∧ w'.cell? ⟨g8, 1, none⟩ = some (.int .i64 d) ∧ w'.cell? ⟨g8, 2, none⟩ = some (.bool n) ∧ w'.cell? ⟨g8, 3, none⟩ = some (.int .i64 a) ∧ w'.cell? ⟨g8, 4, none⟩ = some (.int .i64 b) ∧ w'.cell? ⟨g8, 5, none⟩ = some (.int .i64 c_) ∧ w'.cell? ⟨g8, 6, none⟩ = some (.int .i64 dd) ∧ w'.cell? ⟨g8, 7, none⟩ = some (.int .i64 i) ∧ w'.cell? ⟨g8, 8, none⟩ = some (.int .i64 0) ∧ w'.cell? ⟨g8, 9, none⟩ = some (.int .i64 0) ∧ w'.cell? ⟨g8, 10, none⟩ = some (.int .i64 0) ∧ w'.cell? ⟨g8, 11, none⟩ = some (.int .i64 m) ∧ w'.cell? ⟨gr, 1, none⟩ = some (.int .i64 p4)) (ds := []) #[false, false, false, false, false, false, false, false] (by kernel_rfl) rfl rfl ⟨(blk_cell ST.out.b8 0).trans rfl, (blk_cell ST.out.b8 1).trans rfl, (blk_cell ST.out.b8 2).trans rfl, (blk_cell ST.out.b8 3).trans rfl, (blk_cell ST.out.b8 4).trans rfl, (blk_cell ST.out.b8 5).trans rfl, (blk_cell ST.out.b8 6).trans rfl, (blk_cell ST.out.b8 7).trans rfl, (blk_cell ST.out.b8 8).trans rfl, (blk_cell ST.out.b8 9).trans rfl, (blk_cell ST.out.b8 10).trans rfl, (blk_cell ST.out.b8 11).trans rfl, (blk_cell ST.out.br 1).trans rfl⟩ (fun hHeld => ?_); refine with_tabW object_Parse.tab20 object_Parse.bits20 (fun HT_ HW_ => ?_)
 generalize ws.drew = wd at ST hHeld ⊢
 obtain ⟨⟨o0, o1, o2, o3, o4, o5, o6, o7, o8, o9, o10, o11⟩, of0, of1, of2, of3, of4, of5, of6, of7, of8, of9, of10, of11⟩ := cells12 ST.out.b4
 have n94 : g8 ≠ g4 := ST.out.d48.symm
 have nr4 : gr ≠ g4 := (blk_ne ST.out.br ST.out.b4 (by decide))
 refine pureA (i := 1) (N := some 90) HT_ ?_
 refine pureA (i := 2) (N := some 91) HT_ ?_
 refine pureA (i := 3) (N := some 92) HT_ ?_
 refine takeA (i := 0) (N := some 89) HT_ HW_ hHeld ?_
 refine takeA (i := 4) (N := some 93) HT_ HW_ hHeld ?_
 refine oneA (i := 5) (N := none) HT_ (fun K hK => ?_)
 refine skip_ (w1 := ?_) (by rfl) rfl ?_ ?_
 rotate_left
 ·go_simp
  rfl
 refine hK.out _ _ ?_ (fun hHeld2 => ?_)
 ·refine ⟨?_, ?_, ?_, ?_, ?_, ?_, ?_, ?_, ?_, ?_, ?_, ?_, ?_⟩
  ·(repeat (first | refine (cell_far n94 _).trans ?_ | refine (cell_far nr4 _).trans ?_)); exact hHeld.1
  ·(repeat (first | refine (cell_far n94 _).trans ?_ | refine (cell_far nr4 _).trans ?_)); exact hHeld.2.1
  ·(repeat (first | refine (cell_far n94 _).trans ?_ | refine (cell_far nr4 _).trans ?_)); exact hHeld.2.2.1
  ·(repeat (first | refine (cell_far n94 _).trans ?_ | refine (cell_far nr4 _).trans ?_)); exact hHeld.2.2.2.1
  ·(repeat (first | refine (cell_far n94 _).trans ?_ | refine (cell_far nr4 _).trans ?_)); exact hHeld.2.2.2.2.1
  ·(repeat (first | refine (cell_far n94 _).trans ?_ | refine (cell_far nr4 _).trans ?_)); exact hHeld.2.2.2.2.2.1
  ·(repeat (first | refine (cell_far n94 _).trans ?_ | refine (cell_far nr4 _).trans ?_)); exact hHeld.2.2.2.2.2.2.1
  ·(repeat (first | refine (cell_far n94 _).trans ?_ | refine (cell_far nr4 _).trans ?_)); exact hHeld.2.2.2.2.2.2.2.1
  ·(repeat (first | refine (cell_far n94 _).trans ?_ | refine (cell_far nr4 _).trans ?_)); exact hHeld.2.2.2.2.2.2.2.2.1
  ·(repeat (first | refine (cell_far n94 _).trans ?_ | refine (cell_far nr4 _).trans ?_)); exact hHeld.2.2.2.2.2.2.2.2.2.1
  ·(repeat (first | refine (cell_far n94 _).trans ?_ | refine (cell_far nr4 _).trans ?_)); exact hHeld.2.2.2.2.2.2.2.2.2.2.1
  ·(repeat (first | refine (cell_far n94 _).trans ?_ | refine (cell_far nr4 _).trans ?_)); exact hHeld.2.2.2.2.2.2.2.2.2.2.2.1
  ·(repeat (first | refine (cell_far n94 _).trans ?_ | refine (cell_far nr4 _).trans ?_)); exact hHeld.2.2.2.2.2.2.2.2.2.2.2.2
 clear hHeld
 have hHeld := hHeld2
 clear hHeld2
 clear hK K
 refine pureA (i := 6) (N := some 5) HT_ ?_
 refine pureA (i := 7) (N := some 6) HT_ ?_
 refine done_ (done_of HT_.out (by kernel_rfl)) ?_
 clear HT_ HW_
 try go_wp2
 refine bodyPost_ret (results_ctt rfl _ _ g4 45 #[.int .i64 4, .int .i64 d, .bool n, .int .i64 a, .int .i64 b, .int .i64 c_, .int .i64 dd, .int .i64 i, .int .i64 0, .int .i64 0, .int .i64 0, .int .i64 m] (0, 0) _ rfl (blk_put12 ST.out.b4 (.int .i64 4) (.int .i64 d) (.bool n) (.int .i64 a) (.int .i64 b) (.int .i64 c_) (.int .i64 dd) (.int .i64 i) (.int .i64 0) (.int .i64 0) (.int .i64 0) (.int .i64 m)) Try.underlying45 rfl (by kernel_rfl)) rfl ?_
 exact ⟨rfl, (below_set12 ST.out.bl ST.out.n4)⟩
theorem rdN_bad {l : List Int} {n a v p e : Int} (h : rdN l n a 0 = (v, p, e)) (he : ¬ e = 0) : v = 0 := by
 unfold rdN rd8 rd1 at h
 split at h
 ·exact rdStep_bad h he
 ·exact rdStep_bad h he
theorem rdN_stay {l : List Int} {n a e0 v p e : Int} (h0 : ¬ e0 = 0) (h : rdN l n a e0 = (v, p, e)) : e = e0 := by
 unfold rdN rd8 rd1 at h
 split at h
 ·exact rdStep_stay h0 h
 ·exact rdStep_stay h0 h
theorem object_Parse.calls (A0 : Option Addr) (c0 : Nat) (l0 : List Int) (a1 : Int) (r1 r2 : Int) (r3 : Bool) (r4 r5 r6 r7 r8 r9 r10 r11 r12 r13 r14 : Int) (w : World) (hr0 : Kd.C (Kd.int .u8) w A0 l0.length l0) (hc0 : l0.length ≤ c0) (h : object_Parse.f l0 a1 = some (r1, r2, r3, r4, r5, r6, r7, r8, r9, r10, r11, r12, r13, r14)) :
  Calls Try.prog 33 #[.slice A0 l0.length c0, .int .i64 a1] w fun e w' => e = .returned (.tuple #[.agg #[.int .i64 r1, .int .i64 r2, .bool r3, .int .i64 r4, .int .i64 r5, .int .i64 r6, .int .i64 r7, .int .i64 r8, .int .i64 r9, .int .i64 r10, .int .i64 r11, .int .i64 r12], .int .i64 r13, .int .i64 r14]) ∧ Below w.heap.size w w' := by
 obtain ⟨hL, hB, hP⟩ : l0.length ≤ 1000000000000 ∧ Bytes l0 ∧ opGo l0 a1 = (r1, r2, r3, r4, r5, r6, r7, r8, r9, r10, r11, r12, r13, r14) := by
  unfold object_Parse.f at h
  split at h
  ·rename_i hc
   exact ⟨hc.1, hc.2, Option.some.inj h⟩
  ·exact absurd h (by simp)
 clear h
 obtain ⟨k, p1, e1, hk1⟩ : ∃ k p1 e1, rdN l0 1 a1 0 = (k, p1, e1) := ⟨_, _, _, rfl⟩
 unfold opGo at hP
 simp only [hk1] at hP
 by_cases he : e1 = 0
 ·by_cases hr : k < 1 ∨ 4 < k
  ·have hz : opErr k e1 = 4 := by unfold opErr; rw [if_pos he, if_pos hr]
   rw [hz] at hP
   obtain ⟨d, p2, e2, hd⟩ : ∃ d p2 e2, rdN l0 1 p1 4 = (d, p2, e2) := ⟨_, _, _, rfl⟩
   simp only [hd] at hP
   have h2 : e2 = 4 := rdN_stay (by decide) hd
   have hf : ¬ e2 = 0 := by omega
   unfold opSw at hP
   rw [if_neg (by omega), if_neg (by omega), if_neg (by omega)] at hP
   unfold opFin at hP
   rw [if_neg hf] at hP
   simp only [opNo, Prod.mk.injEq] at hP
   obtain ⟨rfl, rfl, rfl, rfl, rfl, rfl, rfl, rfl, rfl, rfl, rfl, rfl, rfl, rfl⟩ := hP
   rcases hr with hr | hr
   ·exact op_lo A0 c0 l0 a1 w k p1 e1 d p2 _ hL hB hr0 hc0 hk1 he hr hd hf
   ·exact op_hi A0 c0 l0 a1 w k p1 e1 d p2 _ hL hB hr0 hc0 hk1 he hr hd hf
  ·have hz : opErr k e1 = 0 := by unfold opErr; rw [if_pos he, if_neg hr]
   rw [hz] at hP
   obtain ⟨d, p2, e2, hd⟩ : ∃ d p2 e2, rdN l0 1 p1 0 = (d, p2, e2) := ⟨_, _, _, rfl⟩
   simp only [hd] at hP
   unfold opSw at hP
   by_cases k2 : k = 2
   ·rw [if_pos k2] at hP
    obtain ⟨n, a, b, c_, dd, i, p3, e3, hh⟩ : ∃ n a b c d i p e, rdH l0 p2 e2 = (n, a, b, c, d, i, p, e) := ⟨_, _, _, _, _, _, _, _, rfl⟩
    simp only [hh] at hP
    unfold opFin at hP
    by_cases hf : e3 = 0
    ·rw [if_pos hf] at hP
     by_cases hro : RO k d n a b c_ dd i 0 0 0 0
     ·rw [if_pos hro] at hP
      simp only [Prod.mk.injEq] at hP
      obtain ⟨rfl, rfl, rfl, rfl, rfl, rfl, rfl, rfl, rfl, rfl, rfl, rfl, rfl, rfl⟩ := hP
      exact op_u_yes A0 c0 l0 a1 w _ _ _ _ _ _ _ _ _ _ _ _ _ _ hL hB hr0 hc0 hk1 he k2 hd hh hf hro
     ·rw [if_neg hro] at hP
      simp only [opNo, Prod.mk.injEq] at hP
      obtain ⟨rfl, rfl, rfl, rfl, rfl, rfl, rfl, rfl, rfl, rfl, rfl, rfl, rfl, rfl⟩ := hP
      exact op_u_no A0 c0 l0 a1 w _ _ _ _ _ _ _ _ _ _ _ _ _ _ hL hB hr0 hc0 hk1 he k2 hd hh hf hro
    ·rw [if_neg hf] at hP
     simp only [opNo, Prod.mk.injEq] at hP
     obtain ⟨rfl, rfl, rfl, rfl, rfl, rfl, rfl, rfl, rfl, rfl, rfl, rfl, rfl, rfl⟩ := hP
     exact op_u_e A0 c0 l0 a1 w _ _ _ _ _ _ _ _ _ _ _ _ _ _ hL hB hr0 hc0 hk1 he k2 hd hh hf
   rw [if_neg k2] at hP
   by_cases k3 : k = 3
   ·rw [if_pos k3] at hP
    obtain ⟨x, p3, e3, hx⟩ : ∃ x p e, rdN l0 8 p2 e2 = (x, p, e) := ⟨_, _, _, rfl⟩
    obtain ⟨y, p4, e4, hy⟩ : ∃ x p e, rdN l0 1 p3 e3 = (x, p, e) := ⟨_, _, _, rfl⟩
    obtain ⟨z, p5, e5, hz2⟩ : ∃ x p e, rdN l0 1 p4 e4 = (x, p, e) := ⟨_, _, _, rfl⟩
    simp only [hx, hy, hz2] at hP
    unfold opFin at hP
    by_cases hf : e5 = 0
    ·rw [if_pos hf] at hP
     by_cases hro : RO k d false 0 0 0 0 0 x y z 0
     ·rw [if_pos hro] at hP
      simp only [Prod.mk.injEq] at hP
      obtain ⟨rfl, rfl, rfl, rfl, rfl, rfl, rfl, rfl, rfl, rfl, rfl, rfl, rfl, rfl⟩ := hP
      exact op_c_yes A0 c0 l0 a1 w _ _ _ _ _ _ _ _ _ _ _ _ _ _ _ hL hB hr0 hc0 hk1 he k3 hd hx hy hz2 hf hro
     ·rw [if_neg hro] at hP
      simp only [opNo, Prod.mk.injEq] at hP
      obtain ⟨rfl, rfl, rfl, rfl, rfl, rfl, rfl, rfl, rfl, rfl, rfl, rfl, rfl, rfl⟩ := hP
      exact op_c_no A0 c0 l0 a1 w _ _ _ _ _ _ _ _ _ _ _ _ _ _ _ hL hB hr0 hc0 hk1 he k3 hd hx hy hz2 hf hro
    ·rw [if_neg hf] at hP
     simp only [opNo, Prod.mk.injEq] at hP
     obtain ⟨rfl, rfl, rfl, rfl, rfl, rfl, rfl, rfl, rfl, rfl, rfl, rfl, rfl, rfl⟩ := hP
     exact op_c_e A0 c0 l0 a1 w _ _ _ _ _ _ _ _ _ _ _ _ _ _ _ hL hB hr0 hc0 hk1 he k3 hd hx hy hz2 hf
   rw [if_neg k3] at hP
   by_cases k4 : k = 4
   ·rw [if_pos k4] at hP
    obtain ⟨n, a, b, c_, dd, i, p3, e3, hh⟩ : ∃ n a b c d i p e, rdH l0 p2 e2 = (n, a, b, c, d, i, p, e) := ⟨_, _, _, _, _, _, _, _, rfl⟩
    obtain ⟨m, p4, e4, hm⟩ : ∃ x p e, rdN l0 2 p3 e3 = (x, p, e) := ⟨_, _, _, rfl⟩
    simp only [hh, hm] at hP
    unfold opFin at hP
    by_cases hf : e4 = 0
    ·rw [if_pos hf] at hP
     by_cases hro : RO k d n a b c_ dd i 0 0 0 m
     ·rw [if_pos hro] at hP
      simp only [Prod.mk.injEq] at hP
      obtain ⟨rfl, rfl, rfl, rfl, rfl, rfl, rfl, rfl, rfl, rfl, rfl, rfl, rfl, rfl⟩ := hP
      exact op_o_yes A0 c0 l0 a1 w _ _ _ _ _ _ _ _ _ _ _ _ _ _ _ _ _ hL hB hr0 hc0 hk1 he k4 hd hh hm hf hro
     ·rw [if_neg hro] at hP
      simp only [opNo, Prod.mk.injEq] at hP
      obtain ⟨rfl, rfl, rfl, rfl, rfl, rfl, rfl, rfl, rfl, rfl, rfl, rfl, rfl, rfl⟩ := hP
      exact op_o_no A0 c0 l0 a1 w _ _ _ _ _ _ _ _ _ _ _ _ _ _ _ _ _ hL hB hr0 hc0 hk1 he k4 hd hh hm hf hro
    ·rw [if_neg hf] at hP
     simp only [opNo, Prod.mk.injEq] at hP
     obtain ⟨rfl, rfl, rfl, rfl, rfl, rfl, rfl, rfl, rfl, rfl, rfl, rfl, rfl, rfl⟩ := hP
     exact op_o_e A0 c0 l0 a1 w _ _ _ _ _ _ _ _ _ _ _ _ _ _ _ _ _ hL hB hr0 hc0 hk1 he k4 hd hh hm hf
   rw [if_neg k4] at hP
   have k1 : k = 1 := by omega
   unfold opFin at hP
   by_cases hf : e2 = 0
   ·rw [if_pos hf] at hP
    by_cases hro : RO k d false 0 0 0 0 0 0 0 0 0
    ·rw [if_pos hro] at hP
     simp only [Prod.mk.injEq] at hP
     obtain ⟨rfl, rfl, rfl, rfl, rfl, rfl, rfl, rfl, rfl, rfl, rfl, rfl, rfl, rfl⟩ := hP
     exact op_q_yes A0 c0 l0 a1 w _ _ _ _ _ _ hL hB hr0 hc0 hk1 he k1 hd hf hro
    ·rw [if_neg hro] at hP
     simp only [opNo, Prod.mk.injEq] at hP
     obtain ⟨rfl, rfl, rfl, rfl, rfl, rfl, rfl, rfl, rfl, rfl, rfl, rfl, rfl, rfl⟩ := hP
     exact op_q_no A0 c0 l0 a1 w _ _ _ _ _ _ hL hB hr0 hc0 hk1 he k1 hd hf hro
   ·rw [if_neg hf] at hP
    simp only [opNo, Prod.mk.injEq] at hP
    obtain ⟨rfl, rfl, rfl, rfl, rfl, rfl, rfl, rfl, rfl, rfl, rfl, rfl, rfl, rfl⟩ := hP
    exact op_q_e A0 c0 l0 a1 w _ _ _ _ _ _ hL hB hr0 hc0 hk1 he k1 hd hf
 ·have hk : k = 0 := rdN_bad hk1 he
  have hz : opErr k e1 = e1 := by unfold opErr; rw [if_neg he]
  rw [hz] at hP
  obtain ⟨d, p2, e2, hd⟩ : ∃ d p2 e2, rdN l0 1 p1 e1 = (d, p2, e2) := ⟨_, _, _, rfl⟩
  simp only [hd] at hP
  have h2 : e2 = e1 := rdN_stay he hd
  have hf : ¬ e2 = 0 := by omega
  unfold opSw at hP
  rw [if_neg (by omega), if_neg (by omega), if_neg (by omega)] at hP
  unfold opFin at hP
  rw [if_neg hf] at hP
  simp only [opNo, Prod.mk.injEq] at hP
  obtain ⟨rfl, rfl, rfl, rfl, rfl, rfl, rfl, rfl, rfl, rfl, rfl, rfl, rfl, rfl⟩ := hP
  exact op_bad A0 c0 l0 a1 w k p1 e1 d p2 _ hL hB hr0 hc0 hk1 hk he hd hf
end Go.Proofs.Ytfigbjjaffkidaa.P
namespace Go.Proofs.Ytfigbjjaffkidaa.P
open Go.RowKit YtfigbjjaffkidaaW.PrintWords YtfigbjjaffkidaaW.PrintLast YtfigbjjaffkidaaW.PrintMore
open YtfigbjjaffkidaaW.PrintWords renaming below_alloc → YA, pw_below_drewN → YB, below_drew1 → YC, below_step → YD, below_size → YE, blk_drewN → YF, blk_drew → YG, blk_alloc → YH, blk_cell → YI, blk_frozen → YJ, blk_below → YK
open YtfigbjjaffkidaaW.PrintWords.Aside0 renaming mk → YL
open List renaming map_toArray → YM, length_take → YN, length_drop → YO
open YtfigbjjaffkidaaW.PrintWords.Kd renaming R_alloc → YP, R_drewN → YQ, R_drew → YR, R_below → YS
attribute [local go_sem] max2_int min2_int max_two min_two max_three min_three max_four min_four
def batch_Parse.l0 : Nat → List Int → Int → Int → Int → Int → List (S45) → Option (Int × (List (S45)) × Int × Int)
 | 0, _, _, _, _, _, _ => none
 | k + 1, x0, x1, x47, x48, x506000, x506001 => if x48 < x47 then ((object_Parse.f x0 x1).bind fun bt506 => (if bt506.2.2.2.2.2.2.2.2.2.2.2.2.2 = 0 then (if x506001.length < 1466015503701 then (batch_Parse.l0 k x0 bt506.2.2.2.2.2.2.2.2.2.2.2.2.1 x47 (wrap64 (x48 + 1)) x506000 (x506001 ++ [(⟨bt506.1, bt506.2.1, (⟨bt506.2.2.1, bt506.2.2.2.1, bt506.2.2.2.2.1, bt506.2.2.2.2.2.1, bt506.2.2.2.2.2.2.1, bt506.2.2.2.2.2.2.2.1⟩ : S41), (⟨bt506.2.2.2.2.2.2.2.2.1, bt506.2.2.2.2.2.2.2.2.2.1, bt506.2.2.2.2.2.2.2.2.2.2.1⟩ : S43), bt506.2.2.2.2.2.2.2.2.2.2.2.1⟩ : S45)])) else (none)) else (some (0, ([] : List (S45)), 0, bt506.2.2.2.2.2.2.2.2.2.2.2.2.2)))) else ((batch_Check.f k x506000 x506001).bind fun t524 => (if t524 = 0 then (some (x506000, x506001, x1, 0)) else (some (0, ([] : List (S45)), 0, 4))))
def batch_Parse.f (k : Nat) (l0 : List Int) (a1 : Int) : Option (Int × (List (S45)) × Int × Int) := (wire_Get.f l0 a1 2).bind fun bt499 => (if bt499.2.2 = 0 then ((wire_Get.f l0 bt499.2.1 1).bind fun bt502 => (if bt502.2.2 = 0 then (if bt502.1 = 0 then (some (0, ([] : List (S45)), 0, 4)) else (if bt502.1 > 32 then (some (0, ([] : List (S45)), 0, 4)) else (batch_Parse.l0 k l0 bt502.2.1 bt502.1 0 bt499.1 ([] : List (S45))))) else (some (0, ([] : List (S45)), 0, bt502.2.2)))) else (some (0, ([] : List (S45)), 0, bt499.2.2)))
theorem batch_Parse.calls (k : Nat) (A0 : Option Addr) (c0 : Nat) (l0 : List Int) (a1 : Int) (r1 : Int) (r2 : List (S45)) (r3 : Int) (r4 : Int) (w : World) (hr0 : Kd.C (Kd.int .u8) w A0 l0.length l0) (hc0 : l0.length ≤ c0) (h : batch_Parse.f k l0 a1 = some (r1, r2, r3, r4)) :
  Calls Try.prog 21 #[.slice A0 l0.length c0, .int .i64 a1] w fun e w' => ∃ v1_ : Value, e = .returned (.tuple #[.agg #[.int .i64 r1, v1_], .int .i64 r3, .int .i64 r4]) ∧ Kd.R k45 45 w' w.heap.size (fun _ => True) v1_ r2 ∧ Below w.heap.size w w' := by
 have hu24 := Try.underlying24
 have hu45 := Try.underlying45
 have HR0 := YL hr0; have HC0 := YL hc0; clear hr0 hc0
 have HB := YL (Below.refl w.heap.size w)
 have H : ((wire_Get.f l0 a1 2).bind fun bt499 => (if bt499.2.2 = 0 then ((wire_Get.f l0 bt499.2.1 1).bind fun bt502 => (if bt502.2.2 = 0 then (if bt502.1 = 0 then (some (0, ([] : List (S45)), 0, 4)) else (if bt502.1 > 32 then (some (0, ([] : List (S45)), 0, 4)) else (batch_Parse.l0 k l0 bt502.2.1 bt502.1 0 bt499.1 ([] : List (S45))))) else (some (0, ([] : List (S45)), 0, bt502.2.2)))) else (some (0, ([] : List (S45)), 0, bt499.2.2)))) = some (r1, r2, r3, r4) := h
 clear h; replace H := Option.bind_eq_some_iff.mp H
 obtain ⟨⟨t499, t500, t501⟩, A30, H⟩ := H
 replace H : (if t501 = 0 then ((wire_Get.f l0 t500 1).bind fun bt502 => (if bt502.2.2 = 0 then (if bt502.1 = 0 then (some (0, ([] : List (S45)), 0, 4)) else (if bt502.1 > 32 then (some (0, ([] : List (S45)), 0, 4)) else (batch_Parse.l0 k l0 bt502.2.1 bt502.1 0 t499 ([] : List (S45))))) else (some (0, ([] : List (S45)), 0, bt502.2.2)))) else (some (0, ([] : List (S45)), 0, t501))) = some (r1, r2, r3, r4) := H
 have A3 := YL A30; clear A30
 by_cases c4 : t501 = 0
 ·rw [if_pos c4] at H
  have c4b0 : (t501 == 0) = true := beq_iff_eq.mpr c4
  have c4b1 : (t501 != 0) = false := bne_eq_false_iff_eq.mpr c4
  clear c4; replace H := Option.bind_eq_some_iff.mp H
  obtain ⟨⟨t502, t503, t504⟩, A50, H⟩ := H
  replace H : (if t504 = 0 then (if t502 = 0 then (some (0, ([] : List (S45)), 0, 4)) else (if t502 > 32 then (some (0, ([] : List (S45)), 0, 4)) else (batch_Parse.l0 k l0 t503 t502 0 t499 ([] : List (S45))))) else (some (0, ([] : List (S45)), 0, t504))) = some (r1, r2, r3, r4) := H
  have A5 := YL A50; clear A50
  by_cases c6 : t504 = 0
  ·rw [if_pos c6] at H
   have c6b0 : (t504 == 0) = true := beq_iff_eq.mpr c6
   have c6b1 : (t504 != 0) = false := bne_eq_false_iff_eq.mpr c6
   clear c6
   by_cases c7 : t502 = 0
   ·rw [if_pos c7] at H
    have c7b0 : (t502 == 0) = true := beq_iff_eq.mpr c7
    have c7b1 : (t502 != 0) = false := bne_eq_false_iff_eq.mpr c7
    clear c7
    simp only [Option.some.injEq, Prod.mk.injEq] at H
    obtain ⟨rfl, rfl, rfl, rfl⟩ := H
    go_enter Try.func21, Try.ntmps21
    go_wp2_with (first | ((with_reducible refine gate_dst (N := 4) rfl ?_); refine box_event ?hg (N := 4) ?hd (cs := #[.int .i64 0, .slice none 0 0]) (t := 24) ?hr ?_; (case hd => rfl); (case hg => rfl); (case hr => first | (go_simp; done) | (go_simp; rfl)); intro gb498 hg w8 hbox hb; have n0_ := YL (YD (upB HB) hb); have n1_ := YL (hbox); have n2_ := YL ((by rw [hg]; exact (YE (upB HB)) : w.heap.size ≤ gb498)); have n3_ := YL ((by rw [hg]; exact (YE (upB HB)) : w.heap.size ≤ gb498)); clear HB; have HB := n0_; have BK498 := n1_; have GW498 := n2_; have GE498 := n3_; clear n0_ n1_ n2_ n3_; clear hb hbox hg) | ((with_reducible refine gate_callee (f := 32) rfl ?_); refine goesA (some 17) Try.func32 #[.slice A0 l0.length c0, .int .i64 a1, .int .i64 2] ?_; (with_reducible refine (wire_Get.calls _ _ l0 a1 2 t499 t500 t501 _ ?side1 ?side2 A3.out).mono ?_); (case side1 => repeat (first | exact (Kd.C_below HR0.out HB.out) | (with_reducible refine Kd.C_alloc ?_ _) | (with_reducible refine Kd.C_drewN ?_ _) | (with_reducible refine Kd.C_drew ?_))); (case side2 => exact HC0.out); rintro e w9 ⟨rfl, hb⟩; refine ⟨_, rfl, ?_⟩; have n0_ := YL (YK (g := gb498) (o := .cells #[.int .i64 0, .slice none 0 0] 24 (0, 0)) (upK BK498) hb); have n1_ := YL (YD (upB HB) hb); clear BK498; clear HB; have BK498 := n0_; have HB := n1_; clear n0_ n1_; (try clear hb); (try clear hb2); (try clear hk); (try clear hi)) | ((with_reducible refine gate_callee (f := 32) rfl ?_); refine goesA (some 28) Try.func32 #[.slice A0 l0.length c0, .int .i64 t500, .int .i64 1] ?_; (with_reducible refine (wire_Get.calls _ _ l0 t500 1 t502 t503 t504 _ ?side1 ?side2 A5.out).mono ?_); (case side1 => repeat (first | exact (Kd.C_below HR0.out HB.out) | (with_reducible refine Kd.C_alloc ?_ _) | (with_reducible refine Kd.C_drewN ?_ _) | (with_reducible refine Kd.C_drew ?_))); (case side2 => exact HC0.out); rintro e w10 ⟨rfl, hb⟩; refine ⟨_, rfl, ?_⟩; have n0_ := YL (YK (g := gb498) (o := .cells #[.int .i64 0, .slice none 0 0] 24 (0, 0)) (upK BK498) hb); have n1_ := YL (YD (upB HB) hb); clear BK498; clear HB; have BK498 := n0_; have HB := n1_; clear n0_ n1_; (try clear hb); (try clear hb2); (try clear hk); (try clear hi); have q11_0 : w10.cell? ⟨gb498, 0, none⟩ = some (.int .i64 0) := (YI BK498.out 0).trans rfl; have q11_1 : w10.cell? ⟨gb498, 1, none⟩ = some (.slice none 0 0) := (YI BK498.out 1).trans rfl; have f11_0 := YJ BK498.out 0; have f11_1 := YJ BK498.out 1))
    refine bodyPost_ret (results_ctt rfl _ _ gb498 24 #[.int .i64 0, .slice none 0 0] (0, 0) _ rfl (by (with_reducible repeat (first | refine YF ?_ _ | refine YG ?_ | refine YH ?_ _)); refine blk_put (cs := #[.int .i64 0, .slice none 0 0]) ?_ 1 _ rfl; (with_reducible repeat (first | refine YF ?_ _ | refine YG ?_ | refine YH ?_ _)); refine blk_put (cs := #[.int .i64 0, .slice none 0 0]) ?_ 0 _ rfl; (with_reducible repeat (first | refine YF ?_ _ | refine YG ?_ | refine YH ?_ _)); exact BK498.out) Try.underlying24 rfl (by kernel_rfl)) rfl ?_
    exact ⟨_, by first | rfl | (simp [errW_none, errW_some] <;> rfl) | (simp [*, errW_none, errW_some] <;> rfl), by first | exact Kd.R_nil _ _ _ _ _ | exact Kd.N_nil _ _ _ _ _ | exact Kd.V_nil _ _ _ _ _ | exact Kd.Q_nil _ _ _ _ _ | exact Kd.S_nil _ _ _ _ _, by repeat (first | (with_reducible first | exact HB.out | apply YA | apply YB | apply YC | refine below_set ?_ GE498.out) | exact HB.out)⟩
   rw [if_neg c7] at H
   have c7b0 : (t502 == 0) = false := beq_eq_false_iff_ne.mpr c7
   have c7b1 : (t502 != 0) = true := bne_iff_ne.mpr c7
   by_cases c12 : t502 > 32
   ·rw [if_pos c12] at H
    have c12b0 : decide (32 < t502) = true := decide_eq_true c12; clear c12
    simp only [Option.some.injEq, Prod.mk.injEq] at H
    obtain ⟨rfl, rfl, rfl, rfl⟩ := H
    go_enter Try.func21, Try.ntmps21
    go_wp2_with (first | ((with_reducible refine gate_dst (N := 4) rfl ?_); refine box_event ?hg (N := 4) ?hd (cs := #[.int .i64 0, .slice none 0 0]) (t := 24) ?hr ?_; (case hd => rfl); (case hg => rfl); (case hr => first | (go_simp; done) | (go_simp; rfl)); intro gb498 hg w13 hbox hb; have n0_ := YL (YD (upB HB) hb); have n1_ := YL (hbox); have n2_ := YL ((by rw [hg]; exact (YE (upB HB)) : w.heap.size ≤ gb498)); have n3_ := YL ((by rw [hg]; exact (YE (upB HB)) : w.heap.size ≤ gb498)); clear HB; have HB := n0_; have BK498 := n1_; have GW498 := n2_; have GE498 := n3_; clear n0_ n1_ n2_ n3_; clear hb hbox hg) | ((with_reducible refine gate_callee (f := 32) rfl ?_); refine goesA (some 17) Try.func32 #[.slice A0 l0.length c0, .int .i64 a1, .int .i64 2] ?_; (with_reducible refine (wire_Get.calls _ _ l0 a1 2 t499 t500 t501 _ ?side1 ?side2 A3.out).mono ?_); (case side1 => repeat (first | exact (Kd.C_below HR0.out HB.out) | (with_reducible refine Kd.C_alloc ?_ _) | (with_reducible refine Kd.C_drewN ?_ _) | (with_reducible refine Kd.C_drew ?_))); (case side2 => exact HC0.out); rintro e w14 ⟨rfl, hb⟩; refine ⟨_, rfl, ?_⟩; have n0_ := YL (YK (g := gb498) (o := .cells #[.int .i64 0, .slice none 0 0] 24 (0, 0)) (upK BK498) hb); have n1_ := YL (YD (upB HB) hb); clear BK498; clear HB; have BK498 := n0_; have HB := n1_; clear n0_ n1_; (try clear hb); (try clear hb2); (try clear hk); (try clear hi)) | ((with_reducible refine gate_callee (f := 32) rfl ?_); refine goesA (some 28) Try.func32 #[.slice A0 l0.length c0, .int .i64 t500, .int .i64 1] ?_; (with_reducible refine (wire_Get.calls _ _ l0 t500 1 t502 t503 t504 _ ?side1 ?side2 A5.out).mono ?_); (case side1 => repeat (first | exact (Kd.C_below HR0.out HB.out) | (with_reducible refine Kd.C_alloc ?_ _) | (with_reducible refine Kd.C_drewN ?_ _) | (with_reducible refine Kd.C_drew ?_))); (case side2 => exact HC0.out); rintro e w15 ⟨rfl, hb⟩; refine ⟨_, rfl, ?_⟩; have n0_ := YL (YK (g := gb498) (o := .cells #[.int .i64 0, .slice none 0 0] 24 (0, 0)) (upK BK498) hb); have n1_ := YL (YD (upB HB) hb); clear BK498; clear HB; have BK498 := n0_; have HB := n1_; clear n0_ n1_; (try clear hb); (try clear hb2); (try clear hk); (try clear hi); have q16_0 : w15.cell? ⟨gb498, 0, none⟩ = some (.int .i64 0) := (YI BK498.out 0).trans rfl; have q16_1 : w15.cell? ⟨gb498, 1, none⟩ = some (.slice none 0 0) := (YI BK498.out 1).trans rfl; have f16_0 := YJ BK498.out 0; have f16_1 := YJ BK498.out 1))
    refine bodyPost_ret (results_ctt rfl _ _ gb498 24 #[.int .i64 0, .slice none 0 0] (0, 0) _ rfl (by (with_reducible repeat (first | refine YF ?_ _ | refine YG ?_ | refine YH ?_ _)); refine blk_put (cs := #[.int .i64 0, .slice none 0 0]) ?_ 1 _ rfl; (with_reducible repeat (first | refine YF ?_ _ | refine YG ?_ | refine YH ?_ _)); refine blk_put (cs := #[.int .i64 0, .slice none 0 0]) ?_ 0 _ rfl; (with_reducible repeat (first | refine YF ?_ _ | refine YG ?_ | refine YH ?_ _)); exact BK498.out) Try.underlying24 rfl (by kernel_rfl)) rfl ?_
    exact ⟨_, by first | rfl | (simp [errW_none, errW_some] <;> rfl) | (simp [*, errW_none, errW_some] <;> rfl), by first | exact Kd.R_nil _ _ _ _ _ | exact Kd.N_nil _ _ _ _ _ | exact Kd.V_nil _ _ _ _ _ | exact Kd.Q_nil _ _ _ _ _ | exact Kd.S_nil _ _ _ _ _, by repeat (first | (with_reducible first | exact HB.out | apply YA | apply YB | apply YC | refine below_set ?_ GE498.out) | exact HB.out)⟩
   rw [if_neg c12] at H; have c12b0 : decide (32 < t502) = false := decide_eq_false c12; clear c12
   have H' := YL H
   clear H
   go_enter Try.func21, Try.ntmps21
   go_wp2_with (first | ((with_reducible refine gate_dst (N := 4) rfl ?_); refine box_event ?hg (N := 4) ?hd (cs := #[.int .i64 0, .slice none 0 0]) (t := 24) ?hr ?_; (case hd => rfl); (case hg => rfl); (case hr => first | (go_simp; done) | (go_simp; rfl)); intro gb498 hg w17 hbox hb; have n0_ := YL (YD (upB HB) hb); have n1_ := YL (hbox); have n2_ := YL ((by rw [hg]; exact (YE (upB HB)) : w.heap.size ≤ gb498)); have n3_ := YL ((by rw [hg]; exact (YE (upB HB)) : w.heap.size ≤ gb498)); clear HB; have HB := n0_; have BK498 := n1_; have GW498 := n2_; have GE498 := n3_; clear n0_ n1_ n2_ n3_; clear hb hbox hg) | ((with_reducible refine gate_callee (f := 32) rfl ?_); refine goesA (some 17) Try.func32 #[.slice A0 l0.length c0, .int .i64 a1, .int .i64 2] ?_; (with_reducible refine (wire_Get.calls _ _ l0 a1 2 t499 t500 t501 _ ?side1 ?side2 A3.out).mono ?_); (case side1 => repeat (first | exact (Kd.C_below HR0.out HB.out) | (with_reducible refine Kd.C_alloc ?_ _) | (with_reducible refine Kd.C_drewN ?_ _) | (with_reducible refine Kd.C_drew ?_))); (case side2 => exact HC0.out); rintro e w18 ⟨rfl, hb⟩; refine ⟨_, rfl, ?_⟩; have n0_ := YL (YK (g := gb498) (o := .cells #[.int .i64 0, .slice none 0 0] 24 (0, 0)) (upK BK498) hb); have n1_ := YL (YD (upB HB) hb); clear BK498; clear HB; have BK498 := n0_; have HB := n1_; clear n0_ n1_; (try clear hb); (try clear hb2); (try clear hk); (try clear hi)) | ((with_reducible refine gate_callee (f := 32) rfl ?_); refine goesA (some 28) Try.func32 #[.slice A0 l0.length c0, .int .i64 t500, .int .i64 1] ?_; (with_reducible refine (wire_Get.calls _ _ l0 t500 1 t502 t503 t504 _ ?side1 ?side2 A5.out).mono ?_); (case side1 => repeat (first | exact (Kd.C_below HR0.out HB.out) | (with_reducible refine Kd.C_alloc ?_ _) | (with_reducible refine Kd.C_drewN ?_ _) | (with_reducible refine Kd.C_drew ?_))); (case side2 => exact HC0.out); rintro e w19 ⟨rfl, hb⟩; refine ⟨_, rfl, ?_⟩; have n0_ := YL (YK (g := gb498) (o := .cells #[.int .i64 0, .slice none 0 0] 24 (0, 0)) (upK BK498) hb); have n1_ := YL (YD (upB HB) hb); clear BK498; clear HB; have BK498 := n0_; have HB := n1_; clear n0_ n1_; (try clear hb); (try clear hb2); (try clear hk); (try clear hi)) | ((with_reducible refine gate_dst (N := 10) rfl ?_); refine box_event ?hg (N := 10) ?hd (cs := #[.int .i64 0, .slice none 0 0]) (t := 24) ?hr ?_; (case hd => rfl); (case hg => rfl); (case hr => first | (go_simp; done) | (go_simp; rfl)); intro gb505 hg w20 hbox hb; have n0_ := YL (YK (g := gb498) (o := .cells #[.int .i64 0, .slice none 0 0] 24 (0, 0)) (upK BK498) hb); have n1_ := YL (YD (upB HB) hb); have n2_ := YL (hbox); have n3_ := YL ((by rw [hg]; exact (YE (upB HB)) : w.heap.size ≤ gb505)); have n4_ := YL ((by rw [hg]; exact (YE (upB HB)) : w.heap.size ≤ gb505)); have n5_ := YL ((by rw [hg]; exact Nat.ne_of_lt (blk_lt (g := gb498) (o := .cells #[.int .i64 0, .slice none 0 0] 24 (0, 0)) (upK BK498)) : gb498 ≠ gb505)); have n6_ := YL ((by rw [hg]; exact Nat.ne_of_gt (blk_lt (g := gb498) (o := .cells #[.int .i64 0, .slice none 0 0] 24 (0, 0)) (upK BK498)) : gb505 ≠ gb498)); clear BK498; clear HB; have BK498 := n0_; have HB := n1_; have BK505 := n2_; have GW505 := n3_; have GE505 := n4_; have NB498_505 := n5_; have NB505_498 := n6_; clear n0_ n1_ n2_ n3_ n4_ n5_ n6_; clear hb hbox hg; have hnb21 := NB505_498.out; have hnc21 := NB498_505.out; have q22_0 : w20.cell? ⟨gb505, 0, none⟩ = some (.int .i64 0) := (YI BK505.out 0).trans rfl; have q22_1 : w20.cell? ⟨gb505, 1, none⟩ = some (.slice none 0 0) := (YI BK505.out 1).trans rfl; have f22_0 := YJ BK505.out 0; have f22_1 := YJ BK505.out 1))
   go_loopg [1, 48] k (fun kq v1 v48 w' => ∃ (x1_1 : Int) (x48_1 : Int) (x499000_1 : Int) (x506001_1 : List (S45)) (u506001 : Value), v1 = .int .i64 x1_1 ∧ v48 = .int .i64 x48_1 ∧ Aside0 (batch_Parse.l0 kq l0 x1_1 t502 x48_1 t499 x506001_1 = some (r1, r2, r3, r4)) ∧ Aside0 (kq ≤ k) ∧ Aside0 (Kd.R k45 45 w' w.heap.size (fun _ => True) u506001 x506001_1) ∧ Aside0 (w'.heap[gb498]? = some (.cells #[.int .i64 x499000_1, (.slice none 0 0)] 24 (0, 0))) ∧ Aside0 (w'.heap[gb505]? = some (.cells #[.int .i64 t499, u506001] 24 (0, 0))) ∧ Aside0 (Below w.heap.size w w'))
   case atStart => exact ⟨(t503), (0), (0), (([] : List (S45))), (.slice none 0 0), (by first | rfl | (simp; done) | (simp [*]; done)), (by first | rfl | (simp; done) | (simp [*]; done)), H', ⟨Nat.le_refl _⟩, ⟨by first | exact Kd.R_nil _ _ _ _ _ | exact Kd.N_nil _ _ _ _ _ | exact Kd.V_nil _ _ _ _ _ | exact Kd.Q_nil _ _ _ _ _ | exact Kd.S_nil _ _ _ _ _⟩, ⟨by (with_reducible repeat (first | refine YF ?_ _ | refine YG ?_ | refine YH ?_ _)); refine blk_far ?_ NB498_505.out _; (with_reducible repeat (first | refine YF ?_ _ | refine YG ?_ | refine YH ?_ _)); refine blk_far ?_ NB498_505.out _; (with_reducible repeat (first | refine YF ?_ _ | refine YG ?_ | refine YH ?_ _)); exact BK498.out⟩, ⟨by (with_reducible repeat (first | refine YF ?_ _ | refine YG ?_ | refine YH ?_ _)); refine blk_put (cs := #[.int .i64 t499, .slice none 0 0]) ?_ 1 _ rfl; (with_reducible repeat (first | refine YF ?_ _ | refine YG ?_ | refine YH ?_ _)); refine blk_put (cs := #[.int .i64 0, .slice none 0 0]) ?_ 0 _ rfl; (with_reducible repeat (first | refine YF ?_ _ | refine YG ?_ | refine YH ?_ _)); exact BK505.out⟩, ⟨by repeat (first | (with_reducible first | exact HB.out | apply YA | apply YB | apply YC | refine below_set ?_ GE498.out | refine below_set ?_ GE505.out) | exact HB.out)⟩⟩
   case round =>
    clear H'
    try clear c1; try clear c2
    try clear p2; try clear c3
    try clear c4; try clear c4b0
    try clear c4b1; try clear c6
    try clear c6b0; try clear c6b1
    try clear c7; try clear c7b0
    try clear c7b1; try clear c12
    try clear c12b0; try clear c21
    try clear q11_0; try clear q11_1
    try clear q16_0; try clear q16_1
    try clear q22_0; try clear q22_1
    try clear f11_0; try clear f11_1
    try clear f16_0; try clear f16_1
    try clear f22_0; try clear f22_1
    obtain ⟨x1_1, x48_1, x499000_1, x506001_1, u506001, rfl, rfl, HA, HK1, HO_506001, BK498, BK505, HB⟩ := hrel
    cases gk with
    | zero => exact absurd HA.out (by simp [batch_Parse.l0])
    | succ k1 =>
     have H := HA.out
     clear HA
     simp only [batch_Parse.l0] at H
     by_cases c23 : x48_1 < t502
     ·rw [if_pos c23] at H
      have c23b0 : decide (x48_1 < t502) = true := decide_eq_true c23; clear c23; replace H := Option.bind_eq_some_iff.mp H
      obtain ⟨⟨t506, t507, t508, t509, t510, t511, t512, t513, t514, t515, t516, t517, t518, t519⟩, A240, H⟩ := H
      replace H : (if t519 = 0 then (if x506001_1.length < 1466015503701 then (batch_Parse.l0 k1 l0 t518 t502 (wrap64 (x48_1 + 1)) t499 (x506001_1 ++ [(⟨t506, t507, (⟨t508, t509, t510, t511, t512, t513⟩ : S41), (⟨t514, t515, t516⟩ : S43), t517⟩ : S45)])) else (none)) else (some (0, ([] : List (S45)), 0, t519))) = some (r1, r2, r3, r4) := H
      have A24 := YL A240; clear A240
      by_cases c25 : t519 = 0
      ·rw [if_pos c25] at H
       have c25b0 : (t519 == 0) = true := beq_iff_eq.mpr c25
       have c25b1 : (t519 != 0) = false := bne_eq_false_iff_eq.mpr c25
       clear c25
       by_cases c26 : x506001_1.length < 1466015503701
       rotate_left
       ·rw [if_neg c26] at H
        exact absurd H (by simp)
       rw [if_pos c26] at H; have LMc26 := YL c26; clear c26
       obtain ⟨y521, hy521⟩ : ∃ y_ : List (S45), y_ = (x506001_1 ++ [(⟨t506, t507, (⟨t508, t509, t510, t511, t512, t513⟩ : S41), (⟨t514, t515, t516⟩ : S43), t517⟩ : S45)]) := ⟨_, rfl⟩
       replace H : (batch_Parse.l0 k1 l0 t518 t502 (wrap64 (x48_1 + 1)) t499 y521) = some (r1, r2, r3, r4) := by first | (rw [hy521]; with_reducible exact H) | (have H2_ := (Option.bind_some _ _).symm.trans H; rw [hy521]; with_reducible exact H2_) | (have H2_ := (Option.bind_some _ _).symm.trans H; with_reducible exact H2_) | with_reducible exact H | (rw [hy521]; exact H) | exact H
       have Ny521 := YL hy521; clear hy521
       have H' := YL H
       clear H
       go_wp2_with (first | ((with_reducible refine gate_callee (f := 33) rfl ?_); refine goesA (some 53) Try.func33 #[.slice A0 l0.length c0, .int .i64 x1_1] ?_; (with_reducible refine (object_Parse.calls _ _ l0 x1_1 t506 t507 t508 t509 t510 t511 t512 t513 t514 t515 t516 t517 t518 t519 _ ?side1 ?side2 A24.out).mono ?_); (case side1 => repeat (first | exact (Kd.C_below HR0.out HB.out) | (with_reducible refine Kd.C_alloc ?_ _) | (with_reducible refine Kd.C_drewN ?_ _) | (with_reducible refine Kd.C_drew ?_))); (case side2 => exact HC0.out); rintro e w27 ⟨rfl, hb⟩; refine ⟨_, rfl, ?_⟩; have n0_ := YL (YS (upR HO_506001) hb); have n1_ := YL (YK (g := gb498) (o := .cells #[.int .i64 x499000_1, .slice none 0 0] 24 (0, 0)) (upK BK498) hb); have n2_ := YL (YK (g := gb505) (o := .cells #[.int .i64 t499, u506001] 24 (0, 0)) (upK BK505) hb); have n3_ := YL (YD (upB HB) hb); clear HO_506001; clear BK498; clear BK505; clear HB; have HO_506001 := n0_; have BK498 := n1_; have BK505 := n2_; have HB := n3_; clear n0_ n1_ n2_ n3_; (try clear hb); (try clear hb2); (try clear hk); (try clear hi)) | ((with_reducible refine gate_dst (N := 11) rfl ?_); refine box_event ?hg (N := 11) ?hd (cs := #[.int .i64 0, .int .i64 0, .bool false, .int .i64 0, .int .i64 0, .int .i64 0, .int .i64 0, .int .i64 0, .int .i64 0, .int .i64 0, .int .i64 0, .int .i64 0]) (t := 45) ?hr ?_; (case hd => rfl); (case hg => rfl); (case hr => first | (go_simp; done) | (go_simp; rfl)); intro gb520 hg w28 hbox hb; have n0_ := YL (YS (Kd.R_elderB (upR HO_506001) gb520 (Nat.le_of_eq hg.symm)) hb); have n1_ := YL (YK (g := gb498) (o := .cells #[.int .i64 x499000_1, .slice none 0 0] 24 (0, 0)) (upK BK498) hb); have n2_ := YL (YK (g := gb505) (o := .cells #[.int .i64 t499, u506001] 24 (0, 0)) (upK BK505) hb); have n3_ := YL (YD (upB HB) hb); have n4_ := YL (hbox); have n5_ := YL ((by rw [hg]; exact (YE (upB HB)) : w.heap.size ≤ gb520)); have n6_ := YL ((by rw [hg]; exact (YE (upB HB)) : w.heap.size ≤ gb520)); have n7_ := YL ((by rw [hg]; exact Nat.ne_of_lt (blk_lt (g := gb498) (o := .cells #[.int .i64 x499000_1, .slice none 0 0] 24 (0, 0)) (upK BK498)) : gb498 ≠ gb520)); have n8_ := YL ((by rw [hg]; exact Nat.ne_of_gt (blk_lt (g := gb498) (o := .cells #[.int .i64 x499000_1, .slice none 0 0] 24 (0, 0)) (upK BK498)) : gb520 ≠ gb498)); have n9_ := YL ((by rw [hg]; exact Nat.ne_of_lt (blk_lt (g := gb505) (o := .cells #[.int .i64 t499, u506001] 24 (0, 0)) (upK BK505)) : gb505 ≠ gb520)); have n10_ := YL ((by rw [hg]; exact Nat.ne_of_gt (blk_lt (g := gb505) (o := .cells #[.int .i64 t499, u506001] 24 (0, 0)) (upK BK505)) : gb520 ≠ gb505)); clear HO_506001; clear BK498; clear BK505; clear HB; have HO_506001 := n0_; have BK498 := n1_; have BK505 := n2_; have HB := n3_; have BK520 := n4_; have GW520 := n5_; have GE520 := n6_; have NB498_520 := n7_; have NB520_498 := n8_; have NB505_520 := n9_; have NB520_505 := n10_; clear n0_ n1_ n2_ n3_ n4_ n5_ n6_ n7_ n8_ n9_ n10_; clear hb hbox hg; have hnb29 := NB520_498.out; have hnc29 := NB498_520.out; have hnb30 := NB520_505.out; have hnc30 := NB505_520.out; have q31_0 : w28.cell? ⟨gb520, 0, none⟩ = some (.int .i64 0) := (YI BK520.out 0).trans rfl; have q31_1 : w28.cell? ⟨gb520, 1, none⟩ = some (.int .i64 0) := (YI BK520.out 1).trans rfl; have q31_2 : w28.cell? ⟨gb520, 2, none⟩ = some (.bool false) := (YI BK520.out 2).trans rfl; have q31_3 : w28.cell? ⟨gb520, 3, none⟩ = some (.int .i64 0) := (YI BK520.out 3).trans rfl; have q31_4 : w28.cell? ⟨gb520, 4, none⟩ = some (.int .i64 0) := (YI BK520.out 4).trans rfl; have q31_5 : w28.cell? ⟨gb520, 5, none⟩ = some (.int .i64 0) := (YI BK520.out 5).trans rfl; have q31_6 : w28.cell? ⟨gb520, 6, none⟩ = some (.int .i64 0) := (YI BK520.out 6).trans rfl; have q31_7 : w28.cell? ⟨gb520, 7, none⟩ = some (.int .i64 0) := (YI BK520.out 7).trans rfl; have q31_8 : w28.cell? ⟨gb520, 8, none⟩ = some (.int .i64 0) := (YI BK520.out 8).trans rfl; have q31_9 : w28.cell? ⟨gb520, 9, none⟩ = some (.int .i64 0) := (YI BK520.out 9).trans rfl; have q31_10 : w28.cell? ⟨gb520, 10, none⟩ = some (.int .i64 0) := (YI BK520.out 10).trans rfl; have q31_11 : w28.cell? ⟨gb520, 11, none⟩ = some (.int .i64 0) := (YI BK520.out 11).trans rfl; have f31_0 := YJ BK520.out 0; have f31_1 := YJ BK520.out 1; have f31_2 := YJ BK520.out 2; have f31_3 := YJ BK520.out 3; have f31_4 := YJ BK520.out 4; have f31_5 := YJ BK520.out 5; have f31_6 := YJ BK520.out 6; have f31_7 := YJ BK520.out 7; have f31_8 := YJ BK520.out 8; have f31_9 := YJ BK520.out 9; have f31_10 := YJ BK520.out 10; have f31_11 := YJ BK520.out 11; have hnb32 := NB505_498.out; have hnc32 := NB498_505.out; have q33_0 : w28.cell? ⟨gb505, 0, none⟩ = some (.int .i64 t499) := (YI BK505.out 0).trans rfl; have q33_1 : w28.cell? ⟨gb505, 1, none⟩ = some (u506001) := (YI BK505.out 1).trans rfl; have f33_0 := YJ BK505.out 0; have f33_1 := YJ BK505.out 1) | ((with_reducible refine gate_builtin (b := .append) (xs := #[.tmp 62, .tmp 64]) rfl ?_); at_builtin; refine Kd.R_append k45 (w0 := w) w.heap.size rfl (.tmp 62) (.tmp 64) 22 45 (.agg #[(.int .i64 0), (.int .i64 0), (.bool false), (.int .i64 0), (.int .i64 0), (.int .i64 0), (.int .i64 0), (.int .i64 0), (.int .i64 0), (.int .i64 0), (.int .i64 0), (.int .i64 0)]) 96 rfl Try.underlying22 info45 rfl (by decide) (by omega) u506001 x506001_1 (⟨t506, t507, (⟨t508, t509, t510, t511, t512, t513⟩ : S41), (⟨t514, t515, t516⟩ : S43), t517⟩ : S45) [.int .i64 t506, .int .i64 t507, .bool t508, .int .i64 t509, .int .i64 t510, .int .i64 t511, .int .i64 t512, .int .i64 t513, .int .i64 t514, .int .i64 t515, .int .i64 t516, .int .i64 t517] (fun k_ => k_ ≠ gb520) (fun _ => False) rfl (by first | (go_simp; done) | (go_simp; rfl)) ?aP (fun _ hk => hk.elim) ?aF ?aO ?aB ?aS ?aL ?_; (case aP => exact k45_mkM _ _ _ (⟨t506, t507, (⟨t508, t509, t510, t511, t512, t513⟩ : S41), (⟨t514, t515, t516⟩ : S43), t517⟩ : S45)); (case aB => exact (upB HB)); (case aF => exact (fun k_ hk => Kd.freshB (g := gb520) (o := .cells #[.int .i64 t506, .int .i64 t507, .bool t508, .int .i64 t509, .int .i64 t510, .int .i64 t511, .int .i64 t512, .int .i64 t513, .int .i64 t514, .int .i64 t515, .int .i64 t516, .int .i64 t517] 45 (0, 0)) (by (with_reducible repeat (first | refine YF ?_ _ | refine YG ?_ | refine YH ?_ _)); refine blk_put (cs := #[.int .i64 t506, .int .i64 t507, .bool t508, .int .i64 t509, .int .i64 t510, .int .i64 t511, .int .i64 t512, .int .i64 t513, .int .i64 t514, .int .i64 t515, .int .i64 t516, .int .i64 0]) ?_ 11 _ rfl; (with_reducible repeat (first | refine YF ?_ _ | refine YG ?_ | refine YH ?_ _)); refine blk_put (cs := #[.int .i64 t506, .int .i64 t507, .bool t508, .int .i64 t509, .int .i64 t510, .int .i64 t511, .int .i64 t512, .int .i64 t513, .int .i64 t514, .int .i64 t515, .int .i64 0, .int .i64 0]) ?_ 10 _ rfl; (with_reducible repeat (first | refine YF ?_ _ | refine YG ?_ | refine YH ?_ _)); refine blk_put (cs := #[.int .i64 t506, .int .i64 t507, .bool t508, .int .i64 t509, .int .i64 t510, .int .i64 t511, .int .i64 t512, .int .i64 t513, .int .i64 t514, .int .i64 0, .int .i64 0, .int .i64 0]) ?_ 9 _ rfl; (with_reducible repeat (first | refine YF ?_ _ | refine YG ?_ | refine YH ?_ _)); refine blk_put (cs := #[.int .i64 t506, .int .i64 t507, .bool t508, .int .i64 t509, .int .i64 t510, .int .i64 t511, .int .i64 t512, .int .i64 t513, .int .i64 0, .int .i64 0, .int .i64 0, .int .i64 0]) ?_ 8 _ rfl; (with_reducible repeat (first | refine YF ?_ _ | refine YG ?_ | refine YH ?_ _)); refine blk_put (cs := #[.int .i64 t506, .int .i64 t507, .bool t508, .int .i64 t509, .int .i64 t510, .int .i64 t511, .int .i64 t512, .int .i64 0, .int .i64 0, .int .i64 0, .int .i64 0, .int .i64 0]) ?_ 7 _ rfl; (with_reducible repeat (first | refine YF ?_ _ | refine YG ?_ | refine YH ?_ _)); refine blk_put (cs := #[.int .i64 t506, .int .i64 t507, .bool t508, .int .i64 t509, .int .i64 t510, .int .i64 t511, .int .i64 0, .int .i64 0, .int .i64 0, .int .i64 0, .int .i64 0, .int .i64 0]) ?_ 6 _ rfl; (with_reducible repeat (first | refine YF ?_ _ | refine YG ?_ | refine YH ?_ _)); refine blk_put (cs := #[.int .i64 t506, .int .i64 t507, .bool t508, .int .i64 t509, .int .i64 t510, .int .i64 0, .int .i64 0, .int .i64 0, .int .i64 0, .int .i64 0, .int .i64 0, .int .i64 0]) ?_ 5 _ rfl; (with_reducible repeat (first | refine YF ?_ _ | refine YG ?_ | refine YH ?_ _)); refine blk_put (cs := #[.int .i64 t506, .int .i64 t507, .bool t508, .int .i64 t509, .int .i64 0, .int .i64 0, .int .i64 0, .int .i64 0, .int .i64 0, .int .i64 0, .int .i64 0, .int .i64 0]) ?_ 4 _ rfl; (with_reducible repeat (first | refine YF ?_ _ | refine YG ?_ | refine YH ?_ _)); refine blk_put (cs := #[.int .i64 t506, .int .i64 t507, .bool t508, .int .i64 0, .int .i64 0, .int .i64 0, .int .i64 0, .int .i64 0, .int .i64 0, .int .i64 0, .int .i64 0, .int .i64 0]) ?_ 3 _ rfl; (with_reducible repeat (first | refine YF ?_ _ | refine YG ?_ | refine YH ?_ _)); refine blk_put (cs := #[.int .i64 t506, .int .i64 t507, .bool false, .int .i64 0, .int .i64 0, .int .i64 0, .int .i64 0, .int .i64 0, .int .i64 0, .int .i64 0, .int .i64 0, .int .i64 0]) ?_ 2 _ rfl; (with_reducible repeat (first | refine YF ?_ _ | refine YG ?_ | refine YH ?_ _)); refine blk_put (cs := #[.int .i64 t506, .int .i64 0, .bool false, .int .i64 0, .int .i64 0, .int .i64 0, .int .i64 0, .int .i64 0, .int .i64 0, .int .i64 0, .int .i64 0, .int .i64 0]) ?_ 1 _ rfl; (with_reducible repeat (first | refine YF ?_ _ | refine YG ?_ | refine YH ?_ _)); refine blk_put (cs := #[.int .i64 0, .int .i64 0, .bool false, .int .i64 0, .int .i64 0, .int .i64 0, .int .i64 0, .int .i64 0, .int .i64 0, .int .i64 0, .int .i64 0, .int .i64 0]) ?_ 0 _ rfl; (with_reducible repeat (first | refine YF ?_ _ | refine YG ?_ | refine YH ?_ _)); exact BK520.out) k_ hk)); (case aO => exact (by (with_reducible repeat (first | apply YP | apply YQ | apply YR)); exact Kd.R_mono (Kd.R_far (p := ⟨gb520, 11, none⟩) (Kd.R_far (p := ⟨gb520, 10, none⟩) (Kd.R_far (p := ⟨gb520, 9, none⟩) (Kd.R_far (p := ⟨gb520, 8, none⟩) (Kd.R_far (p := ⟨gb520, 7, none⟩) (Kd.R_far (p := ⟨gb520, 6, none⟩) (Kd.R_far (p := ⟨gb520, 5, none⟩) (Kd.R_far (p := ⟨gb520, 4, none⟩) (Kd.R_far (p := ⟨gb520, 3, none⟩) (Kd.R_far (p := ⟨gb520, 2, none⟩) (Kd.R_far (p := ⟨gb520, 1, none⟩) (Kd.R_far (p := ⟨gb520, 0, none⟩) (Kd.R_mono HO_506001.out (fun k_ hk => (⟨hk, hk.2⟩ : _ ∧ k_ ≠ gb520))) (fun _ hk => hk.2) (.int .i64 t506)) (fun _ hk => hk.2) (.int .i64 t507)) (fun _ hk => hk.2) (.bool t508)) (fun _ hk => hk.2) (.int .i64 t509)) (fun _ hk => hk.2) (.int .i64 t510)) (fun _ hk => hk.2) (.int .i64 t511)) (fun _ hk => hk.2) (.int .i64 t512)) (fun _ hk => hk.2) (.int .i64 t513)) (fun _ hk => hk.2) (.int .i64 t514)) (fun _ hk => hk.2) (.int .i64 t515)) (fun _ hk => hk.2) (.int .i64 t516)) (fun _ hk => hk.2) (.int .i64 t517)) (fun _ hk => hk.1.2))); (case aS => exact (YE (upB HB))); (case aL => have := LMc26.out; omega); intro v522 w34 ho hb hg hat; rw [← Ny521.out] at ho; have n0_ := YL (blk_grown (g := gb498) (o := .cells #[.int .i64 x499000_1, .slice none 0 0] 24 (0, 0)) (by (with_reducible repeat (first | refine YF ?_ _ | refine YG ?_ | refine YH ?_ _)); refine blk_far ?_ NB498_520.out _; (with_reducible repeat (first | refine YF ?_ _ | refine YG ?_ | refine YH ?_ _)); refine blk_far ?_ NB498_520.out _; (with_reducible repeat (first | refine YF ?_ _ | refine YG ?_ | refine YH ?_ _)); refine blk_far ?_ NB498_520.out _; (with_reducible repeat (first | refine YF ?_ _ | refine YG ?_ | refine YH ?_ _)); refine blk_far ?_ NB498_520.out _; (with_reducible repeat (first | refine YF ?_ _ | refine YG ?_ | refine YH ?_ _)); refine blk_far ?_ NB498_520.out _; (with_reducible repeat (first | refine YF ?_ _ | refine YG ?_ | refine YH ?_ _)); refine blk_far ?_ NB498_520.out _; (with_reducible repeat (first | refine YF ?_ _ | refine YG ?_ | refine YH ?_ _)); refine blk_far ?_ NB498_520.out _; (with_reducible repeat (first | refine YF ?_ _ | refine YG ?_ | refine YH ?_ _)); refine blk_far ?_ NB498_520.out _; (with_reducible repeat (first | refine YF ?_ _ | refine YG ?_ | refine YH ?_ _)); refine blk_far ?_ NB498_520.out _; (with_reducible repeat (first | refine YF ?_ _ | refine YG ?_ | refine YH ?_ _)); refine blk_far ?_ NB498_520.out _; (with_reducible repeat (first | refine YF ?_ _ | refine YG ?_ | refine YH ?_ _)); refine blk_far ?_ NB498_520.out _; (with_reducible repeat (first | refine YF ?_ _ | refine YG ?_ | refine YH ?_ _)); refine blk_far ?_ NB498_520.out _; (with_reducible repeat (first | refine YF ?_ _ | refine YG ?_ | refine YH ?_ _)); exact BK498.out) hg (Kd.R_ne HO_506001.out BK498.out (by decide))); have n1_ := YL (blk_grown (g := gb505) (o := .cells #[.int .i64 t499, u506001] 24 (0, 0)) (by (with_reducible repeat (first | refine YF ?_ _ | refine YG ?_ | refine YH ?_ _)); refine blk_far ?_ NB505_520.out _; (with_reducible repeat (first | refine YF ?_ _ | refine YG ?_ | refine YH ?_ _)); refine blk_far ?_ NB505_520.out _; (with_reducible repeat (first | refine YF ?_ _ | refine YG ?_ | refine YH ?_ _)); refine blk_far ?_ NB505_520.out _; (with_reducible repeat (first | refine YF ?_ _ | refine YG ?_ | refine YH ?_ _)); refine blk_far ?_ NB505_520.out _; (with_reducible repeat (first | refine YF ?_ _ | refine YG ?_ | refine YH ?_ _)); refine blk_far ?_ NB505_520.out _; (with_reducible repeat (first | refine YF ?_ _ | refine YG ?_ | refine YH ?_ _)); refine blk_far ?_ NB505_520.out _; (with_reducible repeat (first | refine YF ?_ _ | refine YG ?_ | refine YH ?_ _)); refine blk_far ?_ NB505_520.out _; (with_reducible repeat (first | refine YF ?_ _ | refine YG ?_ | refine YH ?_ _)); refine blk_far ?_ NB505_520.out _; (with_reducible repeat (first | refine YF ?_ _ | refine YG ?_ | refine YH ?_ _)); refine blk_far ?_ NB505_520.out _; (with_reducible repeat (first | refine YF ?_ _ | refine YG ?_ | refine YH ?_ _)); refine blk_far ?_ NB505_520.out _; (with_reducible repeat (first | refine YF ?_ _ | refine YG ?_ | refine YH ?_ _)); refine blk_far ?_ NB505_520.out _; (with_reducible repeat (first | refine YF ?_ _ | refine YG ?_ | refine YH ?_ _)); refine blk_far ?_ NB505_520.out _; (with_reducible repeat (first | refine YF ?_ _ | refine YG ?_ | refine YH ?_ _)); exact BK505.out) hg (Kd.R_ne HO_506001.out BK505.out (by decide))); have n2_ := YL (blk_grown (g := gb520) (o := .cells #[.int .i64 t506, .int .i64 t507, .bool t508, .int .i64 t509, .int .i64 t510, .int .i64 t511, .int .i64 t512, .int .i64 t513, .int .i64 t514, .int .i64 t515, .int .i64 t516, .int .i64 t517] 45 (0, 0)) (by (with_reducible repeat (first | refine YF ?_ _ | refine YG ?_ | refine YH ?_ _)); refine blk_put (cs := #[.int .i64 t506, .int .i64 t507, .bool t508, .int .i64 t509, .int .i64 t510, .int .i64 t511, .int .i64 t512, .int .i64 t513, .int .i64 t514, .int .i64 t515, .int .i64 t516, .int .i64 0]) ?_ 11 _ rfl; (with_reducible repeat (first | refine YF ?_ _ | refine YG ?_ | refine YH ?_ _)); refine blk_put (cs := #[.int .i64 t506, .int .i64 t507, .bool t508, .int .i64 t509, .int .i64 t510, .int .i64 t511, .int .i64 t512, .int .i64 t513, .int .i64 t514, .int .i64 t515, .int .i64 0, .int .i64 0]) ?_ 10 _ rfl; (with_reducible repeat (first | refine YF ?_ _ | refine YG ?_ | refine YH ?_ _)); refine blk_put (cs := #[.int .i64 t506, .int .i64 t507, .bool t508, .int .i64 t509, .int .i64 t510, .int .i64 t511, .int .i64 t512, .int .i64 t513, .int .i64 t514, .int .i64 0, .int .i64 0, .int .i64 0]) ?_ 9 _ rfl; (with_reducible repeat (first | refine YF ?_ _ | refine YG ?_ | refine YH ?_ _)); refine blk_put (cs := #[.int .i64 t506, .int .i64 t507, .bool t508, .int .i64 t509, .int .i64 t510, .int .i64 t511, .int .i64 t512, .int .i64 t513, .int .i64 0, .int .i64 0, .int .i64 0, .int .i64 0]) ?_ 8 _ rfl; (with_reducible repeat (first | refine YF ?_ _ | refine YG ?_ | refine YH ?_ _)); refine blk_put (cs := #[.int .i64 t506, .int .i64 t507, .bool t508, .int .i64 t509, .int .i64 t510, .int .i64 t511, .int .i64 t512, .int .i64 0, .int .i64 0, .int .i64 0, .int .i64 0, .int .i64 0]) ?_ 7 _ rfl; (with_reducible repeat (first | refine YF ?_ _ | refine YG ?_ | refine YH ?_ _)); refine blk_put (cs := #[.int .i64 t506, .int .i64 t507, .bool t508, .int .i64 t509, .int .i64 t510, .int .i64 t511, .int .i64 0, .int .i64 0, .int .i64 0, .int .i64 0, .int .i64 0, .int .i64 0]) ?_ 6 _ rfl; (with_reducible repeat (first | refine YF ?_ _ | refine YG ?_ | refine YH ?_ _)); refine blk_put (cs := #[.int .i64 t506, .int .i64 t507, .bool t508, .int .i64 t509, .int .i64 t510, .int .i64 0, .int .i64 0, .int .i64 0, .int .i64 0, .int .i64 0, .int .i64 0, .int .i64 0]) ?_ 5 _ rfl; (with_reducible repeat (first | refine YF ?_ _ | refine YG ?_ | refine YH ?_ _)); refine blk_put (cs := #[.int .i64 t506, .int .i64 t507, .bool t508, .int .i64 t509, .int .i64 0, .int .i64 0, .int .i64 0, .int .i64 0, .int .i64 0, .int .i64 0, .int .i64 0, .int .i64 0]) ?_ 4 _ rfl; (with_reducible repeat (first | refine YF ?_ _ | refine YG ?_ | refine YH ?_ _)); refine blk_put (cs := #[.int .i64 t506, .int .i64 t507, .bool t508, .int .i64 0, .int .i64 0, .int .i64 0, .int .i64 0, .int .i64 0, .int .i64 0, .int .i64 0, .int .i64 0, .int .i64 0]) ?_ 3 _ rfl; (with_reducible repeat (first | refine YF ?_ _ | refine YG ?_ | refine YH ?_ _)); refine blk_put (cs := #[.int .i64 t506, .int .i64 t507, .bool false, .int .i64 0, .int .i64 0, .int .i64 0, .int .i64 0, .int .i64 0, .int .i64 0, .int .i64 0, .int .i64 0, .int .i64 0]) ?_ 2 _ rfl; (with_reducible repeat (first | refine YF ?_ _ | refine YG ?_ | refine YH ?_ _)); refine blk_put (cs := #[.int .i64 t506, .int .i64 0, .bool false, .int .i64 0, .int .i64 0, .int .i64 0, .int .i64 0, .int .i64 0, .int .i64 0, .int .i64 0, .int .i64 0, .int .i64 0]) ?_ 1 _ rfl; (with_reducible repeat (first | refine YF ?_ _ | refine YG ?_ | refine YH ?_ _)); refine blk_put (cs := #[.int .i64 0, .int .i64 0, .bool false, .int .i64 0, .int .i64 0, .int .i64 0, .int .i64 0, .int .i64 0, .int .i64 0, .int .i64 0, .int .i64 0, .int .i64 0]) ?_ 0 _ rfl; (with_reducible repeat (first | refine YF ?_ _ | refine YG ?_ | refine YH ?_ _)); exact BK520.out) hg (Kd.R_away HO_506001.out (fun _ hk => hk.2))); have n3_ := YL (hb); have n4_ := YL (ho); clear BK498; clear BK505; clear BK520; clear HB; clear HO_506001; have BK498 := n0_; have BK505 := n1_; have BK520 := n2_; have HB := n3_; have HO523 := n4_; clear n0_ n1_ n2_ n3_ n4_; clear ho hb hg hat; obtain ⟨Ao35, co35, eo35⟩ := Kd.R_slice HO523.out; subst eo35; have q36_0 : w34.cell? ⟨gb505, 0, none⟩ = some (.int .i64 t499) := (YI BK505.out 0).trans rfl; have q36_1 : w34.cell? ⟨gb505, 1, none⟩ = some (u506001) := (YI BK505.out 1).trans rfl; have f36_0 := YJ BK505.out 0; have f36_1 := YJ BK505.out 1))
       go_roundg k1
       case measure => have := HK1.out; omega
       case rel => exact ⟨(t518), (wrap64 (x48_1 + 1)), (x499000_1), (y521), (.slice Ao35 y521.length co35), (by first | rfl | (simp; done) | (simp [*]; done)), (by first | rfl | (simp; done) | (simp [*]; done)), H', ⟨by have := HK1.out; omega⟩, ⟨by (with_reducible repeat (first | apply YP | apply YQ | apply YR)); exact Kd.R_mono (Kd.R_far (p := ⟨gb505, 1, none⟩) (Kd.R_types HO523.out BK505.out (by decide)) (fun _ hk => hk.2) (.slice Ao35 y521.length co35)) (fun _ hk => trivial)⟩, ⟨by (with_reducible repeat (first | refine YF ?_ _ | refine YG ?_ | refine YH ?_ _)); refine blk_far ?_ NB498_505.out _; (with_reducible repeat (first | refine YF ?_ _ | refine YG ?_ | refine YH ?_ _)); exact BK498.out⟩, ⟨by (with_reducible repeat (first | refine YF ?_ _ | refine YG ?_ | refine YH ?_ _)); refine blk_put (cs := #[.int .i64 t499, u506001]) ?_ 1 _ rfl; (with_reducible repeat (first | refine YF ?_ _ | refine YG ?_ | refine YH ?_ _)); exact BK505.out⟩, ⟨by repeat (first | (with_reducible first | exact HB.out | apply YA | apply YB | apply YC | refine below_set ?_ GE498.out | refine below_set ?_ GE505.out | refine below_set ?_ GE520.out) | exact HB.out)⟩⟩
      rw [if_neg c25] at H
      have c25b0 : (t519 == 0) = false := beq_eq_false_iff_ne.mpr c25
      have c25b1 : (t519 != 0) = true := bne_iff_ne.mpr c25
      simp only [Option.some.injEq, Prod.mk.injEq] at H
      obtain ⟨rfl, rfl, rfl, rfl⟩ := H
      go_wp2_with (first | ((with_reducible refine gate_callee (f := 33) rfl ?_); refine goesA (some 53) Try.func33 #[.slice A0 l0.length c0, .int .i64 x1_1] ?_; (with_reducible refine (object_Parse.calls _ _ l0 x1_1 t506 t507 t508 t509 t510 t511 t512 t513 t514 t515 t516 t517 t518 t519 _ ?side1 ?side2 A24.out).mono ?_); (case side1 => repeat (first | exact (Kd.C_below HR0.out HB.out) | (with_reducible refine Kd.C_alloc ?_ _) | (with_reducible refine Kd.C_drewN ?_ _) | (with_reducible refine Kd.C_drew ?_))); (case side2 => exact HC0.out); rintro e w37 ⟨rfl, hb⟩; refine ⟨_, rfl, ?_⟩; have n0_ := YL (YS (upR HO_506001) hb); have n1_ := YL (YK (g := gb498) (o := .cells #[.int .i64 x499000_1, .slice none 0 0] 24 (0, 0)) (upK BK498) hb); have n2_ := YL (YK (g := gb505) (o := .cells #[.int .i64 t499, u506001] 24 (0, 0)) (upK BK505) hb); have n3_ := YL (YD (upB HB) hb); clear HO_506001; clear BK498; clear BK505; clear HB; have HO_506001 := n0_; have BK498 := n1_; have BK505 := n2_; have HB := n3_; clear n0_ n1_ n2_ n3_; (try clear hb); (try clear hb2); (try clear hk); (try clear hi)) | ((with_reducible refine gate_dst (N := 11) rfl ?_); refine box_event ?hg (N := 11) ?hd (cs := #[.int .i64 0, .int .i64 0, .bool false, .int .i64 0, .int .i64 0, .int .i64 0, .int .i64 0, .int .i64 0, .int .i64 0, .int .i64 0, .int .i64 0, .int .i64 0]) (t := 45) ?hr ?_; (case hd => rfl); (case hg => rfl); (case hr => first | (go_simp; done) | (go_simp; rfl)); intro gb520 hg w38 hbox hb; have n0_ := YL (YS (Kd.R_elderB (upR HO_506001) gb520 (Nat.le_of_eq hg.symm)) hb); have n1_ := YL (YK (g := gb498) (o := .cells #[.int .i64 x499000_1, .slice none 0 0] 24 (0, 0)) (upK BK498) hb); have n2_ := YL (YK (g := gb505) (o := .cells #[.int .i64 t499, u506001] 24 (0, 0)) (upK BK505) hb); have n3_ := YL (YD (upB HB) hb); have n4_ := YL (hbox); have n5_ := YL ((by rw [hg]; exact (YE (upB HB)) : w.heap.size ≤ gb520)); have n6_ := YL ((by rw [hg]; exact (YE (upB HB)) : w.heap.size ≤ gb520)); have n7_ := YL ((by rw [hg]; exact Nat.ne_of_lt (blk_lt (g := gb498) (o := .cells #[.int .i64 x499000_1, .slice none 0 0] 24 (0, 0)) (upK BK498)) : gb498 ≠ gb520)); have n8_ := YL ((by rw [hg]; exact Nat.ne_of_gt (blk_lt (g := gb498) (o := .cells #[.int .i64 x499000_1, .slice none 0 0] 24 (0, 0)) (upK BK498)) : gb520 ≠ gb498)); have n9_ := YL ((by rw [hg]; exact Nat.ne_of_lt (blk_lt (g := gb505) (o := .cells #[.int .i64 t499, u506001] 24 (0, 0)) (upK BK505)) : gb505 ≠ gb520)); have n10_ := YL ((by rw [hg]; exact Nat.ne_of_gt (blk_lt (g := gb505) (o := .cells #[.int .i64 t499, u506001] 24 (0, 0)) (upK BK505)) : gb520 ≠ gb505)); clear HO_506001; clear BK498; clear BK505; clear HB; have HO_506001 := n0_; have BK498 := n1_; have BK505 := n2_; have HB := n3_; have BK520 := n4_; have GW520 := n5_; have GE520 := n6_; have NB498_520 := n7_; have NB520_498 := n8_; have NB505_520 := n9_; have NB520_505 := n10_; clear n0_ n1_ n2_ n3_ n4_ n5_ n6_ n7_ n8_ n9_ n10_; clear hb hbox hg; have hnb39 := NB520_498.out; have hnc39 := NB498_520.out; have hnb40 := NB520_505.out; have hnc40 := NB505_520.out; have q41_0 : w38.cell? ⟨gb520, 0, none⟩ = some (.int .i64 0) := (YI BK520.out 0).trans rfl; have q41_1 : w38.cell? ⟨gb520, 1, none⟩ = some (.int .i64 0) := (YI BK520.out 1).trans rfl; have q41_2 : w38.cell? ⟨gb520, 2, none⟩ = some (.bool false) := (YI BK520.out 2).trans rfl; have q41_3 : w38.cell? ⟨gb520, 3, none⟩ = some (.int .i64 0) := (YI BK520.out 3).trans rfl; have q41_4 : w38.cell? ⟨gb520, 4, none⟩ = some (.int .i64 0) := (YI BK520.out 4).trans rfl; have q41_5 : w38.cell? ⟨gb520, 5, none⟩ = some (.int .i64 0) := (YI BK520.out 5).trans rfl; have q41_6 : w38.cell? ⟨gb520, 6, none⟩ = some (.int .i64 0) := (YI BK520.out 6).trans rfl; have q41_7 : w38.cell? ⟨gb520, 7, none⟩ = some (.int .i64 0) := (YI BK520.out 7).trans rfl; have q41_8 : w38.cell? ⟨gb520, 8, none⟩ = some (.int .i64 0) := (YI BK520.out 8).trans rfl; have q41_9 : w38.cell? ⟨gb520, 9, none⟩ = some (.int .i64 0) := (YI BK520.out 9).trans rfl; have q41_10 : w38.cell? ⟨gb520, 10, none⟩ = some (.int .i64 0) := (YI BK520.out 10).trans rfl; have q41_11 : w38.cell? ⟨gb520, 11, none⟩ = some (.int .i64 0) := (YI BK520.out 11).trans rfl; have f41_0 := YJ BK520.out 0; have f41_1 := YJ BK520.out 1; have f41_2 := YJ BK520.out 2; have f41_3 := YJ BK520.out 3; have f41_4 := YJ BK520.out 4; have f41_5 := YJ BK520.out 5; have f41_6 := YJ BK520.out 6; have f41_7 := YJ BK520.out 7; have f41_8 := YJ BK520.out 8; have f41_9 := YJ BK520.out 9; have f41_10 := YJ BK520.out 10; have f41_11 := YJ BK520.out 11; have hnb42 := NB498_505.out; have hnc42 := NB505_498.out; have q43_0 : w38.cell? ⟨gb498, 0, none⟩ = some (.int .i64 x499000_1) := (YI BK498.out 0).trans rfl; have q43_1 : w38.cell? ⟨gb498, 1, none⟩ = some (.slice none 0 0) := (YI BK498.out 1).trans rfl; have f43_0 := YJ BK498.out 0; have f43_1 := YJ BK498.out 1))
      refine bodyPost_ret (results_ctt rfl _ _ gb498 24 #[.int .i64 0, .slice none 0 0] (0, 0) _ rfl (by (with_reducible repeat (first | refine YF ?_ _ | refine YG ?_ | refine YH ?_ _)); refine blk_put (cs := #[.int .i64 0, .slice none 0 0]) ?_ 1 _ rfl; (with_reducible repeat (first | refine YF ?_ _ | refine YG ?_ | refine YH ?_ _)); refine blk_put (cs := #[.int .i64 x499000_1, .slice none 0 0]) ?_ 0 _ rfl; (with_reducible repeat (first | refine YF ?_ _ | refine YG ?_ | refine YH ?_ _)); refine blk_far ?_ NB498_520.out _; (with_reducible repeat (first | refine YF ?_ _ | refine YG ?_ | refine YH ?_ _)); refine blk_far ?_ NB498_520.out _; (with_reducible repeat (first | refine YF ?_ _ | refine YG ?_ | refine YH ?_ _)); refine blk_far ?_ NB498_520.out _; (with_reducible repeat (first | refine YF ?_ _ | refine YG ?_ | refine YH ?_ _)); refine blk_far ?_ NB498_520.out _; (with_reducible repeat (first | refine YF ?_ _ | refine YG ?_ | refine YH ?_ _)); refine blk_far ?_ NB498_520.out _; (with_reducible repeat (first | refine YF ?_ _ | refine YG ?_ | refine YH ?_ _)); refine blk_far ?_ NB498_520.out _; (with_reducible repeat (first | refine YF ?_ _ | refine YG ?_ | refine YH ?_ _)); refine blk_far ?_ NB498_520.out _; (with_reducible repeat (first | refine YF ?_ _ | refine YG ?_ | refine YH ?_ _)); refine blk_far ?_ NB498_520.out _; (with_reducible repeat (first | refine YF ?_ _ | refine YG ?_ | refine YH ?_ _)); refine blk_far ?_ NB498_520.out _; (with_reducible repeat (first | refine YF ?_ _ | refine YG ?_ | refine YH ?_ _)); refine blk_far ?_ NB498_520.out _; (with_reducible repeat (first | refine YF ?_ _ | refine YG ?_ | refine YH ?_ _)); refine blk_far ?_ NB498_520.out _; (with_reducible repeat (first | refine YF ?_ _ | refine YG ?_ | refine YH ?_ _)); refine blk_far ?_ NB498_520.out _; (with_reducible repeat (first | refine YF ?_ _ | refine YG ?_ | refine YH ?_ _)); exact BK498.out) Try.underlying24 rfl (by kernel_rfl)) rfl ?_
      exact ⟨_, by first | rfl | (simp [errW_none, errW_some] <;> rfl) | (simp [*, errW_none, errW_some] <;> rfl), by first | exact Kd.R_nil _ _ _ _ _ | exact Kd.N_nil _ _ _ _ _ | exact Kd.V_nil _ _ _ _ _ | exact Kd.Q_nil _ _ _ _ _ | exact Kd.S_nil _ _ _ _ _, by repeat (first | (with_reducible first | exact HB.out | apply YA | apply YB | apply YC | refine below_set ?_ GE498.out | refine below_set ?_ GE505.out | refine below_set ?_ GE520.out) | exact HB.out)⟩
     rw [if_neg c23] at H; have c23b0 : decide (x48_1 < t502) = false := decide_eq_false c23; clear c23; replace H := Option.bind_eq_some_iff.mp H; obtain ⟨t524, A440, H⟩ := H
     replace H : (if t524 = 0 then (some (t499, x506001_1, x1_1, 0)) else (some (0, ([] : List (S45)), 0, 4))) = some (r1, r2, r3, r4) := H
     have A44 := YL A440; clear A440
     by_cases c45 : t524 = 0
     ·rw [if_pos c45] at H
      have c45b0 : (t524 == 0) = true := beq_iff_eq.mpr c45
      have c45b1 : (t524 != 0) = false := bne_eq_false_iff_eq.mpr c45
      clear c45
      simp only [Option.some.injEq, Prod.mk.injEq] at H
      obtain ⟨rfl, rfl, rfl, rfl⟩ := H
      have hnb46 := NB505_498.out
      have hnc46 := NB498_505.out
      have q47_0 : wr.cell? ⟨gb505, 0, none⟩ = some (.int .i64 t499) := (YI BK505.out 0).trans rfl
      have q47_1 : wr.cell? ⟨gb505, 1, none⟩ = some (u506001) := (YI BK505.out 1).trans rfl
      have f47_0 := YJ BK505.out 0
      have f47_1 := YJ BK505.out 1
      obtain ⟨Ao48, co48, eo48⟩ := Kd.R_slice HO_506001.out
      subst eo48
      go_wp2_with (first | ((with_reducible refine gate_callee (f := 12) rfl ?_); refine goesA (some 70) Try.func12 #[.agg #[.int .i64 t499, .slice Ao48 x506001_1.length co48]] ?_; (with_reducible refine (batch_Check.calls k1 t499 _ _ x506001_1 t524 _ ?side1 ?side2 A44.out).mono ?_); (case side1 => repeat (first | exact (Kd.R_reads' HO_506001.out).2.2 | (with_reducible refine Kd.C_alloc ?_ _) | (with_reducible refine Kd.C_drewN ?_ _) | (with_reducible refine Kd.C_drew ?_))); (case side2 => exact (Kd.R_reads' HO_506001.out).2.1); rintro e w49 ⟨rfl, hb⟩; refine ⟨_, rfl, ?_⟩; have n0_ := YL (YS (upR HO_506001) hb); have n1_ := YL (YK (g := gb498) (o := .cells #[.int .i64 x499000_1, .slice none 0 0] 24 (0, 0)) (upK BK498) hb); have n2_ := YL (YK (g := gb505) (o := .cells #[.int .i64 t499, .slice Ao48 x506001_1.length co48] 24 (0, 0)) (upK BK505) hb); have n3_ := YL (YD (upB HB) hb); clear HO_506001; clear BK498; clear BK505; clear HB; have HO_506001 := n0_; have BK498 := n1_; have BK505 := n2_; have HB := n3_; clear n0_ n1_ n2_ n3_; (try clear hb); (try clear hb2); (try clear hk); (try clear hi); have q50_0 : w49.cell? ⟨gb505, 0, none⟩ = some (.int .i64 t499) := (YI BK505.out 0).trans rfl; have q50_1 : w49.cell? ⟨gb505, 1, none⟩ = some (.slice Ao48 x506001_1.length co48) := (YI BK505.out 1).trans rfl; have f50_0 := YJ BK505.out 0; have f50_1 := YJ BK505.out 1; have q51_0 : w49.cell? ⟨gb498, 0, none⟩ = some (.int .i64 x499000_1) := (YI BK498.out 0).trans rfl; have q51_1 : w49.cell? ⟨gb498, 1, none⟩ = some (.slice none 0 0) := (YI BK498.out 1).trans rfl; have f51_0 := YJ BK498.out 0; have f51_1 := YJ BK498.out 1))
      refine bodyPost_ret (results_ctt rfl _ _ gb498 24 #[.int .i64 t499, .slice Ao48 x506001_1.length co48] (0, 0) _ rfl (by (with_reducible repeat (first | refine YF ?_ _ | refine YG ?_ | refine YH ?_ _)); refine blk_put (cs := #[.int .i64 t499, .slice none 0 0]) ?_ 1 _ rfl; (with_reducible repeat (first | refine YF ?_ _ | refine YG ?_ | refine YH ?_ _)); refine blk_put (cs := #[.int .i64 x499000_1, .slice none 0 0]) ?_ 0 _ rfl; (with_reducible repeat (first | refine YF ?_ _ | refine YG ?_ | refine YH ?_ _)); exact BK498.out) Try.underlying24 rfl (by kernel_rfl)) rfl ?_
      exact ⟨_, by first | rfl | (simp [errW_none, errW_some] <;> rfl) | (simp [*, errW_none, errW_some] <;> rfl), by (with_reducible repeat (first | apply YP | apply YQ | apply YR)); exact Kd.R_mono (Kd.R_far (p := ⟨gb498, 1, none⟩) (Kd.R_far (p := ⟨gb498, 0, none⟩) (Kd.R_types HO_506001.out BK498.out (by decide)) (fun _ hk => hk.2) (.int .i64 t499)) (fun _ hk => hk.2) (.slice Ao48 x506001_1.length co48)) (fun _ hk => trivial), by repeat (first | (with_reducible first | exact HB.out | apply YA | apply YB | apply YC | refine below_set ?_ GE498.out | refine below_set ?_ GE505.out) | exact HB.out)⟩
     rw [if_neg c45] at H
     have c45b0 : (t524 == 0) = false := beq_eq_false_iff_ne.mpr c45
     have c45b1 : (t524 != 0) = true := bne_iff_ne.mpr c45
     simp only [Option.some.injEq, Prod.mk.injEq] at H
     obtain ⟨rfl, rfl, rfl, rfl⟩ := H
     have hnb52 := NB505_498.out
     have hnc52 := NB498_505.out
     have q53_0 : wr.cell? ⟨gb505, 0, none⟩ = some (.int .i64 t499) := (YI BK505.out 0).trans rfl
     have q53_1 : wr.cell? ⟨gb505, 1, none⟩ = some (u506001) := (YI BK505.out 1).trans rfl
     have f53_0 := YJ BK505.out 0
     have f53_1 := YJ BK505.out 1
     obtain ⟨Ao54, co54, eo54⟩ := Kd.R_slice HO_506001.out
     subst eo54
     go_wp2_with (first | ((with_reducible refine gate_callee (f := 12) rfl ?_); refine goesA (some 70) Try.func12 #[.agg #[.int .i64 t499, .slice Ao54 x506001_1.length co54]] ?_; (with_reducible refine (batch_Check.calls k1 t499 _ _ x506001_1 t524 _ ?side1 ?side2 A44.out).mono ?_); (case side1 => repeat (first | exact (Kd.R_reads' HO_506001.out).2.2 | (with_reducible refine Kd.C_alloc ?_ _) | (with_reducible refine Kd.C_drewN ?_ _) | (with_reducible refine Kd.C_drew ?_))); (case side2 => exact (Kd.R_reads' HO_506001.out).2.1); rintro e w55 ⟨rfl, hb⟩; refine ⟨_, rfl, ?_⟩; have n0_ := YL (YS (upR HO_506001) hb); have n1_ := YL (YK (g := gb498) (o := .cells #[.int .i64 x499000_1, .slice none 0 0] 24 (0, 0)) (upK BK498) hb); have n2_ := YL (YK (g := gb505) (o := .cells #[.int .i64 t499, .slice Ao54 x506001_1.length co54] 24 (0, 0)) (upK BK505) hb); have n3_ := YL (YD (upB HB) hb); clear HO_506001; clear BK498; clear BK505; clear HB; have HO_506001 := n0_; have BK498 := n1_; have BK505 := n2_; have HB := n3_; clear n0_ n1_ n2_ n3_; (try clear hb); (try clear hb2); (try clear hk); (try clear hi); have q56_0 : w55.cell? ⟨gb498, 0, none⟩ = some (.int .i64 x499000_1) := (YI BK498.out 0).trans rfl; have q56_1 : w55.cell? ⟨gb498, 1, none⟩ = some (.slice none 0 0) := (YI BK498.out 1).trans rfl; have f56_0 := YJ BK498.out 0; have f56_1 := YJ BK498.out 1))
     refine bodyPost_ret (results_ctt rfl _ _ gb498 24 #[.int .i64 0, .slice none 0 0] (0, 0) _ rfl (by (with_reducible repeat (first | refine YF ?_ _ | refine YG ?_ | refine YH ?_ _)); refine blk_put (cs := #[.int .i64 0, .slice none 0 0]) ?_ 1 _ rfl; (with_reducible repeat (first | refine YF ?_ _ | refine YG ?_ | refine YH ?_ _)); refine blk_put (cs := #[.int .i64 x499000_1, .slice none 0 0]) ?_ 0 _ rfl; (with_reducible repeat (first | refine YF ?_ _ | refine YG ?_ | refine YH ?_ _)); exact BK498.out) Try.underlying24 rfl (by kernel_rfl)) rfl ?_
     exact ⟨_, by first | rfl | (simp [errW_none, errW_some] <;> rfl) | (simp [*, errW_none, errW_some] <;> rfl), by first | exact Kd.R_nil _ _ _ _ _ | exact Kd.N_nil _ _ _ _ _ | exact Kd.V_nil _ _ _ _ _ | exact Kd.Q_nil _ _ _ _ _ | exact Kd.S_nil _ _ _ _ _, by repeat (first | (with_reducible first | exact HB.out | apply YA | apply YB | apply YC | refine below_set ?_ GE498.out | refine below_set ?_ GE505.out) | exact HB.out)⟩
  rw [if_neg c6] at H
  have c6b0 : (t504 == 0) = false := beq_eq_false_iff_ne.mpr c6
  have c6b1 : (t504 != 0) = true := bne_iff_ne.mpr c6
  simp only [Option.some.injEq, Prod.mk.injEq] at H
  obtain ⟨rfl, rfl, rfl, rfl⟩ := H
  go_enter Try.func21, Try.ntmps21
  go_wp2_with (first | ((with_reducible refine gate_dst (N := 4) rfl ?_); refine box_event ?hg (N := 4) ?hd (cs := #[.int .i64 0, .slice none 0 0]) (t := 24) ?hr ?_; (case hd => rfl); (case hg => rfl); (case hr => first | (go_simp; done) | (go_simp; rfl)); intro gb498 hg w57 hbox hb; have n0_ := YL (YD (upB HB) hb); have n1_ := YL (hbox); have n2_ := YL ((by rw [hg]; exact (YE (upB HB)) : w.heap.size ≤ gb498)); have n3_ := YL ((by rw [hg]; exact (YE (upB HB)) : w.heap.size ≤ gb498)); clear HB; have HB := n0_; have BK498 := n1_; have GW498 := n2_; have GE498 := n3_; clear n0_ n1_ n2_ n3_; clear hb hbox hg) | ((with_reducible refine gate_callee (f := 32) rfl ?_); refine goesA (some 17) Try.func32 #[.slice A0 l0.length c0, .int .i64 a1, .int .i64 2] ?_; (with_reducible refine (wire_Get.calls _ _ l0 a1 2 t499 t500 t501 _ ?side1 ?side2 A3.out).mono ?_); (case side1 => repeat (first | exact (Kd.C_below HR0.out HB.out) | (with_reducible refine Kd.C_alloc ?_ _) | (with_reducible refine Kd.C_drewN ?_ _) | (with_reducible refine Kd.C_drew ?_))); (case side2 => exact HC0.out); rintro e w58 ⟨rfl, hb⟩; refine ⟨_, rfl, ?_⟩; have n0_ := YL (YK (g := gb498) (o := .cells #[.int .i64 0, .slice none 0 0] 24 (0, 0)) (upK BK498) hb); have n1_ := YL (YD (upB HB) hb); clear BK498; clear HB; have BK498 := n0_; have HB := n1_; clear n0_ n1_; (try clear hb); (try clear hb2); (try clear hk); (try clear hi)) | ((with_reducible refine gate_callee (f := 32) rfl ?_); refine goesA (some 28) Try.func32 #[.slice A0 l0.length c0, .int .i64 t500, .int .i64 1] ?_; (with_reducible refine (wire_Get.calls _ _ l0 t500 1 t502 t503 t504 _ ?side1 ?side2 A5.out).mono ?_); (case side1 => repeat (first | exact (Kd.C_below HR0.out HB.out) | (with_reducible refine Kd.C_alloc ?_ _) | (with_reducible refine Kd.C_drewN ?_ _) | (with_reducible refine Kd.C_drew ?_))); (case side2 => exact HC0.out); rintro e w59 ⟨rfl, hb⟩; refine ⟨_, rfl, ?_⟩; have n0_ := YL (YK (g := gb498) (o := .cells #[.int .i64 0, .slice none 0 0] 24 (0, 0)) (upK BK498) hb); have n1_ := YL (YD (upB HB) hb); clear BK498; clear HB; have BK498 := n0_; have HB := n1_; clear n0_ n1_; (try clear hb); (try clear hb2); (try clear hk); (try clear hi); have q60_0 : w59.cell? ⟨gb498, 0, none⟩ = some (.int .i64 0) := (YI BK498.out 0).trans rfl; have q60_1 : w59.cell? ⟨gb498, 1, none⟩ = some (.slice none 0 0) := (YI BK498.out 1).trans rfl; have f60_0 := YJ BK498.out 0; have f60_1 := YJ BK498.out 1))
  refine bodyPost_ret (results_ctt rfl _ _ gb498 24 #[.int .i64 0, .slice none 0 0] (0, 0) _ rfl (by (with_reducible repeat (first | refine YF ?_ _ | refine YG ?_ | refine YH ?_ _)); refine blk_put (cs := #[.int .i64 0, .slice none 0 0]) ?_ 1 _ rfl; (with_reducible repeat (first | refine YF ?_ _ | refine YG ?_ | refine YH ?_ _)); refine blk_put (cs := #[.int .i64 0, .slice none 0 0]) ?_ 0 _ rfl; (with_reducible repeat (first | refine YF ?_ _ | refine YG ?_ | refine YH ?_ _)); exact BK498.out) Try.underlying24 rfl (by kernel_rfl)) rfl ?_
  exact ⟨_, by first | rfl | (simp [errW_none, errW_some] <;> rfl) | (simp [*, errW_none, errW_some] <;> rfl), by first | exact Kd.R_nil _ _ _ _ _ | exact Kd.N_nil _ _ _ _ _ | exact Kd.V_nil _ _ _ _ _ | exact Kd.Q_nil _ _ _ _ _ | exact Kd.S_nil _ _ _ _ _, by repeat (first | (with_reducible first | exact HB.out | apply YA | apply YB | apply YC | refine below_set ?_ GE498.out) | exact HB.out)⟩
 rw [if_neg c4] at H
 have c4b0 : (t501 == 0) = false := beq_eq_false_iff_ne.mpr c4
 have c4b1 : (t501 != 0) = true := bne_iff_ne.mpr c4
 simp only [Option.some.injEq, Prod.mk.injEq] at H
 obtain ⟨rfl, rfl, rfl, rfl⟩ := H
 go_enter Try.func21, Try.ntmps21
 go_wp2_with (first | ((with_reducible refine gate_dst (N := 4) rfl ?_); refine box_event ?hg (N := 4) ?hd (cs := #[.int .i64 0, .slice none 0 0]) (t := 24) ?hr ?_; (case hd => rfl); (case hg => rfl); (case hr => first | (go_simp; done) | (go_simp; rfl)); intro gb498 hg w61 hbox hb; have n0_ := YL (YD (upB HB) hb); have n1_ := YL (hbox); have n2_ := YL ((by rw [hg]; exact (YE (upB HB)) : w.heap.size ≤ gb498)); have n3_ := YL ((by rw [hg]; exact (YE (upB HB)) : w.heap.size ≤ gb498)); clear HB; have HB := n0_; have BK498 := n1_; have GW498 := n2_; have GE498 := n3_; clear n0_ n1_ n2_ n3_; clear hb hbox hg) | ((with_reducible refine gate_callee (f := 32) rfl ?_); refine goesA (some 17) Try.func32 #[.slice A0 l0.length c0, .int .i64 a1, .int .i64 2] ?_; (with_reducible refine (wire_Get.calls _ _ l0 a1 2 t499 t500 t501 _ ?side1 ?side2 A3.out).mono ?_); (case side1 => repeat (first | exact (Kd.C_below HR0.out HB.out) | (with_reducible refine Kd.C_alloc ?_ _) | (with_reducible refine Kd.C_drewN ?_ _) | (with_reducible refine Kd.C_drew ?_))); (case side2 => exact HC0.out); rintro e w62 ⟨rfl, hb⟩; refine ⟨_, rfl, ?_⟩; have n0_ := YL (YK (g := gb498) (o := .cells #[.int .i64 0, .slice none 0 0] 24 (0, 0)) (upK BK498) hb); have n1_ := YL (YD (upB HB) hb); clear BK498; clear HB; have BK498 := n0_; have HB := n1_; clear n0_ n1_; (try clear hb); (try clear hb2); (try clear hk); (try clear hi); have q63_0 : w62.cell? ⟨gb498, 0, none⟩ = some (.int .i64 0) := (YI BK498.out 0).trans rfl; have q63_1 : w62.cell? ⟨gb498, 1, none⟩ = some (.slice none 0 0) := (YI BK498.out 1).trans rfl; have f63_0 := YJ BK498.out 0; have f63_1 := YJ BK498.out 1))
 refine bodyPost_ret (results_ctt rfl _ _ gb498 24 #[.int .i64 0, .slice none 0 0] (0, 0) _ rfl (by (with_reducible repeat (first | refine YF ?_ _ | refine YG ?_ | refine YH ?_ _)); refine blk_put (cs := #[.int .i64 0, .slice none 0 0]) ?_ 1 _ rfl; (with_reducible repeat (first | refine YF ?_ _ | refine YG ?_ | refine YH ?_ _)); refine blk_put (cs := #[.int .i64 0, .slice none 0 0]) ?_ 0 _ rfl; (with_reducible repeat (first | refine YF ?_ _ | refine YG ?_ | refine YH ?_ _)); exact BK498.out) Try.underlying24 rfl (by kernel_rfl)) rfl ?_
 exact ⟨_, by first | rfl | (simp [errW_none, errW_some] <;> rfl) | (simp [*, errW_none, errW_some] <;> rfl), by first | exact Kd.R_nil _ _ _ _ _ | exact Kd.N_nil _ _ _ _ _ | exact Kd.V_nil _ _ _ _ _ | exact Kd.Q_nil _ _ _ _ _ | exact Kd.S_nil _ _ _ _ _, by repeat (first | (with_reducible first | exact HB.out | apply YA | apply YB | apply YC | refine below_set ?_ GE498.out) | exact HB.out)⟩
end Go.Proofs.Ytfigbjjaffkidaa.P
