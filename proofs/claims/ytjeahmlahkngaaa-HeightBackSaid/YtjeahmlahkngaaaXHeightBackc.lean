/- The statement HeightBack, proved of the given program; it has no conditions. (Of many texts laid together) -/
import Derived.Test.YtjeahmlahkngaaaXHeightBacka
import Derived.Test.YtjeahmlahkngaaaXHeightBackb
set_option linter.unusedVariables false
set_option linter.unusedSimpArgs false
namespace Go.Proofs.Ytjeahmlahkngaaa.P
open Go.RowKit Go.Proofs.YtjeahmlahkngaaaW.PrintWords Go.Proofs.YtjeahmlahkngaaaW.PrintLast Go.Proofs.YtjeahmlahkngaaaW.PrintMore
attribute [local go_sem] max2_int min2_int max_two min_two max_three min_three max_four min_four
abbrev HP := Bool × Int × Int × Int × Int × Int × Int × Int
def hpNo (e : Int) : HP := (false, 0, 0, 0, 0, 0, 0, e)
def hpFin (n : Bool) (a b c d : Int) (i : Int × Int × Int) : HP :=
  if i.2.2 = 0 then (if RH n a b c d i.1 then (n, a, b, c, d, i.1, i.2.1, 0) else hpNo 4) else hpNo i.2.2
def hpErr (k e : Int) : Int := if e = 0 then (if 1 < k then 4 else 0) else e
def hpGo (l : List Int) (a : Int) : HP :=
  if (rd1 l 1 a 0).1 = 0 then hpFin true 0 0 0 0 (rd1 l 1 (rd1 l 1 a 0).2.1 (hpErr (rd1 l 1 a 0).1 (rd1 l 1 a 0).2.2))
  else
    let t := rd8 l (rd1 l 1 a 0).2.1 (hpErr (rd1 l 1 a 0).1 (rd1 l 1 a 0).2.2)
    let o := rd1 l 1 t.2.1 t.2.2
    let r := rd1 l 1 o.2.1 o.2.2
    let d := rd8 l r.2.1 r.2.2
    hpFin false t.1 o.1 r.1 d.1 (rd1 l 1 d.2.1 d.2.2)
def height_Parse.f (l : List Int) (a : Int) : Option HP := if l.length ≤ 1000000000000 ∧ ∀ x ∈ l, 0 ≤ x ∧ x ≤ 255 then some (hpGo l a) else none
structure HpSt (w0 w : World) (A : Option Addr) (n c g4 g9 gr : Nat) (at_ e : Int) (cs : Array Value) : Prop where
  b4 : w.heap[g4]? = some (.cells #[.bool false, .int .i64 0, .int .i64 0, .int .i64 0, .int .i64 0, .int .i64 0] 23 (0, 0))
  b9 : w.heap[g9]? = some (.cells cs 23 (0, 0))
  br : w.heap[gr]? = some (.cells (RdC A n c at_ e) 67 (0, 0))
  bl : Below w0.heap.size w0 w
  n4 : w0.heap.size ≤ g4
  n9 : w0.heap.size ≤ g9
  nr : w0.heap.size ≤ gr
  d49 : g4 ≠ g9
theorem HpSt.step {w0 w w' : World} {A : Option Addr} {n c g4 g9 gr : Nat} {at_ e : Int} {cs : Array Value} (h : HpSt w0 w A n c g4 g9 gr at_ e cs) {at2 e2 : Int} (hb : w'.heap[gr]? = some (.cells (RdC A n c at2 e2) 67 (0, 0))) (hg : w.grownBy w' (some gr)) : HpSt w0 w' A n c g4 g9 gr at2 e2 cs :=
  ⟨blk_grown h.b4 hg (fun e => blk_ne h.b4 h.br (by decide) (Option.some.inj e)), blk_grown h.b9 hg (fun e => blk_ne h.b9 h.br (by decide) (Option.some.inj e)), hb, pw_below_grown h.bl (some gr) (below_size h.bl) hg (fun k e => by cases e; exact h.nr), h.n4, h.n9, h.nr, h.d49⟩
theorem HpSt.below {w0 w w' : World} {A : Option Addr} {n c g4 g9 gr : Nat} {at_ e : Int} {cs : Array Value} (h : HpSt w0 w A n c g4 g9 gr at_ e cs) (hb : Below w.heap.size w w') : HpSt w0 w' A n c g4 g9 gr at_ e cs :=
  ⟨blk_below h.b4 hb, blk_below h.b9 hb, blk_below h.br hb, below_step h.bl hb, h.n4, h.n9, h.nr, h.d49⟩
theorem HpSt.put {w0 w : World} {A : Option Addr} {n c g4 g9 gr : Nat} {at_ e : Int} {cs cs2 : Array Value} (h : HpSt w0 w A n c g4 g9 gr at_ e cs) (i : Nat) (u : Value) (hs : cs.setIfInBounds i u = cs2) : HpSt w0 (w.setCell ⟨g9, i, none⟩ u) A n c g4 g9 gr at_ e cs2 :=
  ⟨blk_far h.b4 h.d49 _, blk_put h.b9 i _ hs, blk_far h.br (blk_ne h.br h.b9 (by decide)) _, below_set h.bl h.n9, h.n4, h.n9, h.nr, h.d49⟩
theorem HpSt.err {w0 w : World} {A : Option Addr} {n c g4 g9 gr : Nat} {at_ e : Int} {cs : Array Value} (h : HpSt w0 w A n c g4 g9 gr at_ e cs) (e2 : Int) : HpSt w0 (w.setCell ⟨gr, 2, none⟩ (.int .i64 e2)) A n c g4 g9 gr at_ e2 cs :=
  ⟨blk_far h.b4 (blk_ne h.b4 h.br (by decide)) _, blk_far h.b9 (blk_ne h.b9 h.br (by decide)) _, blk_put h.br 2 _ rfl, below_set h.bl h.nr, h.n4, h.n9, h.nr, h.d49⟩
theorem HpSt.drew {w0 w : World} {A : Option Addr} {n c g4 g9 gr : Nat} {at_ e : Int} {cs : Array Value} (h : HpSt w0 w A n c g4 g9 gr at_ e cs) : HpSt w0 w.drew A n c g4 g9 gr at_ e cs :=
  ⟨h.b4, h.b9, h.br, below_drew h.bl, h.n4, h.n9, h.nr, h.d49⟩
def height_Parse.T12 : Bool × List (List Nat × List Nat) := (true, [([], []), ([], []), ([1], [1]), ([2], [2]), ([3], [3]), ([0, 0], [0]), ([5, 0, 5], []), ([4, 6, 0, 1, 2, 3, 4, 5, 6], [4])])
def height_Parse.B12 : List Nat := [0, 0, 2, 6, 14, 1, 33, 127]
theorem height_Parse.tab12 : rtab .any (opsOf Try.f27 12) = height_Parse.T12 := by kernel_rfl
theorem height_Parse.bits12 : waitsOk height_Parse.T12.2 height_Parse.B12 = true := by kernel_rfl
def height_Parse.T13 : Bool × List (List Nat × List Nat) := (true, [([], []), ([], []), ([1], [1]), ([2], [2]), ([3], [3]), ([0, 0], [0]), ([4, 5, 0, 1, 2, 3, 4, 5], [4]), ([6, 0, 1, 2, 3, 4, 5, 6], [])])
def height_Parse.B13 : List Nat := [0, 0, 2, 6, 14, 1, 63, 127]
theorem height_Parse.tab13 : rtab .any (opsOf Try.f27 13) = height_Parse.T13 := by kernel_rfl
theorem height_Parse.bits13 : waitsOk height_Parse.T13.2 height_Parse.B13 = true := by kernel_rfl
set_option maxHeartbeats 8000000 in
set_option maxRecDepth 100000 in
theorem hp_bad (A0 : Option Addr) (c0 : Nat) (l0 : List Int) (a1 : Int) (w : World) (k p1 e1 i pi ei : Int) (HL : l0.length ≤ 1000000000000) (HY : Bytes l0) (HR0 : Kd.C (Kd.int .u8) w A0 l0.length l0) (HC0 : l0.length ≤ c0) (HG1 : rd1 l0 1 a1 0 = (k, p1, e1)) (hk : k = 0) (he : ¬ e1 = 0) (HGi : rd1 l0 1 p1 e1 = (i, pi, ei)) (hf : ¬ ei = 0) :
    Calls Try.prog 27 #[.slice A0 l0.length c0, .int .i64 a1] w fun e w' => e = .returned (.tuple #[.agg #[.bool false, .int .i64 0, .int .i64 0, .int .i64 0, .int .i64 0, .int .i64 0], .int .i64 0, .int .i64 ei]) ∧ Below w.heap.size w w' := by
  have hu23 := Try.underlying23
  have hu67 := Try.underlying67
  replace HL := Aside0.mk HL
  replace HY := Aside0.mk HY
  replace HR0 := Aside0.mk HR0
  replace HC0 := Aside0.mk HC0
  replace HG1 := Aside0.mk HG1
  replace HGi := Aside0.mk HGi
  subst hk
  have b1 : (e1 == 0) = false := beq_eq_false_iff_ne.mpr he
  clear he
  have b4 : (ei == 0) = false := beq_eq_false_iff_ne.mpr hf
  have b5 : (ei != 0) = true := bne_iff_ne.mpr hf
  clear hf
  go_enter Try.func27, Try.ntmps27
  go_upto_region 4 with (first
    | ((with_reducible refine gate_dst (N := 4) rfl ?_); refine box_event ?hg (N := 4) ?hd (cs := #[.bool false, .int .i64 0, .int .i64 0, .int .i64 0, .int .i64 0, .int .i64 0]) (t := 23) ?hr ?_; (case hd => rfl); (case hg => rfl); (case hr => first | (go_simp; done) | (go_simp; rfl)); intro g4 hg w4 hbox hb; have HB4 := Aside0.mk hb; have G4 := Aside0.mk (Nat.le_of_eq hg.symm); have B4 := Aside0.mk hbox; clear hb hbox hg)
    | ((with_reducible refine gate_dst (N := 13) rfl ?_); refine box_event ?hg (N := 13) ?hd (cs := RdC A0 l0.length c0 a1 0) (t := 67) ?hr ?_; (case hd => rfl); (case hg => rfl); (case hr => first | (go_simp; done) | (go_simp; rfl)); intro gr hg w5 hbox hb; have HB5 := Aside0.mk (below_step HB4.out hb); have GR := Aside0.mk (show w.heap.size ≤ gr by rw [hg]; exact below_size HB4.out); have B45 := Aside0.mk (blk_below B4.out hb); have BR := Aside0.mk hbox; clear hb hbox hg HB4 B4)
    | ((with_reducible refine gate_dst (N := 15) rfl ?_); refine goesL_ (some 15) rfl rfl Try.func39 (by kernel_rfl) rfl #[.pointer (some ⟨gr, 0, none⟩)] rfl (by (try simp only [List.map_toArray, List.map_cons, List.map_nil]); first | done | rfl) ?_; (with_reducible refine (hr_oneG gr A0 c0 l0 a1 0 _ _ _ _ HG1.out HY.out HL.out (Kd.C_below HR0.out HB5.out) HC0.out BR.out).mono ?_); rintro x_ w6 ⟨rfl, hbx, hgr⟩; refine ⟨_, rfl, ?_⟩; have HB6 := Aside0.mk (pw_below_grown HB5.out (some gr) (below_size HB5.out) hgr (fun k_ e_ => by cases e_; exact GR.out)); have B46 := Aside0.mk (blk_grown B45.out hgr (fun e_ => blk_ne B45.out BR.out (by decide) (Option.some.inj e_))); have BR6 := Aside0.mk hbx; clear hbx hgr HB5 B45 BR)
    | ((with_reducible refine gate_dst (N := 9) rfl ?_); refine box_event ?hg (N := 9) ?hd (cs := #[.bool false, .int .i64 0, .int .i64 0, .int .i64 0, .int .i64 0, .int .i64 0]) (t := 23) ?hr ?_; (case hd => rfl); (case hg => rfl); (case hr => first | (go_simp; done) | (go_simp; rfl)); intro g9 hg w7 hbox hb; have ST0 := Aside0.mk (HpSt.mk (blk_below B46.out hb) hbox (blk_below BR6.out hb) (below_step HB6.out hb) G4.out (by rw [hg]; exact below_size HB6.out) GR.out (by rw [hg]; exact Nat.ne_of_lt (blk_lt B46.out))); clear hb hbox hg; have u0 : w7.cell? ⟨g9, 0, none⟩ = some (.bool false) := (blk_cell ST0.out.b9 0).trans rfl; have uf0 := blk_frozen ST0.out.b9 0; have u1 : w7.cell? ⟨g9, 1, none⟩ = some (.int .i64 0) := (blk_cell ST0.out.b9 1).trans rfl; have uf1 := blk_frozen ST0.out.b9 1; have u2 : w7.cell? ⟨g9, 2, none⟩ = some (.int .i64 0) := (blk_cell ST0.out.b9 2).trans rfl; have uf2 := blk_frozen ST0.out.b9 2; have u3 : w7.cell? ⟨g9, 3, none⟩ = some (.int .i64 0) := (blk_cell ST0.out.b9 3).trans rfl; have uf3 := blk_frozen ST0.out.b9 3; have u4 : w7.cell? ⟨g9, 4, none⟩ = some (.int .i64 0) := (blk_cell ST0.out.b9 4).trans rfl; have uf4 := blk_frozen ST0.out.b9 4; have u5 : w7.cell? ⟨g9, 5, none⟩ = some (.int .i64 0) := (blk_cell ST0.out.b9 5).trans rfl; have uf5 := blk_frozen ST0.out.b9 5))
  have ST := Aside0.mk (show HpSt w ((((((w7.setCell ⟨g9, 0, none⟩ (.bool true)).setCell ⟨g9, 1, none⟩ (.int .i64 0)).setCell ⟨g9, 2, none⟩ (.int .i64 0)).setCell ⟨g9, 3, none⟩ (.int .i64 0)).setCell ⟨g9, 4, none⟩ (.int .i64 0)).setCell ⟨g9, 5, none⟩ (.int .i64 0)) A0 l0.length c0 g4 g9 gr p1 e1 #[.bool true, .int .i64 0, .int .i64 0, .int .i64 0, .int .i64 0, .int .i64 0] from (HpSt.put (HpSt.put (HpSt.put (HpSt.put (HpSt.put (HpSt.put ST0.out 0 (.bool true) rfl) 1 (.int .i64 0) rfl) 2 (.int .i64 0) rfl) 3 (.int .i64 0) rfl) 4 (.int .i64 0) rfl) 5 (.int .i64 0) rfl))
  generalize ((((((w7.setCell ⟨g9, 0, none⟩ (.bool true)).setCell ⟨g9, 1, none⟩ (.int .i64 0)).setCell ⟨g9, 2, none⟩ (.int .i64 0)).setCell ⟨g9, 3, none⟩ (.int .i64 0)).setCell ⟨g9, 4, none⟩ (.int .i64 0)).setCell ⟨g9, 5, none⟩ (.int .i64 0)) = wq at ST ⊢
  clear ST0 u0 uf0 u1 uf1 u2 uf2 u3 uf3 u4 uf4 u5 uf5
  have v0 : wq.cell? ⟨gr, 0, none⟩ = some (.slice A0 l0.length c0) := (blk_cell ST.out.br 0).trans rfl
  have vf0 := blk_frozen ST.out.br 0
  have v1 : wq.cell? ⟨gr, 1, none⟩ = some (.int .i64 p1) := (blk_cell ST.out.br 1).trans rfl
  have vf1 := blk_frozen ST.out.br 1
  have v2 : wq.cell? ⟨gr, 2, none⟩ = some (.int .i64 e1) := (blk_cell ST.out.br 2).trans rfl
  have vf2 := blk_frozen ST.out.br 2
  have y0 : wq.cell? ⟨g9, 0, none⟩ = some (.bool true) := (blk_cell ST.out.b9 0).trans rfl
  have yf0 := blk_frozen ST.out.b9 0
  have y1 : wq.cell? ⟨g9, 1, none⟩ = some (.int .i64 0) := (blk_cell ST.out.b9 1).trans rfl
  have yf1 := blk_frozen ST.out.b9 1
  have y2 : wq.cell? ⟨g9, 2, none⟩ = some (.int .i64 0) := (blk_cell ST.out.b9 2).trans rfl
  have yf2 := blk_frozen ST.out.b9 2
  have y3 : wq.cell? ⟨g9, 3, none⟩ = some (.int .i64 0) := (blk_cell ST.out.b9 3).trans rfl
  have yf3 := blk_frozen ST.out.b9 3
  have y4 : wq.cell? ⟨g9, 4, none⟩ = some (.int .i64 0) := (blk_cell ST.out.b9 4).trans rfl
  have yf4 := blk_frozen ST.out.b9 4
  have y5 : wq.cell? ⟨g9, 5, none⟩ = some (.int .i64 0) := (blk_cell ST.out.b9 5).trans rfl
  have yf5 := blk_frozen ST.out.b9 5
  go_upto_region 9 with (first
    | ((with_reducible refine gate_dst (N := 47) rfl ?_); refine goesL_ (some 47) rfl rfl Try.func39 (by kernel_rfl) rfl #[.pointer (some ⟨gr, 0, none⟩)] rfl (by (try simp only [List.map_toArray, List.map_cons, List.map_nil]); first | done | rfl) ?_; (with_reducible refine (hr_oneG gr A0 c0 l0 p1 e1 _ _ _ _ HGi.out HY.out HL.out (Kd.C_below HR0.out ST.out.bl) HC0.out ST.out.br).mono ?_); rintro x_ w47 ⟨rfl, hbx, hgr⟩; refine ⟨_, rfl, ?_⟩; have STn := Aside0.mk (ST.out.step hbx hgr); clear ST hbx hgr; have ST := STn; clear STn; have x0 : w47.cell? ⟨g9, 0, none⟩ = some (.bool true) := (blk_cell ST.out.b9 0).trans rfl; have xf0 := blk_frozen ST.out.b9 0; have x1 : w47.cell? ⟨g9, 1, none⟩ = some (.int .i64 0) := (blk_cell ST.out.b9 1).trans rfl; have xf1 := blk_frozen ST.out.b9 1; have x2 : w47.cell? ⟨g9, 2, none⟩ = some (.int .i64 0) := (blk_cell ST.out.b9 2).trans rfl; have xf2 := blk_frozen ST.out.b9 2; have x3 : w47.cell? ⟨g9, 3, none⟩ = some (.int .i64 0) := (blk_cell ST.out.b9 3).trans rfl; have xf3 := blk_frozen ST.out.b9 3; have x4 : w47.cell? ⟨g9, 4, none⟩ = some (.int .i64 0) := (blk_cell ST.out.b9 4).trans rfl; have xf4 := blk_frozen ST.out.b9 4; have x5 : w47.cell? ⟨g9, 5, none⟩ = some (.int .i64 0) := (blk_cell ST.out.b9 5).trans rfl; have xf5 := blk_frozen ST.out.b9 5))
  have STn := Aside0.mk (HpSt.put ST.out 5 (.int .i64 i) (cs2 := #[.bool true, .int .i64 0, .int .i64 0, .int .i64 0, .int .i64 0, .int .i64 i]) rfl)
  clear ST
  have ST := STn
  clear STn x0 xf0 x1 xf1 x2 xf2 x3 xf3 x4 xf4 x5 xf5
  clear v0 vf0 v1 vf1 v2 vf2
  clear y0 yf0 y1 yf1 y2 yf2 y3 yf3 y4 yf4 y5 yf5
  generalize (w47.setCell ⟨g9, 5, none⟩ (.int .i64 i)) = wr at ST ⊢
  have v0 : wr.cell? ⟨gr, 0, none⟩ = some (.slice A0 l0.length c0) := (blk_cell ST.out.br 0).trans rfl
  have vf0 := blk_frozen ST.out.br 0
  have v1 : wr.cell? ⟨gr, 1, none⟩ = some (.int .i64 pi) := (blk_cell ST.out.br 1).trans rfl
  have vf1 := blk_frozen ST.out.br 1
  have v2 : wr.cell? ⟨gr, 2, none⟩ = some (.int .i64 ei) := (blk_cell ST.out.br 2).trans rfl
  have vf2 := blk_frozen ST.out.br 2
  have y0 : wr.cell? ⟨g9, 0, none⟩ = some (.bool true) := (blk_cell ST.out.b9 0).trans rfl
  have yf0 := blk_frozen ST.out.b9 0
  have y1 : wr.cell? ⟨g9, 1, none⟩ = some (.int .i64 0) := (blk_cell ST.out.b9 1).trans rfl
  have yf1 := blk_frozen ST.out.b9 1
  have y2 : wr.cell? ⟨g9, 2, none⟩ = some (.int .i64 0) := (blk_cell ST.out.b9 2).trans rfl
  have yf2 := blk_frozen ST.out.b9 2
  have y3 : wr.cell? ⟨g9, 3, none⟩ = some (.int .i64 0) := (blk_cell ST.out.b9 3).trans rfl
  have yf3 := blk_frozen ST.out.b9 3
  have y4 : wr.cell? ⟨g9, 4, none⟩ = some (.int .i64 0) := (blk_cell ST.out.b9 4).trans rfl
  have yf4 := blk_frozen ST.out.b9 4
  have y5 : wr.cell? ⟨g9, 5, none⟩ = some (.int .i64 i) := (blk_cell ST.out.b9 5).trans rfl
  have yf5 := blk_frozen ST.out.b9 5
  go_upto_region 12 with (fail)
  have STd := Aside0.mk (HpSt.drew ST.out)
  clear ST
  have ST := STd
  clear STd
  refine start_ (n := 8) (S := fun w' => w'.cell? ⟨gr, 2, none⟩ = some (.int .i64 ei)) (ds := []) #[false, false, false, false, false, false, false, false] (by kernel_rfl) rfl rfl ((blk_cell ST.out.br 2).trans rfl) (fun hHeld => ?_); refine with_tabW height_Parse.tab12 height_Parse.bits12 (fun HT_ HW_ => ?_)
  generalize wr.drew = wd at ST hHeld ⊢
  have o0 : wd.cell? ⟨g4, 0, none⟩ = some (.bool false) := (blk_cell ST.out.b4 0).trans rfl
  have of0 := blk_frozen ST.out.b4 0
  have o1 : wd.cell? ⟨g4, 1, none⟩ = some (.int .i64 0) := (blk_cell ST.out.b4 1).trans rfl
  have of1 := blk_frozen ST.out.b4 1
  have o2 : wd.cell? ⟨g4, 2, none⟩ = some (.int .i64 0) := (blk_cell ST.out.b4 2).trans rfl
  have of2 := blk_frozen ST.out.b4 2
  have o3 : wd.cell? ⟨g4, 3, none⟩ = some (.int .i64 0) := (blk_cell ST.out.b4 3).trans rfl
  have of3 := blk_frozen ST.out.b4 3
  have o4 : wd.cell? ⟨g4, 4, none⟩ = some (.int .i64 0) := (blk_cell ST.out.b4 4).trans rfl
  have of4 := blk_frozen ST.out.b4 4
  have o5 : wd.cell? ⟨g4, 5, none⟩ = some (.int .i64 0) := (blk_cell ST.out.b4 5).trans rfl
  have of5 := blk_frozen ST.out.b4 5
  have n94 : g9 ≠ g4 := ST.out.d49.symm
  have nr4 : gr ≠ g4 := (blk_ne ST.out.br ST.out.b4 (by decide))
  refine pure_ (i := 0) (N := some 67) (v := ?_) (a' := ?_) #[true, false, false, false, false, false, false, false] rfl rfl (any_of HT_.out (by kernel_rfl)) (fun _ _ _ h => h) (Or.inl ⟨by rfl, ?_⟩) ?_ ?_
  rotate_left
  · intro w'
    go_simp
    with_reducible rfl
  rotate_left
  · simp only [Act.put, List.setIfInBounds_toArray, List.set_cons_zero, List.set_cons_succ, i64_w, i32_w]
    rfl
  refine pure_ (i := 1) (N := some 68) (v := ?_) (a' := ?_) #[true, true, false, false, false, false, false, false] rfl rfl (any_of HT_.out (by kernel_rfl)) (fun _ _ _ h => h) (Or.inl ⟨by rfl, ?_⟩) ?_ ?_
  rotate_left
  · intro w'
    go_simp
    with_reducible rfl
  rotate_left
  · simp only [Act.put, List.setIfInBounds_toArray, List.set_cons_zero, List.set_cons_succ, i64_w, i32_w]
    rfl
  refine pure_ (i := 2) (N := some 69) (v := ?_) (a' := ?_) #[true, true, true, false, false, false, false, false] rfl rfl (any_of HT_.out (by kernel_rfl)) (fun _ _ _ h => h) (Or.inl ⟨by rfl, ?_⟩) ?_ ?_
  rotate_left
  · intro w'
    go_simp
    with_reducible rfl
  rotate_left
  · simp only [Act.put, List.setIfInBounds_toArray, List.set_cons_zero, List.set_cons_succ, i64_w, i32_w]
    rfl
  refine pure_ (i := 3) (N := some 70) (v := ?_) (a' := ?_) #[true, true, true, true, false, false, false, false] rfl rfl (any_of HT_.out (by kernel_rfl)) (fun _ _ _ h => h) (Or.inl ⟨by rfl, ?_⟩) ?_ ?_
  rotate_left
  · intro w'
    go_simp
    with_reducible rfl
  rotate_left
  · simp only [Act.put, List.setIfInBounds_toArray, List.set_cons_zero, List.set_cons_succ, i64_w, i32_w]
    rfl
  refine take_ (i := 4) (N := some 71) (v := ?_) (a' := ?_) #[true, true, true, true, true, false, false, false] rfl rfl (take_ofW HT_.out HW_.out (by kernel_rfl)) (fun _ _ _ h => h) (Or.inl ⟨by rfl, ?_⟩) hHeld ?_ ?_
  rotate_left
  · intro w' s0
    go_simp
    with_reducible rfl
  rotate_left
  · simp only [Act.put, List.setIfInBounds_toArray, List.set_cons_zero, List.set_cons_succ, i64_w, i32_w]
    rfl
  refine one_ (i := 5) (N := none) #[true, true, true, true, true, true, false, false] rfl rfl (one_of HT_.out (by kernel_rfl)) (by decide) (fun K hK => ?_)
  refine skip_ (w1 := ?_) (by rfl) rfl ?_ ?_
  rotate_left
  · go_simp
    rfl
  refine hK.out _ _ ?_ (fun hHeld2 => ?_)
  · (repeat (first | refine (cell_far n94 _).trans ?_ | refine (cell_far nr4 _).trans ?_)); exact hHeld
  clear hHeld
  have hHeld := hHeld2
  clear hHeld2
  clear hK K
  refine pure_ (i := 6) (N := some 5) (v := ?_) (a' := ?_) #[true, true, true, true, true, true, true, false] rfl rfl (any_of HT_.out (by kernel_rfl)) (fun _ _ _ h => h) (Or.inl ⟨by rfl, ?_⟩) ?_ ?_
  rotate_left
  · intro w'
    go_simp
    with_reducible rfl
  rotate_left
  · simp only [Act.put, List.setIfInBounds_toArray, List.set_cons_zero, List.set_cons_succ, i64_w, i32_w]
    rfl
  refine pure_ (i := 7) (N := some 6) (v := ?_) (a' := ?_) #[true, true, true, true, true, true, true, true] rfl rfl (any_of HT_.out (by kernel_rfl)) (fun _ _ _ h => h) (Or.inl ⟨by rfl, ?_⟩) ?_ ?_
  rotate_left
  · intro w'
    go_simp
    with_reducible rfl
  rotate_left
  · simp only [Act.put, List.setIfInBounds_toArray, List.set_cons_zero, List.set_cons_succ, i64_w, i32_w]
    rfl
  refine done_ (done_of HT_.out (by kernel_rfl)) ?_
  clear HT_ HW_
  try go_wp2
  refine bodyPost_ret (results_ctt rfl _ _ g4 23 #[.bool false, .int .i64 0, .int .i64 0, .int .i64 0, .int .i64 0, .int .i64 0] (0, 0) _ rfl (blk_put (blk_put (blk_put (blk_put (blk_put (blk_put ST.out.b4 0 (.bool false) (cs' := #[.bool false, .int .i64 0, .int .i64 0, .int .i64 0, .int .i64 0, .int .i64 0]) rfl) 1 (.int .i64 0) (cs' := #[.bool false, .int .i64 0, .int .i64 0, .int .i64 0, .int .i64 0, .int .i64 0]) rfl) 2 (.int .i64 0) (cs' := #[.bool false, .int .i64 0, .int .i64 0, .int .i64 0, .int .i64 0, .int .i64 0]) rfl) 3 (.int .i64 0) (cs' := #[.bool false, .int .i64 0, .int .i64 0, .int .i64 0, .int .i64 0, .int .i64 0]) rfl) 4 (.int .i64 0) (cs' := #[.bool false, .int .i64 0, .int .i64 0, .int .i64 0, .int .i64 0, .int .i64 0]) rfl) 5 (.int .i64 0) (cs' := #[.bool false, .int .i64 0, .int .i64 0, .int .i64 0, .int .i64 0, .int .i64 0]) rfl) Try.underlying23 rfl (by kernel_rfl)) rfl ?_
  exact ⟨rfl, (below_set (below_set (below_set (below_set (below_set (below_set ST.out.bl ST.out.n4) ST.out.n4) ST.out.n4) ST.out.n4) ST.out.n4) ST.out.n4)⟩
set_option maxHeartbeats 8000000 in
set_option maxRecDepth 100000 in
theorem hp_gt (A0 : Option Addr) (c0 : Nat) (l0 : List Int) (a1 : Int) (w : World) (k p1 e1 t pt et o po eo r pr er d pd ed i pi ei : Int) (HL : l0.length ≤ 1000000000000) (HY : Bytes l0) (HR0 : Kd.C (Kd.int .u8) w A0 l0.length l0) (HC0 : l0.length ≤ c0) (HG1 : rd1 l0 1 a1 0 = (k, p1, e1)) (he : e1 = 0) (hk : ¬ k = 0) (hg : 1 < k) (HGt : rd8 l0 p1 4 = (t, pt, et)) (HGo : rd1 l0 1 pt et = (o, po, eo)) (HGr : rd1 l0 1 po eo = (r, pr, er)) (HGd : rd8 l0 pr er = (d, pd, ed)) (HGi : rd1 l0 1 pd ed = (i, pi, ei)) (hf : ¬ ei = 0) :
    Calls Try.prog 27 #[.slice A0 l0.length c0, .int .i64 a1] w fun e w' => e = .returned (.tuple #[.agg #[.bool false, .int .i64 0, .int .i64 0, .int .i64 0, .int .i64 0, .int .i64 0], .int .i64 0, .int .i64 ei]) ∧ Below w.heap.size w w' := by
  have hu23 := Try.underlying23
  have hu67 := Try.underlying67
  replace HL := Aside0.mk HL
  replace HY := Aside0.mk HY
  replace HR0 := Aside0.mk HR0
  replace HC0 := Aside0.mk HC0
  replace HG1 := Aside0.mk HG1
  replace HGt := Aside0.mk HGt
  replace HGo := Aside0.mk HGo
  replace HGr := Aside0.mk HGr
  replace HGd := Aside0.mk HGd
  replace HGi := Aside0.mk HGi
  subst he
  have b2 : (k == 0) = false := beq_eq_false_iff_ne.mpr hk
  have b3 : decide (1 < k) = true := decide_eq_true hg
  clear hk hg
  have b4 : (ei == 0) = false := beq_eq_false_iff_ne.mpr hf
  have b5 : (ei != 0) = true := bne_iff_ne.mpr hf
  clear hf
  go_enter Try.func27, Try.ntmps27
  go_upto_region 4 with (first
    | ((with_reducible refine gate_dst (N := 4) rfl ?_); refine box_event ?hg (N := 4) ?hd (cs := #[.bool false, .int .i64 0, .int .i64 0, .int .i64 0, .int .i64 0, .int .i64 0]) (t := 23) ?hr ?_; (case hd => rfl); (case hg => rfl); (case hr => first | (go_simp; done) | (go_simp; rfl)); intro g4 hg w4 hbox hb; have HB4 := Aside0.mk hb; have G4 := Aside0.mk (Nat.le_of_eq hg.symm); have B4 := Aside0.mk hbox; clear hb hbox hg)
    | ((with_reducible refine gate_dst (N := 13) rfl ?_); refine box_event ?hg (N := 13) ?hd (cs := RdC A0 l0.length c0 a1 0) (t := 67) ?hr ?_; (case hd => rfl); (case hg => rfl); (case hr => first | (go_simp; done) | (go_simp; rfl)); intro gr hg w5 hbox hb; have HB5 := Aside0.mk (below_step HB4.out hb); have GR := Aside0.mk (show w.heap.size ≤ gr by rw [hg]; exact below_size HB4.out); have B45 := Aside0.mk (blk_below B4.out hb); have BR := Aside0.mk hbox; clear hb hbox hg HB4 B4)
    | ((with_reducible refine gate_dst (N := 15) rfl ?_); refine goesL_ (some 15) rfl rfl Try.func39 (by kernel_rfl) rfl #[.pointer (some ⟨gr, 0, none⟩)] rfl (by (try simp only [List.map_toArray, List.map_cons, List.map_nil]); first | done | rfl) ?_; (with_reducible refine (hr_oneG gr A0 c0 l0 a1 0 _ _ _ _ HG1.out HY.out HL.out (Kd.C_below HR0.out HB5.out) HC0.out BR.out).mono ?_); rintro x_ w6 ⟨rfl, hbx, hgr⟩; refine ⟨_, rfl, ?_⟩; have HB6 := Aside0.mk (pw_below_grown HB5.out (some gr) (below_size HB5.out) hgr (fun k_ e_ => by cases e_; exact GR.out)); have B46 := Aside0.mk (blk_grown B45.out hgr (fun e_ => blk_ne B45.out BR.out (by decide) (Option.some.inj e_))); have BR6 := Aside0.mk hbx; clear hbx hgr HB5 B45 BR)
    | ((with_reducible refine gate_dst (N := 9) rfl ?_); refine box_event ?hg (N := 9) ?hd (cs := #[.bool false, .int .i64 0, .int .i64 0, .int .i64 0, .int .i64 0, .int .i64 0]) (t := 23) ?hr ?_; (case hd => rfl); (case hg => rfl); (case hr => first | (go_simp; done) | (go_simp; rfl)); intro g9 hg w7 hbox hb; have ST0 := Aside0.mk (HpSt.mk (blk_below B46.out hb) hbox (blk_below BR6.out hb) (below_step HB6.out hb) G4.out (by rw [hg]; exact below_size HB6.out) GR.out (by rw [hg]; exact Nat.ne_of_lt (blk_lt B46.out))); clear hb hbox hg; have u0 : w7.cell? ⟨g9, 0, none⟩ = some (.bool false) := (blk_cell ST0.out.b9 0).trans rfl; have uf0 := blk_frozen ST0.out.b9 0; have u1 : w7.cell? ⟨g9, 1, none⟩ = some (.int .i64 0) := (blk_cell ST0.out.b9 1).trans rfl; have uf1 := blk_frozen ST0.out.b9 1; have u2 : w7.cell? ⟨g9, 2, none⟩ = some (.int .i64 0) := (blk_cell ST0.out.b9 2).trans rfl; have uf2 := blk_frozen ST0.out.b9 2; have u3 : w7.cell? ⟨g9, 3, none⟩ = some (.int .i64 0) := (blk_cell ST0.out.b9 3).trans rfl; have uf3 := blk_frozen ST0.out.b9 3; have u4 : w7.cell? ⟨g9, 4, none⟩ = some (.int .i64 0) := (blk_cell ST0.out.b9 4).trans rfl; have uf4 := blk_frozen ST0.out.b9 4; have u5 : w7.cell? ⟨g9, 5, none⟩ = some (.int .i64 0) := (blk_cell ST0.out.b9 5).trans rfl; have uf5 := blk_frozen ST0.out.b9 5))
  have ST := Aside0.mk (show HpSt w ((((((w7.setCell ⟨g9, 0, none⟩ (.bool false)).setCell ⟨g9, 1, none⟩ (.int .i64 0)).setCell ⟨g9, 2, none⟩ (.int .i64 0)).setCell ⟨g9, 3, none⟩ (.int .i64 0)).setCell ⟨g9, 4, none⟩ (.int .i64 0)).setCell ⟨g9, 5, none⟩ (.int .i64 0)) A0 l0.length c0 g4 g9 gr p1 0 #[.bool false, .int .i64 0, .int .i64 0, .int .i64 0, .int .i64 0, .int .i64 0] from (HpSt.put (HpSt.put (HpSt.put (HpSt.put (HpSt.put (HpSt.put ST0.out 0 (.bool false) rfl) 1 (.int .i64 0) rfl) 2 (.int .i64 0) rfl) 3 (.int .i64 0) rfl) 4 (.int .i64 0) rfl) 5 (.int .i64 0) rfl))
  generalize ((((((w7.setCell ⟨g9, 0, none⟩ (.bool false)).setCell ⟨g9, 1, none⟩ (.int .i64 0)).setCell ⟨g9, 2, none⟩ (.int .i64 0)).setCell ⟨g9, 3, none⟩ (.int .i64 0)).setCell ⟨g9, 4, none⟩ (.int .i64 0)).setCell ⟨g9, 5, none⟩ (.int .i64 0)) = wq at ST ⊢
  clear ST0 u0 uf0 u1 uf1 u2 uf2 u3 uf3 u4 uf4 u5 uf5
  have v0 : wq.cell? ⟨gr, 0, none⟩ = some (.slice A0 l0.length c0) := (blk_cell ST.out.br 0).trans rfl
  have vf0 := blk_frozen ST.out.br 0
  have v1 : wq.cell? ⟨gr, 1, none⟩ = some (.int .i64 p1) := (blk_cell ST.out.br 1).trans rfl
  have vf1 := blk_frozen ST.out.br 1
  have v2 : wq.cell? ⟨gr, 2, none⟩ = some (.int .i64 0) := (blk_cell ST.out.br 2).trans rfl
  have vf2 := blk_frozen ST.out.br 2
  have y0 : wq.cell? ⟨g9, 0, none⟩ = some (.bool false) := (blk_cell ST.out.b9 0).trans rfl
  have yf0 := blk_frozen ST.out.b9 0
  have y1 : wq.cell? ⟨g9, 1, none⟩ = some (.int .i64 0) := (blk_cell ST.out.b9 1).trans rfl
  have yf1 := blk_frozen ST.out.b9 1
  have y2 : wq.cell? ⟨g9, 2, none⟩ = some (.int .i64 0) := (blk_cell ST.out.b9 2).trans rfl
  have yf2 := blk_frozen ST.out.b9 2
  have y3 : wq.cell? ⟨g9, 3, none⟩ = some (.int .i64 0) := (blk_cell ST.out.b9 3).trans rfl
  have yf3 := blk_frozen ST.out.b9 3
  have y4 : wq.cell? ⟨g9, 4, none⟩ = some (.int .i64 0) := (blk_cell ST.out.b9 4).trans rfl
  have yf4 := blk_frozen ST.out.b9 4
  have y5 : wq.cell? ⟨g9, 5, none⟩ = some (.int .i64 0) := (blk_cell ST.out.b9 5).trans rfl
  have yf5 := blk_frozen ST.out.b9 5
  go_upto_region 6 with (fail)
  have STn := Aside0.mk (HpSt.err ST.out 4)
  clear ST
  have ST := STn
  clear STn
  clear v0 vf0 v1 vf1 v2 vf2 y0 yf0 y1 yf1 y2 yf2 y3 yf3 y4 yf4 y5 yf5
  generalize (wq.setCell ⟨gr, 2, none⟩ (.int .i64 4)) = wp at ST ⊢
  have y0 : wp.cell? ⟨g9, 0, none⟩ = some (.bool false) := (blk_cell ST.out.b9 0).trans rfl
  have yf0 := blk_frozen ST.out.b9 0
  have y1 : wp.cell? ⟨g9, 1, none⟩ = some (.int .i64 0) := (blk_cell ST.out.b9 1).trans rfl
  have yf1 := blk_frozen ST.out.b9 1
  have y2 : wp.cell? ⟨g9, 2, none⟩ = some (.int .i64 0) := (blk_cell ST.out.b9 2).trans rfl
  have yf2 := blk_frozen ST.out.b9 2
  have y3 : wp.cell? ⟨g9, 3, none⟩ = some (.int .i64 0) := (blk_cell ST.out.b9 3).trans rfl
  have yf3 := blk_frozen ST.out.b9 3
  have y4 : wp.cell? ⟨g9, 4, none⟩ = some (.int .i64 0) := (blk_cell ST.out.b9 4).trans rfl
  have yf4 := blk_frozen ST.out.b9 4
  have y5 : wp.cell? ⟨g9, 5, none⟩ = some (.int .i64 0) := (blk_cell ST.out.b9 5).trans rfl
  have yf5 := blk_frozen ST.out.b9 5
  go_upto_region 9 with (first
    | ((with_reducible refine gate_dst (N := 35) rfl ?_); refine goesL_ (some 35) rfl rfl Try.func40 (by kernel_rfl) rfl #[.pointer (some ⟨gr, 0, none⟩)] rfl (by (try simp only [List.map_toArray, List.map_cons, List.map_nil]); first | done | rfl) ?_; (with_reducible refine (hr_eightG gr A0 c0 l0 p1 4 _ _ _ _ HGt.out HY.out HL.out (Kd.C_below HR0.out ST.out.bl) HC0.out ST.out.br).mono ?_); rintro x_ w35 ⟨rfl, hbx, hgr⟩; refine ⟨_, rfl, ?_⟩; have STn := Aside0.mk (ST.out.step hbx hgr); clear ST hbx hgr; have ST := STn; clear STn)
    | ((with_reducible refine gate_dst (N := 37) rfl ?_); refine goesL_ (some 37) rfl rfl Try.func39 (by kernel_rfl) rfl #[.pointer (some ⟨gr, 0, none⟩)] rfl (by (try simp only [List.map_toArray, List.map_cons, List.map_nil]); first | done | rfl) ?_; (with_reducible refine (hr_oneG gr A0 c0 l0 pt et _ _ _ _ HGo.out HY.out HL.out (Kd.C_below HR0.out ST.out.bl) HC0.out ST.out.br).mono ?_); rintro x_ w37 ⟨rfl, hbx, hgr⟩; refine ⟨_, rfl, ?_⟩; have STn := Aside0.mk (ST.out.step hbx hgr); clear ST hbx hgr; have ST := STn; clear STn)
    | ((with_reducible refine gate_dst (N := 39) rfl ?_); refine goesL_ (some 39) rfl rfl Try.func39 (by kernel_rfl) rfl #[.pointer (some ⟨gr, 0, none⟩)] rfl (by (try simp only [List.map_toArray, List.map_cons, List.map_nil]); first | done | rfl) ?_; (with_reducible refine (hr_oneG gr A0 c0 l0 po eo _ _ _ _ HGr.out HY.out HL.out (Kd.C_below HR0.out ST.out.bl) HC0.out ST.out.br).mono ?_); rintro x_ w39 ⟨rfl, hbx, hgr⟩; refine ⟨_, rfl, ?_⟩; have STn := Aside0.mk (ST.out.step hbx hgr); clear ST hbx hgr; have ST := STn; clear STn)
    | ((with_reducible refine gate_dst (N := 41) rfl ?_); refine goesL_ (some 41) rfl rfl Try.func40 (by kernel_rfl) rfl #[.pointer (some ⟨gr, 0, none⟩)] rfl (by (try simp only [List.map_toArray, List.map_cons, List.map_nil]); first | done | rfl) ?_; (with_reducible refine (hr_eightG gr A0 c0 l0 pr er _ _ _ _ HGd.out HY.out HL.out (Kd.C_below HR0.out ST.out.bl) HC0.out ST.out.br).mono ?_); rintro x_ w41 ⟨rfl, hbx, hgr⟩; refine ⟨_, rfl, ?_⟩; have STn := Aside0.mk (ST.out.step hbx hgr); clear ST hbx hgr; have ST := STn; clear STn; have z0 : w41.cell? ⟨g9, 0, none⟩ = some (.bool false) := (blk_cell ST.out.b9 0).trans rfl; have zf0 := blk_frozen ST.out.b9 0; have z1 : w41.cell? ⟨g9, 1, none⟩ = some (.int .i64 0) := (blk_cell ST.out.b9 1).trans rfl; have zf1 := blk_frozen ST.out.b9 1; have z2 : w41.cell? ⟨g9, 2, none⟩ = some (.int .i64 0) := (blk_cell ST.out.b9 2).trans rfl; have zf2 := blk_frozen ST.out.b9 2; have z3 : w41.cell? ⟨g9, 3, none⟩ = some (.int .i64 0) := (blk_cell ST.out.b9 3).trans rfl; have zf3 := blk_frozen ST.out.b9 3; have z4 : w41.cell? ⟨g9, 4, none⟩ = some (.int .i64 0) := (blk_cell ST.out.b9 4).trans rfl; have zf4 := blk_frozen ST.out.b9 4; have z5 : w41.cell? ⟨g9, 5, none⟩ = some (.int .i64 0) := (blk_cell ST.out.b9 5).trans rfl; have zf5 := blk_frozen ST.out.b9 5)
    | ((with_reducible refine gate_dst (N := 47) rfl ?_); clear z0 zf0 z1 zf1 z2 zf2 z3 zf3 z4 zf4 z5 zf5; have STp := Aside0.mk (HpSt.put (HpSt.put (HpSt.put (HpSt.put ST.out 1 (.int .i64 t) rfl) 2 (.int .i64 o) rfl) 3 (.int .i64 r) rfl) 4 (.int .i64 d) rfl); clear ST; have ST := STp; clear STp; refine goesL_ (some 47) rfl rfl Try.func39 (by kernel_rfl) rfl #[.pointer (some ⟨gr, 0, none⟩)] rfl (by (try simp only [List.map_toArray, List.map_cons, List.map_nil]); first | done | rfl) ?_; (with_reducible refine (hr_oneG gr A0 c0 l0 pd ed _ _ _ _ HGi.out HY.out HL.out (Kd.C_below HR0.out ST.out.bl) HC0.out ST.out.br).mono ?_); rintro x_ w47 ⟨rfl, hbx, hgr⟩; refine ⟨_, rfl, ?_⟩; have STn := Aside0.mk (ST.out.step hbx hgr); clear ST hbx hgr; have ST := STn; clear STn; have x0 : w47.cell? ⟨g9, 0, none⟩ = some (.bool false) := (blk_cell ST.out.b9 0).trans rfl; have xf0 := blk_frozen ST.out.b9 0; have x1 : w47.cell? ⟨g9, 1, none⟩ = some (.int .i64 t) := (blk_cell ST.out.b9 1).trans rfl; have xf1 := blk_frozen ST.out.b9 1; have x2 : w47.cell? ⟨g9, 2, none⟩ = some (.int .i64 o) := (blk_cell ST.out.b9 2).trans rfl; have xf2 := blk_frozen ST.out.b9 2; have x3 : w47.cell? ⟨g9, 3, none⟩ = some (.int .i64 r) := (blk_cell ST.out.b9 3).trans rfl; have xf3 := blk_frozen ST.out.b9 3; have x4 : w47.cell? ⟨g9, 4, none⟩ = some (.int .i64 d) := (blk_cell ST.out.b9 4).trans rfl; have xf4 := blk_frozen ST.out.b9 4; have x5 : w47.cell? ⟨g9, 5, none⟩ = some (.int .i64 0) := (blk_cell ST.out.b9 5).trans rfl; have xf5 := blk_frozen ST.out.b9 5))
  have STn := Aside0.mk (HpSt.put ST.out 5 (.int .i64 i) (cs2 := #[.bool false, .int .i64 t, .int .i64 o, .int .i64 r, .int .i64 d, .int .i64 i]) rfl)
  clear ST
  have ST := STn
  clear STn x0 xf0 x1 xf1 x2 xf2 x3 xf3 x4 xf4 x5 xf5
  clear y0 yf0 y1 yf1 y2 yf2 y3 yf3 y4 yf4 y5 yf5
  generalize (w47.setCell ⟨g9, 5, none⟩ (.int .i64 i)) = wr at ST ⊢
  have v0 : wr.cell? ⟨gr, 0, none⟩ = some (.slice A0 l0.length c0) := (blk_cell ST.out.br 0).trans rfl
  have vf0 := blk_frozen ST.out.br 0
  have v1 : wr.cell? ⟨gr, 1, none⟩ = some (.int .i64 pi) := (blk_cell ST.out.br 1).trans rfl
  have vf1 := blk_frozen ST.out.br 1
  have v2 : wr.cell? ⟨gr, 2, none⟩ = some (.int .i64 ei) := (blk_cell ST.out.br 2).trans rfl
  have vf2 := blk_frozen ST.out.br 2
  have y0 : wr.cell? ⟨g9, 0, none⟩ = some (.bool false) := (blk_cell ST.out.b9 0).trans rfl
  have yf0 := blk_frozen ST.out.b9 0
  have y1 : wr.cell? ⟨g9, 1, none⟩ = some (.int .i64 t) := (blk_cell ST.out.b9 1).trans rfl
  have yf1 := blk_frozen ST.out.b9 1
  have y2 : wr.cell? ⟨g9, 2, none⟩ = some (.int .i64 o) := (blk_cell ST.out.b9 2).trans rfl
  have yf2 := blk_frozen ST.out.b9 2
  have y3 : wr.cell? ⟨g9, 3, none⟩ = some (.int .i64 r) := (blk_cell ST.out.b9 3).trans rfl
  have yf3 := blk_frozen ST.out.b9 3
  have y4 : wr.cell? ⟨g9, 4, none⟩ = some (.int .i64 d) := (blk_cell ST.out.b9 4).trans rfl
  have yf4 := blk_frozen ST.out.b9 4
  have y5 : wr.cell? ⟨g9, 5, none⟩ = some (.int .i64 i) := (blk_cell ST.out.b9 5).trans rfl
  have yf5 := blk_frozen ST.out.b9 5
  go_upto_region 12 with (fail)
  have STd := Aside0.mk (HpSt.drew ST.out)
  clear ST
  have ST := STd
  clear STd
  refine start_ (n := 8) (S := fun w' => w'.cell? ⟨gr, 2, none⟩ = some (.int .i64 ei)) (ds := []) #[false, false, false, false, false, false, false, false] (by kernel_rfl) rfl rfl ((blk_cell ST.out.br 2).trans rfl) (fun hHeld => ?_); refine with_tabW height_Parse.tab12 height_Parse.bits12 (fun HT_ HW_ => ?_)
  generalize wr.drew = wd at ST hHeld ⊢
  have o0 : wd.cell? ⟨g4, 0, none⟩ = some (.bool false) := (blk_cell ST.out.b4 0).trans rfl
  have of0 := blk_frozen ST.out.b4 0
  have o1 : wd.cell? ⟨g4, 1, none⟩ = some (.int .i64 0) := (blk_cell ST.out.b4 1).trans rfl
  have of1 := blk_frozen ST.out.b4 1
  have o2 : wd.cell? ⟨g4, 2, none⟩ = some (.int .i64 0) := (blk_cell ST.out.b4 2).trans rfl
  have of2 := blk_frozen ST.out.b4 2
  have o3 : wd.cell? ⟨g4, 3, none⟩ = some (.int .i64 0) := (blk_cell ST.out.b4 3).trans rfl
  have of3 := blk_frozen ST.out.b4 3
  have o4 : wd.cell? ⟨g4, 4, none⟩ = some (.int .i64 0) := (blk_cell ST.out.b4 4).trans rfl
  have of4 := blk_frozen ST.out.b4 4
  have o5 : wd.cell? ⟨g4, 5, none⟩ = some (.int .i64 0) := (blk_cell ST.out.b4 5).trans rfl
  have of5 := blk_frozen ST.out.b4 5
  have n94 : g9 ≠ g4 := ST.out.d49.symm
  have nr4 : gr ≠ g4 := (blk_ne ST.out.br ST.out.b4 (by decide))
  refine pure_ (i := 0) (N := some 67) (v := ?_) (a' := ?_) #[true, false, false, false, false, false, false, false] rfl rfl (any_of HT_.out (by kernel_rfl)) (fun _ _ _ h => h) (Or.inl ⟨by rfl, ?_⟩) ?_ ?_
  rotate_left
  · intro w'
    go_simp
    with_reducible rfl
  rotate_left
  · simp only [Act.put, List.setIfInBounds_toArray, List.set_cons_zero, List.set_cons_succ, i64_w, i32_w]
    rfl
  refine pure_ (i := 1) (N := some 68) (v := ?_) (a' := ?_) #[true, true, false, false, false, false, false, false] rfl rfl (any_of HT_.out (by kernel_rfl)) (fun _ _ _ h => h) (Or.inl ⟨by rfl, ?_⟩) ?_ ?_
  rotate_left
  · intro w'
    go_simp
    with_reducible rfl
  rotate_left
  · simp only [Act.put, List.setIfInBounds_toArray, List.set_cons_zero, List.set_cons_succ, i64_w, i32_w]
    rfl
  refine pure_ (i := 2) (N := some 69) (v := ?_) (a' := ?_) #[true, true, true, false, false, false, false, false] rfl rfl (any_of HT_.out (by kernel_rfl)) (fun _ _ _ h => h) (Or.inl ⟨by rfl, ?_⟩) ?_ ?_
  rotate_left
  · intro w'
    go_simp
    with_reducible rfl
  rotate_left
  · simp only [Act.put, List.setIfInBounds_toArray, List.set_cons_zero, List.set_cons_succ, i64_w, i32_w]
    rfl
  refine pure_ (i := 3) (N := some 70) (v := ?_) (a' := ?_) #[true, true, true, true, false, false, false, false] rfl rfl (any_of HT_.out (by kernel_rfl)) (fun _ _ _ h => h) (Or.inl ⟨by rfl, ?_⟩) ?_ ?_
  rotate_left
  · intro w'
    go_simp
    with_reducible rfl
  rotate_left
  · simp only [Act.put, List.setIfInBounds_toArray, List.set_cons_zero, List.set_cons_succ, i64_w, i32_w]
    rfl
  refine take_ (i := 4) (N := some 71) (v := ?_) (a' := ?_) #[true, true, true, true, true, false, false, false] rfl rfl (take_ofW HT_.out HW_.out (by kernel_rfl)) (fun _ _ _ h => h) (Or.inl ⟨by rfl, ?_⟩) hHeld ?_ ?_
  rotate_left
  · intro w' s0
    go_simp
    with_reducible rfl
  rotate_left
  · simp only [Act.put, List.setIfInBounds_toArray, List.set_cons_zero, List.set_cons_succ, i64_w, i32_w]
    rfl
  refine one_ (i := 5) (N := none) #[true, true, true, true, true, true, false, false] rfl rfl (one_of HT_.out (by kernel_rfl)) (by decide) (fun K hK => ?_)
  refine skip_ (w1 := ?_) (by rfl) rfl ?_ ?_
  rotate_left
  · go_simp
    rfl
  refine hK.out _ _ ?_ (fun hHeld2 => ?_)
  · (repeat (first | refine (cell_far n94 _).trans ?_ | refine (cell_far nr4 _).trans ?_)); exact hHeld
  clear hHeld
  have hHeld := hHeld2
  clear hHeld2
  clear hK K
  refine pure_ (i := 6) (N := some 5) (v := ?_) (a' := ?_) #[true, true, true, true, true, true, true, false] rfl rfl (any_of HT_.out (by kernel_rfl)) (fun _ _ _ h => h) (Or.inl ⟨by rfl, ?_⟩) ?_ ?_
  rotate_left
  · intro w'
    go_simp
    with_reducible rfl
  rotate_left
  · simp only [Act.put, List.setIfInBounds_toArray, List.set_cons_zero, List.set_cons_succ, i64_w, i32_w]
    rfl
  refine pure_ (i := 7) (N := some 6) (v := ?_) (a' := ?_) #[true, true, true, true, true, true, true, true] rfl rfl (any_of HT_.out (by kernel_rfl)) (fun _ _ _ h => h) (Or.inl ⟨by rfl, ?_⟩) ?_ ?_
  rotate_left
  · intro w'
    go_simp
    with_reducible rfl
  rotate_left
  · simp only [Act.put, List.setIfInBounds_toArray, List.set_cons_zero, List.set_cons_succ, i64_w, i32_w]
    rfl
  refine done_ (done_of HT_.out (by kernel_rfl)) ?_
  clear HT_ HW_
  try go_wp2
  refine bodyPost_ret (results_ctt rfl _ _ g4 23 #[.bool false, .int .i64 0, .int .i64 0, .int .i64 0, .int .i64 0, .int .i64 0] (0, 0) _ rfl (blk_put (blk_put (blk_put (blk_put (blk_put (blk_put ST.out.b4 0 (.bool false) (cs' := #[.bool false, .int .i64 0, .int .i64 0, .int .i64 0, .int .i64 0, .int .i64 0]) rfl) 1 (.int .i64 0) (cs' := #[.bool false, .int .i64 0, .int .i64 0, .int .i64 0, .int .i64 0, .int .i64 0]) rfl) 2 (.int .i64 0) (cs' := #[.bool false, .int .i64 0, .int .i64 0, .int .i64 0, .int .i64 0, .int .i64 0]) rfl) 3 (.int .i64 0) (cs' := #[.bool false, .int .i64 0, .int .i64 0, .int .i64 0, .int .i64 0, .int .i64 0]) rfl) 4 (.int .i64 0) (cs' := #[.bool false, .int .i64 0, .int .i64 0, .int .i64 0, .int .i64 0, .int .i64 0]) rfl) 5 (.int .i64 0) (cs' := #[.bool false, .int .i64 0, .int .i64 0, .int .i64 0, .int .i64 0, .int .i64 0]) rfl) Try.underlying23 rfl (by kernel_rfl)) rfl ?_
  exact ⟨rfl, (below_set (below_set (below_set (below_set (below_set (below_set ST.out.bl ST.out.n4) ST.out.n4) ST.out.n4) ST.out.n4) ST.out.n4) ST.out.n4)⟩
set_option maxHeartbeats 8000000 in
set_option maxRecDepth 100000 in
theorem hp_n_e (A0 : Option Addr) (c0 : Nat) (l0 : List Int) (a1 : Int) (w : World) (k p1 e1 i pi ei : Int) (HL : l0.length ≤ 1000000000000) (HY : Bytes l0) (HR0 : Kd.C (Kd.int .u8) w A0 l0.length l0) (HC0 : l0.length ≤ c0) (HG1 : rd1 l0 1 a1 0 = (k, p1, e1)) (he : e1 = 0) (hk : k = 0) (hg : ¬ 1 < k) (HGi : rd1 l0 1 p1 0 = (i, pi, ei)) (hf : ¬ ei = 0) :
    Calls Try.prog 27 #[.slice A0 l0.length c0, .int .i64 a1] w fun e w' => e = .returned (.tuple #[.agg #[.bool false, .int .i64 0, .int .i64 0, .int .i64 0, .int .i64 0, .int .i64 0], .int .i64 0, .int .i64 ei]) ∧ Below w.heap.size w w' := by
  have hu23 := Try.underlying23
  have hu67 := Try.underlying67
  replace HL := Aside0.mk HL
  replace HY := Aside0.mk HY
  replace HR0 := Aside0.mk HR0
  replace HC0 := Aside0.mk HC0
  replace HG1 := Aside0.mk HG1
  replace HGi := Aside0.mk HGi
  subst he
  subst hk
  clear hg
  have b4 : (ei == 0) = false := beq_eq_false_iff_ne.mpr hf
  have b5 : (ei != 0) = true := bne_iff_ne.mpr hf
  clear hf
  go_enter Try.func27, Try.ntmps27
  go_upto_region 4 with (first
    | ((with_reducible refine gate_dst (N := 4) rfl ?_); refine box_event ?hg (N := 4) ?hd (cs := #[.bool false, .int .i64 0, .int .i64 0, .int .i64 0, .int .i64 0, .int .i64 0]) (t := 23) ?hr ?_; (case hd => rfl); (case hg => rfl); (case hr => first | (go_simp; done) | (go_simp; rfl)); intro g4 hg w4 hbox hb; have HB4 := Aside0.mk hb; have G4 := Aside0.mk (Nat.le_of_eq hg.symm); have B4 := Aside0.mk hbox; clear hb hbox hg)
    | ((with_reducible refine gate_dst (N := 13) rfl ?_); refine box_event ?hg (N := 13) ?hd (cs := RdC A0 l0.length c0 a1 0) (t := 67) ?hr ?_; (case hd => rfl); (case hg => rfl); (case hr => first | (go_simp; done) | (go_simp; rfl)); intro gr hg w5 hbox hb; have HB5 := Aside0.mk (below_step HB4.out hb); have GR := Aside0.mk (show w.heap.size ≤ gr by rw [hg]; exact below_size HB4.out); have B45 := Aside0.mk (blk_below B4.out hb); have BR := Aside0.mk hbox; clear hb hbox hg HB4 B4)
    | ((with_reducible refine gate_dst (N := 15) rfl ?_); refine goesL_ (some 15) rfl rfl Try.func39 (by kernel_rfl) rfl #[.pointer (some ⟨gr, 0, none⟩)] rfl (by (try simp only [List.map_toArray, List.map_cons, List.map_nil]); first | done | rfl) ?_; (with_reducible refine (hr_oneG gr A0 c0 l0 a1 0 _ _ _ _ HG1.out HY.out HL.out (Kd.C_below HR0.out HB5.out) HC0.out BR.out).mono ?_); rintro x_ w6 ⟨rfl, hbx, hgr⟩; refine ⟨_, rfl, ?_⟩; have HB6 := Aside0.mk (pw_below_grown HB5.out (some gr) (below_size HB5.out) hgr (fun k_ e_ => by cases e_; exact GR.out)); have B46 := Aside0.mk (blk_grown B45.out hgr (fun e_ => blk_ne B45.out BR.out (by decide) (Option.some.inj e_))); have BR6 := Aside0.mk hbx; clear hbx hgr HB5 B45 BR)
    | ((with_reducible refine gate_dst (N := 9) rfl ?_); refine box_event ?hg (N := 9) ?hd (cs := #[.bool false, .int .i64 0, .int .i64 0, .int .i64 0, .int .i64 0, .int .i64 0]) (t := 23) ?hr ?_; (case hd => rfl); (case hg => rfl); (case hr => first | (go_simp; done) | (go_simp; rfl)); intro g9 hg w7 hbox hb; have ST0 := Aside0.mk (HpSt.mk (blk_below B46.out hb) hbox (blk_below BR6.out hb) (below_step HB6.out hb) G4.out (by rw [hg]; exact below_size HB6.out) GR.out (by rw [hg]; exact Nat.ne_of_lt (blk_lt B46.out))); clear hb hbox hg; have u0 : w7.cell? ⟨g9, 0, none⟩ = some (.bool false) := (blk_cell ST0.out.b9 0).trans rfl; have uf0 := blk_frozen ST0.out.b9 0; have u1 : w7.cell? ⟨g9, 1, none⟩ = some (.int .i64 0) := (blk_cell ST0.out.b9 1).trans rfl; have uf1 := blk_frozen ST0.out.b9 1; have u2 : w7.cell? ⟨g9, 2, none⟩ = some (.int .i64 0) := (blk_cell ST0.out.b9 2).trans rfl; have uf2 := blk_frozen ST0.out.b9 2; have u3 : w7.cell? ⟨g9, 3, none⟩ = some (.int .i64 0) := (blk_cell ST0.out.b9 3).trans rfl; have uf3 := blk_frozen ST0.out.b9 3; have u4 : w7.cell? ⟨g9, 4, none⟩ = some (.int .i64 0) := (blk_cell ST0.out.b9 4).trans rfl; have uf4 := blk_frozen ST0.out.b9 4; have u5 : w7.cell? ⟨g9, 5, none⟩ = some (.int .i64 0) := (blk_cell ST0.out.b9 5).trans rfl; have uf5 := blk_frozen ST0.out.b9 5))
  have ST := Aside0.mk (show HpSt w ((((((w7.setCell ⟨g9, 0, none⟩ (.bool true)).setCell ⟨g9, 1, none⟩ (.int .i64 0)).setCell ⟨g9, 2, none⟩ (.int .i64 0)).setCell ⟨g9, 3, none⟩ (.int .i64 0)).setCell ⟨g9, 4, none⟩ (.int .i64 0)).setCell ⟨g9, 5, none⟩ (.int .i64 0)) A0 l0.length c0 g4 g9 gr p1 0 #[.bool true, .int .i64 0, .int .i64 0, .int .i64 0, .int .i64 0, .int .i64 0] from (HpSt.put (HpSt.put (HpSt.put (HpSt.put (HpSt.put (HpSt.put ST0.out 0 (.bool true) rfl) 1 (.int .i64 0) rfl) 2 (.int .i64 0) rfl) 3 (.int .i64 0) rfl) 4 (.int .i64 0) rfl) 5 (.int .i64 0) rfl))
  generalize ((((((w7.setCell ⟨g9, 0, none⟩ (.bool true)).setCell ⟨g9, 1, none⟩ (.int .i64 0)).setCell ⟨g9, 2, none⟩ (.int .i64 0)).setCell ⟨g9, 3, none⟩ (.int .i64 0)).setCell ⟨g9, 4, none⟩ (.int .i64 0)).setCell ⟨g9, 5, none⟩ (.int .i64 0)) = wq at ST ⊢
  clear ST0 u0 uf0 u1 uf1 u2 uf2 u3 uf3 u4 uf4 u5 uf5
  have v0 : wq.cell? ⟨gr, 0, none⟩ = some (.slice A0 l0.length c0) := (blk_cell ST.out.br 0).trans rfl
  have vf0 := blk_frozen ST.out.br 0
  have v1 : wq.cell? ⟨gr, 1, none⟩ = some (.int .i64 p1) := (blk_cell ST.out.br 1).trans rfl
  have vf1 := blk_frozen ST.out.br 1
  have v2 : wq.cell? ⟨gr, 2, none⟩ = some (.int .i64 0) := (blk_cell ST.out.br 2).trans rfl
  have vf2 := blk_frozen ST.out.br 2
  have y0 : wq.cell? ⟨g9, 0, none⟩ = some (.bool true) := (blk_cell ST.out.b9 0).trans rfl
  have yf0 := blk_frozen ST.out.b9 0
  have y1 : wq.cell? ⟨g9, 1, none⟩ = some (.int .i64 0) := (blk_cell ST.out.b9 1).trans rfl
  have yf1 := blk_frozen ST.out.b9 1
  have y2 : wq.cell? ⟨g9, 2, none⟩ = some (.int .i64 0) := (blk_cell ST.out.b9 2).trans rfl
  have yf2 := blk_frozen ST.out.b9 2
  have y3 : wq.cell? ⟨g9, 3, none⟩ = some (.int .i64 0) := (blk_cell ST.out.b9 3).trans rfl
  have yf3 := blk_frozen ST.out.b9 3
  have y4 : wq.cell? ⟨g9, 4, none⟩ = some (.int .i64 0) := (blk_cell ST.out.b9 4).trans rfl
  have yf4 := blk_frozen ST.out.b9 4
  have y5 : wq.cell? ⟨g9, 5, none⟩ = some (.int .i64 0) := (blk_cell ST.out.b9 5).trans rfl
  have yf5 := blk_frozen ST.out.b9 5
  go_upto_region 9 with (first
    | ((with_reducible refine gate_dst (N := 47) rfl ?_); refine goesL_ (some 47) rfl rfl Try.func39 (by kernel_rfl) rfl #[.pointer (some ⟨gr, 0, none⟩)] rfl (by (try simp only [List.map_toArray, List.map_cons, List.map_nil]); first | done | rfl) ?_; (with_reducible refine (hr_oneG gr A0 c0 l0 p1 0 _ _ _ _ HGi.out HY.out HL.out (Kd.C_below HR0.out ST.out.bl) HC0.out ST.out.br).mono ?_); rintro x_ w47 ⟨rfl, hbx, hgr⟩; refine ⟨_, rfl, ?_⟩; have STn := Aside0.mk (ST.out.step hbx hgr); clear ST hbx hgr; have ST := STn; clear STn; have x0 : w47.cell? ⟨g9, 0, none⟩ = some (.bool true) := (blk_cell ST.out.b9 0).trans rfl; have xf0 := blk_frozen ST.out.b9 0; have x1 : w47.cell? ⟨g9, 1, none⟩ = some (.int .i64 0) := (blk_cell ST.out.b9 1).trans rfl; have xf1 := blk_frozen ST.out.b9 1; have x2 : w47.cell? ⟨g9, 2, none⟩ = some (.int .i64 0) := (blk_cell ST.out.b9 2).trans rfl; have xf2 := blk_frozen ST.out.b9 2; have x3 : w47.cell? ⟨g9, 3, none⟩ = some (.int .i64 0) := (blk_cell ST.out.b9 3).trans rfl; have xf3 := blk_frozen ST.out.b9 3; have x4 : w47.cell? ⟨g9, 4, none⟩ = some (.int .i64 0) := (blk_cell ST.out.b9 4).trans rfl; have xf4 := blk_frozen ST.out.b9 4; have x5 : w47.cell? ⟨g9, 5, none⟩ = some (.int .i64 0) := (blk_cell ST.out.b9 5).trans rfl; have xf5 := blk_frozen ST.out.b9 5))
  have STn := Aside0.mk (HpSt.put ST.out 5 (.int .i64 i) (cs2 := #[.bool true, .int .i64 0, .int .i64 0, .int .i64 0, .int .i64 0, .int .i64 i]) rfl)
  clear ST
  have ST := STn
  clear STn x0 xf0 x1 xf1 x2 xf2 x3 xf3 x4 xf4 x5 xf5
  clear v0 vf0 v1 vf1 v2 vf2
  clear y0 yf0 y1 yf1 y2 yf2 y3 yf3 y4 yf4 y5 yf5
  generalize (w47.setCell ⟨g9, 5, none⟩ (.int .i64 i)) = wr at ST ⊢
  have v0 : wr.cell? ⟨gr, 0, none⟩ = some (.slice A0 l0.length c0) := (blk_cell ST.out.br 0).trans rfl
  have vf0 := blk_frozen ST.out.br 0
  have v1 : wr.cell? ⟨gr, 1, none⟩ = some (.int .i64 pi) := (blk_cell ST.out.br 1).trans rfl
  have vf1 := blk_frozen ST.out.br 1
  have v2 : wr.cell? ⟨gr, 2, none⟩ = some (.int .i64 ei) := (blk_cell ST.out.br 2).trans rfl
  have vf2 := blk_frozen ST.out.br 2
  have y0 : wr.cell? ⟨g9, 0, none⟩ = some (.bool true) := (blk_cell ST.out.b9 0).trans rfl
  have yf0 := blk_frozen ST.out.b9 0
  have y1 : wr.cell? ⟨g9, 1, none⟩ = some (.int .i64 0) := (blk_cell ST.out.b9 1).trans rfl
  have yf1 := blk_frozen ST.out.b9 1
  have y2 : wr.cell? ⟨g9, 2, none⟩ = some (.int .i64 0) := (blk_cell ST.out.b9 2).trans rfl
  have yf2 := blk_frozen ST.out.b9 2
  have y3 : wr.cell? ⟨g9, 3, none⟩ = some (.int .i64 0) := (blk_cell ST.out.b9 3).trans rfl
  have yf3 := blk_frozen ST.out.b9 3
  have y4 : wr.cell? ⟨g9, 4, none⟩ = some (.int .i64 0) := (blk_cell ST.out.b9 4).trans rfl
  have yf4 := blk_frozen ST.out.b9 4
  have y5 : wr.cell? ⟨g9, 5, none⟩ = some (.int .i64 i) := (blk_cell ST.out.b9 5).trans rfl
  have yf5 := blk_frozen ST.out.b9 5
  go_upto_region 12 with (fail)
  have STd := Aside0.mk (HpSt.drew ST.out)
  clear ST
  have ST := STd
  clear STd
  refine start_ (n := 8) (S := fun w' => w'.cell? ⟨gr, 2, none⟩ = some (.int .i64 ei)) (ds := []) #[false, false, false, false, false, false, false, false] (by kernel_rfl) rfl rfl ((blk_cell ST.out.br 2).trans rfl) (fun hHeld => ?_); refine with_tabW height_Parse.tab12 height_Parse.bits12 (fun HT_ HW_ => ?_)
  generalize wr.drew = wd at ST hHeld ⊢
  have o0 : wd.cell? ⟨g4, 0, none⟩ = some (.bool false) := (blk_cell ST.out.b4 0).trans rfl
  have of0 := blk_frozen ST.out.b4 0
  have o1 : wd.cell? ⟨g4, 1, none⟩ = some (.int .i64 0) := (blk_cell ST.out.b4 1).trans rfl
  have of1 := blk_frozen ST.out.b4 1
  have o2 : wd.cell? ⟨g4, 2, none⟩ = some (.int .i64 0) := (blk_cell ST.out.b4 2).trans rfl
  have of2 := blk_frozen ST.out.b4 2
  have o3 : wd.cell? ⟨g4, 3, none⟩ = some (.int .i64 0) := (blk_cell ST.out.b4 3).trans rfl
  have of3 := blk_frozen ST.out.b4 3
  have o4 : wd.cell? ⟨g4, 4, none⟩ = some (.int .i64 0) := (blk_cell ST.out.b4 4).trans rfl
  have of4 := blk_frozen ST.out.b4 4
  have o5 : wd.cell? ⟨g4, 5, none⟩ = some (.int .i64 0) := (blk_cell ST.out.b4 5).trans rfl
  have of5 := blk_frozen ST.out.b4 5
  have n94 : g9 ≠ g4 := ST.out.d49.symm
  have nr4 : gr ≠ g4 := (blk_ne ST.out.br ST.out.b4 (by decide))
  refine pure_ (i := 0) (N := some 67) (v := ?_) (a' := ?_) #[true, false, false, false, false, false, false, false] rfl rfl (any_of HT_.out (by kernel_rfl)) (fun _ _ _ h => h) (Or.inl ⟨by rfl, ?_⟩) ?_ ?_
  rotate_left
  · intro w'
    go_simp
    with_reducible rfl
  rotate_left
  · simp only [Act.put, List.setIfInBounds_toArray, List.set_cons_zero, List.set_cons_succ, i64_w, i32_w]
    rfl
  refine pure_ (i := 1) (N := some 68) (v := ?_) (a' := ?_) #[true, true, false, false, false, false, false, false] rfl rfl (any_of HT_.out (by kernel_rfl)) (fun _ _ _ h => h) (Or.inl ⟨by rfl, ?_⟩) ?_ ?_
  rotate_left
  · intro w'
    go_simp
    with_reducible rfl
  rotate_left
  · simp only [Act.put, List.setIfInBounds_toArray, List.set_cons_zero, List.set_cons_succ, i64_w, i32_w]
    rfl
  refine pure_ (i := 2) (N := some 69) (v := ?_) (a' := ?_) #[true, true, true, false, false, false, false, false] rfl rfl (any_of HT_.out (by kernel_rfl)) (fun _ _ _ h => h) (Or.inl ⟨by rfl, ?_⟩) ?_ ?_
  rotate_left
  · intro w'
    go_simp
    with_reducible rfl
  rotate_left
  · simp only [Act.put, List.setIfInBounds_toArray, List.set_cons_zero, List.set_cons_succ, i64_w, i32_w]
    rfl
  refine pure_ (i := 3) (N := some 70) (v := ?_) (a' := ?_) #[true, true, true, true, false, false, false, false] rfl rfl (any_of HT_.out (by kernel_rfl)) (fun _ _ _ h => h) (Or.inl ⟨by rfl, ?_⟩) ?_ ?_
  rotate_left
  · intro w'
    go_simp
    with_reducible rfl
  rotate_left
  · simp only [Act.put, List.setIfInBounds_toArray, List.set_cons_zero, List.set_cons_succ, i64_w, i32_w]
    rfl
  refine take_ (i := 4) (N := some 71) (v := ?_) (a' := ?_) #[true, true, true, true, true, false, false, false] rfl rfl (take_ofW HT_.out HW_.out (by kernel_rfl)) (fun _ _ _ h => h) (Or.inl ⟨by rfl, ?_⟩) hHeld ?_ ?_
  rotate_left
  · intro w' s0
    go_simp
    with_reducible rfl
  rotate_left
  · simp only [Act.put, List.setIfInBounds_toArray, List.set_cons_zero, List.set_cons_succ, i64_w, i32_w]
    rfl
  refine one_ (i := 5) (N := none) #[true, true, true, true, true, true, false, false] rfl rfl (one_of HT_.out (by kernel_rfl)) (by decide) (fun K hK => ?_)
  refine skip_ (w1 := ?_) (by rfl) rfl ?_ ?_
  rotate_left
  · go_simp
    rfl
  refine hK.out _ _ ?_ (fun hHeld2 => ?_)
  · (repeat (first | refine (cell_far n94 _).trans ?_ | refine (cell_far nr4 _).trans ?_)); exact hHeld
  clear hHeld
  have hHeld := hHeld2
  clear hHeld2
  clear hK K
  refine pure_ (i := 6) (N := some 5) (v := ?_) (a' := ?_) #[true, true, true, true, true, true, true, false] rfl rfl (any_of HT_.out (by kernel_rfl)) (fun _ _ _ h => h) (Or.inl ⟨by rfl, ?_⟩) ?_ ?_
  rotate_left
  · intro w'
    go_simp
    with_reducible rfl
  rotate_left
  · simp only [Act.put, List.setIfInBounds_toArray, List.set_cons_zero, List.set_cons_succ, i64_w, i32_w]
    rfl
  refine pure_ (i := 7) (N := some 6) (v := ?_) (a' := ?_) #[true, true, true, true, true, true, true, true] rfl rfl (any_of HT_.out (by kernel_rfl)) (fun _ _ _ h => h) (Or.inl ⟨by rfl, ?_⟩) ?_ ?_
  rotate_left
  · intro w'
    go_simp
    with_reducible rfl
  rotate_left
  · simp only [Act.put, List.setIfInBounds_toArray, List.set_cons_zero, List.set_cons_succ, i64_w, i32_w]
    rfl
  refine done_ (done_of HT_.out (by kernel_rfl)) ?_
  clear HT_ HW_
  try go_wp2
  refine bodyPost_ret (results_ctt rfl _ _ g4 23 #[.bool false, .int .i64 0, .int .i64 0, .int .i64 0, .int .i64 0, .int .i64 0] (0, 0) _ rfl (blk_put (blk_put (blk_put (blk_put (blk_put (blk_put ST.out.b4 0 (.bool false) (cs' := #[.bool false, .int .i64 0, .int .i64 0, .int .i64 0, .int .i64 0, .int .i64 0]) rfl) 1 (.int .i64 0) (cs' := #[.bool false, .int .i64 0, .int .i64 0, .int .i64 0, .int .i64 0, .int .i64 0]) rfl) 2 (.int .i64 0) (cs' := #[.bool false, .int .i64 0, .int .i64 0, .int .i64 0, .int .i64 0, .int .i64 0]) rfl) 3 (.int .i64 0) (cs' := #[.bool false, .int .i64 0, .int .i64 0, .int .i64 0, .int .i64 0, .int .i64 0]) rfl) 4 (.int .i64 0) (cs' := #[.bool false, .int .i64 0, .int .i64 0, .int .i64 0, .int .i64 0, .int .i64 0]) rfl) 5 (.int .i64 0) (cs' := #[.bool false, .int .i64 0, .int .i64 0, .int .i64 0, .int .i64 0, .int .i64 0]) rfl) Try.underlying23 rfl (by kernel_rfl)) rfl ?_
  exact ⟨rfl, (below_set (below_set (below_set (below_set (below_set (below_set ST.out.bl ST.out.n4) ST.out.n4) ST.out.n4) ST.out.n4) ST.out.n4) ST.out.n4)⟩
set_option maxHeartbeats 8000000 in
set_option maxRecDepth 100000 in
theorem hp_n_no (A0 : Option Addr) (c0 : Nat) (l0 : List Int) (a1 : Int) (w : World) (k p1 e1 i pi ei : Int) (HL : l0.length ≤ 1000000000000) (HY : Bytes l0) (HR0 : Kd.C (Kd.int .u8) w A0 l0.length l0) (HC0 : l0.length ≤ c0) (HG1 : rd1 l0 1 a1 0 = (k, p1, e1)) (he : e1 = 0) (hk : k = 0) (hg : ¬ 1 < k) (HGi : rd1 l0 1 p1 0 = (i, pi, ei)) (hf : ei = 0) (hr : ¬ RH true 0 0 0 0 i) :
    Calls Try.prog 27 #[.slice A0 l0.length c0, .int .i64 a1] w fun e w' => e = .returned (.tuple #[.agg #[.bool false, .int .i64 0, .int .i64 0, .int .i64 0, .int .i64 0, .int .i64 0], .int .i64 0, .int .i64 4]) ∧ Below w.heap.size w w' := by
  have hu23 := Try.underlying23
  have hu67 := Try.underlying67
  replace HL := Aside0.mk HL
  replace HY := Aside0.mk HY
  replace HR0 := Aside0.mk HR0
  replace HC0 := Aside0.mk HC0
  replace HG1 := Aside0.mk HG1
  replace HGi := Aside0.mk HGi
  subst he
  subst hk
  clear hg
  subst hf
  obtain ⟨K, hK⟩ := (hc_eq true 0 0 0 0 i).rounds
  rw [if_neg hr] at hK
  have HK := Aside0.mk hK
  clear hK hr
  go_enter Try.func27, Try.ntmps27
  go_upto_region 4 with (first
    | ((with_reducible refine gate_dst (N := 4) rfl ?_); refine box_event ?hg (N := 4) ?hd (cs := #[.bool false, .int .i64 0, .int .i64 0, .int .i64 0, .int .i64 0, .int .i64 0]) (t := 23) ?hr ?_; (case hd => rfl); (case hg => rfl); (case hr => first | (go_simp; done) | (go_simp; rfl)); intro g4 hg w4 hbox hb; have HB4 := Aside0.mk hb; have G4 := Aside0.mk (Nat.le_of_eq hg.symm); have B4 := Aside0.mk hbox; clear hb hbox hg)
    | ((with_reducible refine gate_dst (N := 13) rfl ?_); refine box_event ?hg (N := 13) ?hd (cs := RdC A0 l0.length c0 a1 0) (t := 67) ?hr ?_; (case hd => rfl); (case hg => rfl); (case hr => first | (go_simp; done) | (go_simp; rfl)); intro gr hg w5 hbox hb; have HB5 := Aside0.mk (below_step HB4.out hb); have GR := Aside0.mk (show w.heap.size ≤ gr by rw [hg]; exact below_size HB4.out); have B45 := Aside0.mk (blk_below B4.out hb); have BR := Aside0.mk hbox; clear hb hbox hg HB4 B4)
    | ((with_reducible refine gate_dst (N := 15) rfl ?_); refine goesL_ (some 15) rfl rfl Try.func39 (by kernel_rfl) rfl #[.pointer (some ⟨gr, 0, none⟩)] rfl (by (try simp only [List.map_toArray, List.map_cons, List.map_nil]); first | done | rfl) ?_; (with_reducible refine (hr_oneG gr A0 c0 l0 a1 0 _ _ _ _ HG1.out HY.out HL.out (Kd.C_below HR0.out HB5.out) HC0.out BR.out).mono ?_); rintro x_ w6 ⟨rfl, hbx, hgr⟩; refine ⟨_, rfl, ?_⟩; have HB6 := Aside0.mk (pw_below_grown HB5.out (some gr) (below_size HB5.out) hgr (fun k_ e_ => by cases e_; exact GR.out)); have B46 := Aside0.mk (blk_grown B45.out hgr (fun e_ => blk_ne B45.out BR.out (by decide) (Option.some.inj e_))); have BR6 := Aside0.mk hbx; clear hbx hgr HB5 B45 BR)
    | ((with_reducible refine gate_dst (N := 9) rfl ?_); refine box_event ?hg (N := 9) ?hd (cs := #[.bool false, .int .i64 0, .int .i64 0, .int .i64 0, .int .i64 0, .int .i64 0]) (t := 23) ?hr ?_; (case hd => rfl); (case hg => rfl); (case hr => first | (go_simp; done) | (go_simp; rfl)); intro g9 hg w7 hbox hb; have ST0 := Aside0.mk (HpSt.mk (blk_below B46.out hb) hbox (blk_below BR6.out hb) (below_step HB6.out hb) G4.out (by rw [hg]; exact below_size HB6.out) GR.out (by rw [hg]; exact Nat.ne_of_lt (blk_lt B46.out))); clear hb hbox hg; have u0 : w7.cell? ⟨g9, 0, none⟩ = some (.bool false) := (blk_cell ST0.out.b9 0).trans rfl; have uf0 := blk_frozen ST0.out.b9 0; have u1 : w7.cell? ⟨g9, 1, none⟩ = some (.int .i64 0) := (blk_cell ST0.out.b9 1).trans rfl; have uf1 := blk_frozen ST0.out.b9 1; have u2 : w7.cell? ⟨g9, 2, none⟩ = some (.int .i64 0) := (blk_cell ST0.out.b9 2).trans rfl; have uf2 := blk_frozen ST0.out.b9 2; have u3 : w7.cell? ⟨g9, 3, none⟩ = some (.int .i64 0) := (blk_cell ST0.out.b9 3).trans rfl; have uf3 := blk_frozen ST0.out.b9 3; have u4 : w7.cell? ⟨g9, 4, none⟩ = some (.int .i64 0) := (blk_cell ST0.out.b9 4).trans rfl; have uf4 := blk_frozen ST0.out.b9 4; have u5 : w7.cell? ⟨g9, 5, none⟩ = some (.int .i64 0) := (blk_cell ST0.out.b9 5).trans rfl; have uf5 := blk_frozen ST0.out.b9 5))
  have ST := Aside0.mk (show HpSt w ((((((w7.setCell ⟨g9, 0, none⟩ (.bool true)).setCell ⟨g9, 1, none⟩ (.int .i64 0)).setCell ⟨g9, 2, none⟩ (.int .i64 0)).setCell ⟨g9, 3, none⟩ (.int .i64 0)).setCell ⟨g9, 4, none⟩ (.int .i64 0)).setCell ⟨g9, 5, none⟩ (.int .i64 0)) A0 l0.length c0 g4 g9 gr p1 0 #[.bool true, .int .i64 0, .int .i64 0, .int .i64 0, .int .i64 0, .int .i64 0] from (HpSt.put (HpSt.put (HpSt.put (HpSt.put (HpSt.put (HpSt.put ST0.out 0 (.bool true) rfl) 1 (.int .i64 0) rfl) 2 (.int .i64 0) rfl) 3 (.int .i64 0) rfl) 4 (.int .i64 0) rfl) 5 (.int .i64 0) rfl))
  generalize ((((((w7.setCell ⟨g9, 0, none⟩ (.bool true)).setCell ⟨g9, 1, none⟩ (.int .i64 0)).setCell ⟨g9, 2, none⟩ (.int .i64 0)).setCell ⟨g9, 3, none⟩ (.int .i64 0)).setCell ⟨g9, 4, none⟩ (.int .i64 0)).setCell ⟨g9, 5, none⟩ (.int .i64 0)) = wq at ST ⊢
  clear ST0 u0 uf0 u1 uf1 u2 uf2 u3 uf3 u4 uf4 u5 uf5
  have v0 : wq.cell? ⟨gr, 0, none⟩ = some (.slice A0 l0.length c0) := (blk_cell ST.out.br 0).trans rfl
  have vf0 := blk_frozen ST.out.br 0
  have v1 : wq.cell? ⟨gr, 1, none⟩ = some (.int .i64 p1) := (blk_cell ST.out.br 1).trans rfl
  have vf1 := blk_frozen ST.out.br 1
  have v2 : wq.cell? ⟨gr, 2, none⟩ = some (.int .i64 0) := (blk_cell ST.out.br 2).trans rfl
  have vf2 := blk_frozen ST.out.br 2
  have y0 : wq.cell? ⟨g9, 0, none⟩ = some (.bool true) := (blk_cell ST.out.b9 0).trans rfl
  have yf0 := blk_frozen ST.out.b9 0
  have y1 : wq.cell? ⟨g9, 1, none⟩ = some (.int .i64 0) := (blk_cell ST.out.b9 1).trans rfl
  have yf1 := blk_frozen ST.out.b9 1
  have y2 : wq.cell? ⟨g9, 2, none⟩ = some (.int .i64 0) := (blk_cell ST.out.b9 2).trans rfl
  have yf2 := blk_frozen ST.out.b9 2
  have y3 : wq.cell? ⟨g9, 3, none⟩ = some (.int .i64 0) := (blk_cell ST.out.b9 3).trans rfl
  have yf3 := blk_frozen ST.out.b9 3
  have y4 : wq.cell? ⟨g9, 4, none⟩ = some (.int .i64 0) := (blk_cell ST.out.b9 4).trans rfl
  have yf4 := blk_frozen ST.out.b9 4
  have y5 : wq.cell? ⟨g9, 5, none⟩ = some (.int .i64 0) := (blk_cell ST.out.b9 5).trans rfl
  have yf5 := blk_frozen ST.out.b9 5
  go_upto_region 9 with (first
    | ((with_reducible refine gate_dst (N := 47) rfl ?_); refine goesL_ (some 47) rfl rfl Try.func39 (by kernel_rfl) rfl #[.pointer (some ⟨gr, 0, none⟩)] rfl (by (try simp only [List.map_toArray, List.map_cons, List.map_nil]); first | done | rfl) ?_; (with_reducible refine (hr_oneG gr A0 c0 l0 p1 0 _ _ _ _ HGi.out HY.out HL.out (Kd.C_below HR0.out ST.out.bl) HC0.out ST.out.br).mono ?_); rintro x_ w47 ⟨rfl, hbx, hgr⟩; refine ⟨_, rfl, ?_⟩; have STn := Aside0.mk (ST.out.step hbx hgr); clear ST hbx hgr; have ST := STn; clear STn; have x0 : w47.cell? ⟨g9, 0, none⟩ = some (.bool true) := (blk_cell ST.out.b9 0).trans rfl; have xf0 := blk_frozen ST.out.b9 0; have x1 : w47.cell? ⟨g9, 1, none⟩ = some (.int .i64 0) := (blk_cell ST.out.b9 1).trans rfl; have xf1 := blk_frozen ST.out.b9 1; have x2 : w47.cell? ⟨g9, 2, none⟩ = some (.int .i64 0) := (blk_cell ST.out.b9 2).trans rfl; have xf2 := blk_frozen ST.out.b9 2; have x3 : w47.cell? ⟨g9, 3, none⟩ = some (.int .i64 0) := (blk_cell ST.out.b9 3).trans rfl; have xf3 := blk_frozen ST.out.b9 3; have x4 : w47.cell? ⟨g9, 4, none⟩ = some (.int .i64 0) := (blk_cell ST.out.b9 4).trans rfl; have xf4 := blk_frozen ST.out.b9 4; have x5 : w47.cell? ⟨g9, 5, none⟩ = some (.int .i64 0) := (blk_cell ST.out.b9 5).trans rfl; have xf5 := blk_frozen ST.out.b9 5))
  have STn := Aside0.mk (HpSt.put ST.out 5 (.int .i64 i) (cs2 := #[.bool true, .int .i64 0, .int .i64 0, .int .i64 0, .int .i64 0, .int .i64 i]) rfl)
  clear ST
  have ST := STn
  clear STn x0 xf0 x1 xf1 x2 xf2 x3 xf3 x4 xf4 x5 xf5
  clear v0 vf0 v1 vf1 v2 vf2
  clear y0 yf0 y1 yf1 y2 yf2 y3 yf3 y4 yf4 y5 yf5
  generalize (w47.setCell ⟨g9, 5, none⟩ (.int .i64 i)) = wr at ST ⊢
  have v0 : wr.cell? ⟨gr, 0, none⟩ = some (.slice A0 l0.length c0) := (blk_cell ST.out.br 0).trans rfl
  have vf0 := blk_frozen ST.out.br 0
  have v1 : wr.cell? ⟨gr, 1, none⟩ = some (.int .i64 pi) := (blk_cell ST.out.br 1).trans rfl
  have vf1 := blk_frozen ST.out.br 1
  have v2 : wr.cell? ⟨gr, 2, none⟩ = some (.int .i64 0) := (blk_cell ST.out.br 2).trans rfl
  have vf2 := blk_frozen ST.out.br 2
  have y0 : wr.cell? ⟨g9, 0, none⟩ = some (.bool true) := (blk_cell ST.out.b9 0).trans rfl
  have yf0 := blk_frozen ST.out.b9 0
  have y1 : wr.cell? ⟨g9, 1, none⟩ = some (.int .i64 0) := (blk_cell ST.out.b9 1).trans rfl
  have yf1 := blk_frozen ST.out.b9 1
  have y2 : wr.cell? ⟨g9, 2, none⟩ = some (.int .i64 0) := (blk_cell ST.out.b9 2).trans rfl
  have yf2 := blk_frozen ST.out.b9 2
  have y3 : wr.cell? ⟨g9, 3, none⟩ = some (.int .i64 0) := (blk_cell ST.out.b9 3).trans rfl
  have yf3 := blk_frozen ST.out.b9 3
  have y4 : wr.cell? ⟨g9, 4, none⟩ = some (.int .i64 0) := (blk_cell ST.out.b9 4).trans rfl
  have yf4 := blk_frozen ST.out.b9 4
  have y5 : wr.cell? ⟨g9, 5, none⟩ = some (.int .i64 i) := (blk_cell ST.out.b9 5).trans rfl
  have yf5 := blk_frozen ST.out.b9 5
  go_upto_region 12 with ((go_at_call 12; (with_reducible refine (height_Check.calls K true 0 0 0 0 i 1 _ HK.out).mono ?_); rintro x_ ws ⟨rfl, hb⟩; have STn := Aside0.mk (HpSt.below ST.out hb); clear ST hb; have ST := STn; clear STn; have s0 : ws.cell? ⟨gr, 0, none⟩ = some (.slice A0 l0.length c0) := (blk_cell ST.out.br 0).trans rfl; have sf0 := blk_frozen ST.out.br 0; have s1 : ws.cell? ⟨gr, 1, none⟩ = some (.int .i64 pi) := (blk_cell ST.out.br 1).trans rfl; have sf1 := blk_frozen ST.out.br 1; have s2 : ws.cell? ⟨gr, 2, none⟩ = some (.int .i64 0) := (blk_cell ST.out.br 2).trans rfl; have sf2 := blk_frozen ST.out.br 2))
  clear v0 vf0 v1 vf1 v2 vf2 y0 yf0 y1 yf1 y2 yf2 y3 yf3 y4 yf4 y5 yf5 s0 sf0 s1 sf1 s2 sf2
  have STn := Aside0.mk (HpSt.err ST.out 4)
  clear ST
  have ST := STn
  clear STn
  generalize (ws.setCell ⟨gr, 2, none⟩ (.int .i64 4)) = wt at ST ⊢
  have STd := Aside0.mk (HpSt.drew ST.out)
  clear ST
  have ST := STd
  clear STd
  refine start_ (n := 8) (S := fun w' => w'.cell? ⟨gr, 2, none⟩ = some (.int .i64 4)) (ds := []) #[false, false, false, false, false, false, false, false] (by kernel_rfl) rfl rfl ((blk_cell ST.out.br 2).trans rfl) (fun hHeld => ?_); refine with_tabW height_Parse.tab12 height_Parse.bits12 (fun HT_ HW_ => ?_)
  generalize wt.drew = wd at ST hHeld ⊢
  have o0 : wd.cell? ⟨g4, 0, none⟩ = some (.bool false) := (blk_cell ST.out.b4 0).trans rfl
  have of0 := blk_frozen ST.out.b4 0
  have o1 : wd.cell? ⟨g4, 1, none⟩ = some (.int .i64 0) := (blk_cell ST.out.b4 1).trans rfl
  have of1 := blk_frozen ST.out.b4 1
  have o2 : wd.cell? ⟨g4, 2, none⟩ = some (.int .i64 0) := (blk_cell ST.out.b4 2).trans rfl
  have of2 := blk_frozen ST.out.b4 2
  have o3 : wd.cell? ⟨g4, 3, none⟩ = some (.int .i64 0) := (blk_cell ST.out.b4 3).trans rfl
  have of3 := blk_frozen ST.out.b4 3
  have o4 : wd.cell? ⟨g4, 4, none⟩ = some (.int .i64 0) := (blk_cell ST.out.b4 4).trans rfl
  have of4 := blk_frozen ST.out.b4 4
  have o5 : wd.cell? ⟨g4, 5, none⟩ = some (.int .i64 0) := (blk_cell ST.out.b4 5).trans rfl
  have of5 := blk_frozen ST.out.b4 5
  have n94 : g9 ≠ g4 := ST.out.d49.symm
  have nr4 : gr ≠ g4 := (blk_ne ST.out.br ST.out.b4 (by decide))
  refine pure_ (i := 0) (N := some 67) (v := ?_) (a' := ?_) #[true, false, false, false, false, false, false, false] rfl rfl (any_of HT_.out (by kernel_rfl)) (fun _ _ _ h => h) (Or.inl ⟨by rfl, ?_⟩) ?_ ?_
  rotate_left
  · intro w'
    go_simp
    with_reducible rfl
  rotate_left
  · simp only [Act.put, List.setIfInBounds_toArray, List.set_cons_zero, List.set_cons_succ, i64_w, i32_w]
    rfl
  refine pure_ (i := 1) (N := some 68) (v := ?_) (a' := ?_) #[true, true, false, false, false, false, false, false] rfl rfl (any_of HT_.out (by kernel_rfl)) (fun _ _ _ h => h) (Or.inl ⟨by rfl, ?_⟩) ?_ ?_
  rotate_left
  · intro w'
    go_simp
    with_reducible rfl
  rotate_left
  · simp only [Act.put, List.setIfInBounds_toArray, List.set_cons_zero, List.set_cons_succ, i64_w, i32_w]
    rfl
  refine pure_ (i := 2) (N := some 69) (v := ?_) (a' := ?_) #[true, true, true, false, false, false, false, false] rfl rfl (any_of HT_.out (by kernel_rfl)) (fun _ _ _ h => h) (Or.inl ⟨by rfl, ?_⟩) ?_ ?_
  rotate_left
  · intro w'
    go_simp
    with_reducible rfl
  rotate_left
  · simp only [Act.put, List.setIfInBounds_toArray, List.set_cons_zero, List.set_cons_succ, i64_w, i32_w]
    rfl
  refine pure_ (i := 3) (N := some 70) (v := ?_) (a' := ?_) #[true, true, true, true, false, false, false, false] rfl rfl (any_of HT_.out (by kernel_rfl)) (fun _ _ _ h => h) (Or.inl ⟨by rfl, ?_⟩) ?_ ?_
  rotate_left
  · intro w'
    go_simp
    with_reducible rfl
  rotate_left
  · simp only [Act.put, List.setIfInBounds_toArray, List.set_cons_zero, List.set_cons_succ, i64_w, i32_w]
    rfl
  refine take_ (i := 4) (N := some 71) (v := ?_) (a' := ?_) #[true, true, true, true, true, false, false, false] rfl rfl (take_ofW HT_.out HW_.out (by kernel_rfl)) (fun _ _ _ h => h) (Or.inl ⟨by rfl, ?_⟩) hHeld ?_ ?_
  rotate_left
  · intro w' s0
    go_simp
    with_reducible rfl
  rotate_left
  · simp only [Act.put, List.setIfInBounds_toArray, List.set_cons_zero, List.set_cons_succ, i64_w, i32_w]
    rfl
  refine one_ (i := 5) (N := none) #[true, true, true, true, true, true, false, false] rfl rfl (one_of HT_.out (by kernel_rfl)) (by decide) (fun K hK => ?_)
  refine skip_ (w1 := ?_) (by rfl) rfl ?_ ?_
  rotate_left
  · go_simp
    rfl
  refine hK.out _ _ ?_ (fun hHeld2 => ?_)
  · (repeat (first | refine (cell_far n94 _).trans ?_ | refine (cell_far nr4 _).trans ?_)); exact hHeld
  clear hHeld
  have hHeld := hHeld2
  clear hHeld2
  clear hK K
  refine pure_ (i := 6) (N := some 5) (v := ?_) (a' := ?_) #[true, true, true, true, true, true, true, false] rfl rfl (any_of HT_.out (by kernel_rfl)) (fun _ _ _ h => h) (Or.inl ⟨by rfl, ?_⟩) ?_ ?_
  rotate_left
  · intro w'
    go_simp
    with_reducible rfl
  rotate_left
  · simp only [Act.put, List.setIfInBounds_toArray, List.set_cons_zero, List.set_cons_succ, i64_w, i32_w]
    rfl
  refine pure_ (i := 7) (N := some 6) (v := ?_) (a' := ?_) #[true, true, true, true, true, true, true, true] rfl rfl (any_of HT_.out (by kernel_rfl)) (fun _ _ _ h => h) (Or.inl ⟨by rfl, ?_⟩) ?_ ?_
  rotate_left
  · intro w'
    go_simp
    with_reducible rfl
  rotate_left
  · simp only [Act.put, List.setIfInBounds_toArray, List.set_cons_zero, List.set_cons_succ, i64_w, i32_w]
    rfl
  refine done_ (done_of HT_.out (by kernel_rfl)) ?_
  clear HT_ HW_
  try go_wp2
  refine bodyPost_ret (results_ctt rfl _ _ g4 23 #[.bool false, .int .i64 0, .int .i64 0, .int .i64 0, .int .i64 0, .int .i64 0] (0, 0) _ rfl (blk_put (blk_put (blk_put (blk_put (blk_put (blk_put ST.out.b4 0 (.bool false) (cs' := #[.bool false, .int .i64 0, .int .i64 0, .int .i64 0, .int .i64 0, .int .i64 0]) rfl) 1 (.int .i64 0) (cs' := #[.bool false, .int .i64 0, .int .i64 0, .int .i64 0, .int .i64 0, .int .i64 0]) rfl) 2 (.int .i64 0) (cs' := #[.bool false, .int .i64 0, .int .i64 0, .int .i64 0, .int .i64 0, .int .i64 0]) rfl) 3 (.int .i64 0) (cs' := #[.bool false, .int .i64 0, .int .i64 0, .int .i64 0, .int .i64 0, .int .i64 0]) rfl) 4 (.int .i64 0) (cs' := #[.bool false, .int .i64 0, .int .i64 0, .int .i64 0, .int .i64 0, .int .i64 0]) rfl) 5 (.int .i64 0) (cs' := #[.bool false, .int .i64 0, .int .i64 0, .int .i64 0, .int .i64 0, .int .i64 0]) rfl) Try.underlying23 rfl (by kernel_rfl)) rfl ?_
  exact ⟨rfl, (below_set (below_set (below_set (below_set (below_set (below_set ST.out.bl ST.out.n4) ST.out.n4) ST.out.n4) ST.out.n4) ST.out.n4) ST.out.n4)⟩
set_option maxHeartbeats 8000000 in
set_option maxRecDepth 100000 in
theorem hp_n_yes (A0 : Option Addr) (c0 : Nat) (l0 : List Int) (a1 : Int) (w : World) (k p1 e1 i pi ei : Int) (HL : l0.length ≤ 1000000000000) (HY : Bytes l0) (HR0 : Kd.C (Kd.int .u8) w A0 l0.length l0) (HC0 : l0.length ≤ c0) (HG1 : rd1 l0 1 a1 0 = (k, p1, e1)) (he : e1 = 0) (hk : k = 0) (hg : ¬ 1 < k) (HGi : rd1 l0 1 p1 0 = (i, pi, ei)) (hf : ei = 0) (hr : RH true 0 0 0 0 i) :
    Calls Try.prog 27 #[.slice A0 l0.length c0, .int .i64 a1] w fun e w' => e = .returned (.tuple #[.agg #[.bool true, .int .i64 0, .int .i64 0, .int .i64 0, .int .i64 0, .int .i64 i], .int .i64 pi, .int .i64 0]) ∧ Below w.heap.size w w' := by
  have hu23 := Try.underlying23
  have hu67 := Try.underlying67
  replace HL := Aside0.mk HL
  replace HY := Aside0.mk HY
  replace HR0 := Aside0.mk HR0
  replace HC0 := Aside0.mk HC0
  replace HG1 := Aside0.mk HG1
  replace HGi := Aside0.mk HGi
  subst he
  subst hk
  clear hg
  subst hf
  obtain ⟨K, hK⟩ := (hc_eq true 0 0 0 0 i).rounds
  rw [if_pos hr] at hK
  have HK := Aside0.mk hK
  clear hK hr
  go_enter Try.func27, Try.ntmps27
  go_upto_region 4 with (first
    | ((with_reducible refine gate_dst (N := 4) rfl ?_); refine box_event ?hg (N := 4) ?hd (cs := #[.bool false, .int .i64 0, .int .i64 0, .int .i64 0, .int .i64 0, .int .i64 0]) (t := 23) ?hr ?_; (case hd => rfl); (case hg => rfl); (case hr => first | (go_simp; done) | (go_simp; rfl)); intro g4 hg w4 hbox hb; have HB4 := Aside0.mk hb; have G4 := Aside0.mk (Nat.le_of_eq hg.symm); have B4 := Aside0.mk hbox; clear hb hbox hg)
    | ((with_reducible refine gate_dst (N := 13) rfl ?_); refine box_event ?hg (N := 13) ?hd (cs := RdC A0 l0.length c0 a1 0) (t := 67) ?hr ?_; (case hd => rfl); (case hg => rfl); (case hr => first | (go_simp; done) | (go_simp; rfl)); intro gr hg w5 hbox hb; have HB5 := Aside0.mk (below_step HB4.out hb); have GR := Aside0.mk (show w.heap.size ≤ gr by rw [hg]; exact below_size HB4.out); have B45 := Aside0.mk (blk_below B4.out hb); have BR := Aside0.mk hbox; clear hb hbox hg HB4 B4)
    | ((with_reducible refine gate_dst (N := 15) rfl ?_); refine goesL_ (some 15) rfl rfl Try.func39 (by kernel_rfl) rfl #[.pointer (some ⟨gr, 0, none⟩)] rfl (by (try simp only [List.map_toArray, List.map_cons, List.map_nil]); first | done | rfl) ?_; (with_reducible refine (hr_oneG gr A0 c0 l0 a1 0 _ _ _ _ HG1.out HY.out HL.out (Kd.C_below HR0.out HB5.out) HC0.out BR.out).mono ?_); rintro x_ w6 ⟨rfl, hbx, hgr⟩; refine ⟨_, rfl, ?_⟩; have HB6 := Aside0.mk (pw_below_grown HB5.out (some gr) (below_size HB5.out) hgr (fun k_ e_ => by cases e_; exact GR.out)); have B46 := Aside0.mk (blk_grown B45.out hgr (fun e_ => blk_ne B45.out BR.out (by decide) (Option.some.inj e_))); have BR6 := Aside0.mk hbx; clear hbx hgr HB5 B45 BR)
    | ((with_reducible refine gate_dst (N := 9) rfl ?_); refine box_event ?hg (N := 9) ?hd (cs := #[.bool false, .int .i64 0, .int .i64 0, .int .i64 0, .int .i64 0, .int .i64 0]) (t := 23) ?hr ?_; (case hd => rfl); (case hg => rfl); (case hr => first | (go_simp; done) | (go_simp; rfl)); intro g9 hg w7 hbox hb; have ST0 := Aside0.mk (HpSt.mk (blk_below B46.out hb) hbox (blk_below BR6.out hb) (below_step HB6.out hb) G4.out (by rw [hg]; exact below_size HB6.out) GR.out (by rw [hg]; exact Nat.ne_of_lt (blk_lt B46.out))); clear hb hbox hg; have u0 : w7.cell? ⟨g9, 0, none⟩ = some (.bool false) := (blk_cell ST0.out.b9 0).trans rfl; have uf0 := blk_frozen ST0.out.b9 0; have u1 : w7.cell? ⟨g9, 1, none⟩ = some (.int .i64 0) := (blk_cell ST0.out.b9 1).trans rfl; have uf1 := blk_frozen ST0.out.b9 1; have u2 : w7.cell? ⟨g9, 2, none⟩ = some (.int .i64 0) := (blk_cell ST0.out.b9 2).trans rfl; have uf2 := blk_frozen ST0.out.b9 2; have u3 : w7.cell? ⟨g9, 3, none⟩ = some (.int .i64 0) := (blk_cell ST0.out.b9 3).trans rfl; have uf3 := blk_frozen ST0.out.b9 3; have u4 : w7.cell? ⟨g9, 4, none⟩ = some (.int .i64 0) := (blk_cell ST0.out.b9 4).trans rfl; have uf4 := blk_frozen ST0.out.b9 4; have u5 : w7.cell? ⟨g9, 5, none⟩ = some (.int .i64 0) := (blk_cell ST0.out.b9 5).trans rfl; have uf5 := blk_frozen ST0.out.b9 5))
  have ST := Aside0.mk (show HpSt w ((((((w7.setCell ⟨g9, 0, none⟩ (.bool true)).setCell ⟨g9, 1, none⟩ (.int .i64 0)).setCell ⟨g9, 2, none⟩ (.int .i64 0)).setCell ⟨g9, 3, none⟩ (.int .i64 0)).setCell ⟨g9, 4, none⟩ (.int .i64 0)).setCell ⟨g9, 5, none⟩ (.int .i64 0)) A0 l0.length c0 g4 g9 gr p1 0 #[.bool true, .int .i64 0, .int .i64 0, .int .i64 0, .int .i64 0, .int .i64 0] from (HpSt.put (HpSt.put (HpSt.put (HpSt.put (HpSt.put (HpSt.put ST0.out 0 (.bool true) rfl) 1 (.int .i64 0) rfl) 2 (.int .i64 0) rfl) 3 (.int .i64 0) rfl) 4 (.int .i64 0) rfl) 5 (.int .i64 0) rfl))
  generalize ((((((w7.setCell ⟨g9, 0, none⟩ (.bool true)).setCell ⟨g9, 1, none⟩ (.int .i64 0)).setCell ⟨g9, 2, none⟩ (.int .i64 0)).setCell ⟨g9, 3, none⟩ (.int .i64 0)).setCell ⟨g9, 4, none⟩ (.int .i64 0)).setCell ⟨g9, 5, none⟩ (.int .i64 0)) = wq at ST ⊢
  clear ST0 u0 uf0 u1 uf1 u2 uf2 u3 uf3 u4 uf4 u5 uf5
  have v0 : wq.cell? ⟨gr, 0, none⟩ = some (.slice A0 l0.length c0) := (blk_cell ST.out.br 0).trans rfl
  have vf0 := blk_frozen ST.out.br 0
  have v1 : wq.cell? ⟨gr, 1, none⟩ = some (.int .i64 p1) := (blk_cell ST.out.br 1).trans rfl
  have vf1 := blk_frozen ST.out.br 1
  have v2 : wq.cell? ⟨gr, 2, none⟩ = some (.int .i64 0) := (blk_cell ST.out.br 2).trans rfl
  have vf2 := blk_frozen ST.out.br 2
  have y0 : wq.cell? ⟨g9, 0, none⟩ = some (.bool true) := (blk_cell ST.out.b9 0).trans rfl
  have yf0 := blk_frozen ST.out.b9 0
  have y1 : wq.cell? ⟨g9, 1, none⟩ = some (.int .i64 0) := (blk_cell ST.out.b9 1).trans rfl
  have yf1 := blk_frozen ST.out.b9 1
  have y2 : wq.cell? ⟨g9, 2, none⟩ = some (.int .i64 0) := (blk_cell ST.out.b9 2).trans rfl
  have yf2 := blk_frozen ST.out.b9 2
  have y3 : wq.cell? ⟨g9, 3, none⟩ = some (.int .i64 0) := (blk_cell ST.out.b9 3).trans rfl
  have yf3 := blk_frozen ST.out.b9 3
  have y4 : wq.cell? ⟨g9, 4, none⟩ = some (.int .i64 0) := (blk_cell ST.out.b9 4).trans rfl
  have yf4 := blk_frozen ST.out.b9 4
  have y5 : wq.cell? ⟨g9, 5, none⟩ = some (.int .i64 0) := (blk_cell ST.out.b9 5).trans rfl
  have yf5 := blk_frozen ST.out.b9 5
  go_upto_region 9 with (first
    | ((with_reducible refine gate_dst (N := 47) rfl ?_); refine goesL_ (some 47) rfl rfl Try.func39 (by kernel_rfl) rfl #[.pointer (some ⟨gr, 0, none⟩)] rfl (by (try simp only [List.map_toArray, List.map_cons, List.map_nil]); first | done | rfl) ?_; (with_reducible refine (hr_oneG gr A0 c0 l0 p1 0 _ _ _ _ HGi.out HY.out HL.out (Kd.C_below HR0.out ST.out.bl) HC0.out ST.out.br).mono ?_); rintro x_ w47 ⟨rfl, hbx, hgr⟩; refine ⟨_, rfl, ?_⟩; have STn := Aside0.mk (ST.out.step hbx hgr); clear ST hbx hgr; have ST := STn; clear STn; have x0 : w47.cell? ⟨g9, 0, none⟩ = some (.bool true) := (blk_cell ST.out.b9 0).trans rfl; have xf0 := blk_frozen ST.out.b9 0; have x1 : w47.cell? ⟨g9, 1, none⟩ = some (.int .i64 0) := (blk_cell ST.out.b9 1).trans rfl; have xf1 := blk_frozen ST.out.b9 1; have x2 : w47.cell? ⟨g9, 2, none⟩ = some (.int .i64 0) := (blk_cell ST.out.b9 2).trans rfl; have xf2 := blk_frozen ST.out.b9 2; have x3 : w47.cell? ⟨g9, 3, none⟩ = some (.int .i64 0) := (blk_cell ST.out.b9 3).trans rfl; have xf3 := blk_frozen ST.out.b9 3; have x4 : w47.cell? ⟨g9, 4, none⟩ = some (.int .i64 0) := (blk_cell ST.out.b9 4).trans rfl; have xf4 := blk_frozen ST.out.b9 4; have x5 : w47.cell? ⟨g9, 5, none⟩ = some (.int .i64 0) := (blk_cell ST.out.b9 5).trans rfl; have xf5 := blk_frozen ST.out.b9 5))
  have STn := Aside0.mk (HpSt.put ST.out 5 (.int .i64 i) (cs2 := #[.bool true, .int .i64 0, .int .i64 0, .int .i64 0, .int .i64 0, .int .i64 i]) rfl)
  clear ST
  have ST := STn
  clear STn x0 xf0 x1 xf1 x2 xf2 x3 xf3 x4 xf4 x5 xf5
  clear v0 vf0 v1 vf1 v2 vf2
  clear y0 yf0 y1 yf1 y2 yf2 y3 yf3 y4 yf4 y5 yf5
  generalize (w47.setCell ⟨g9, 5, none⟩ (.int .i64 i)) = wr at ST ⊢
  have v0 : wr.cell? ⟨gr, 0, none⟩ = some (.slice A0 l0.length c0) := (blk_cell ST.out.br 0).trans rfl
  have vf0 := blk_frozen ST.out.br 0
  have v1 : wr.cell? ⟨gr, 1, none⟩ = some (.int .i64 pi) := (blk_cell ST.out.br 1).trans rfl
  have vf1 := blk_frozen ST.out.br 1
  have v2 : wr.cell? ⟨gr, 2, none⟩ = some (.int .i64 0) := (blk_cell ST.out.br 2).trans rfl
  have vf2 := blk_frozen ST.out.br 2
  have y0 : wr.cell? ⟨g9, 0, none⟩ = some (.bool true) := (blk_cell ST.out.b9 0).trans rfl
  have yf0 := blk_frozen ST.out.b9 0
  have y1 : wr.cell? ⟨g9, 1, none⟩ = some (.int .i64 0) := (blk_cell ST.out.b9 1).trans rfl
  have yf1 := blk_frozen ST.out.b9 1
  have y2 : wr.cell? ⟨g9, 2, none⟩ = some (.int .i64 0) := (blk_cell ST.out.b9 2).trans rfl
  have yf2 := blk_frozen ST.out.b9 2
  have y3 : wr.cell? ⟨g9, 3, none⟩ = some (.int .i64 0) := (blk_cell ST.out.b9 3).trans rfl
  have yf3 := blk_frozen ST.out.b9 3
  have y4 : wr.cell? ⟨g9, 4, none⟩ = some (.int .i64 0) := (blk_cell ST.out.b9 4).trans rfl
  have yf4 := blk_frozen ST.out.b9 4
  have y5 : wr.cell? ⟨g9, 5, none⟩ = some (.int .i64 i) := (blk_cell ST.out.b9 5).trans rfl
  have yf5 := blk_frozen ST.out.b9 5
  go_upto_region 13 with ((go_at_call 12; (with_reducible refine (height_Check.calls K true 0 0 0 0 i 0 _ HK.out).mono ?_); rintro x_ ws ⟨rfl, hb⟩; have STn := Aside0.mk (HpSt.below ST.out hb); clear ST hb; have ST := STn; clear STn; have s0 : ws.cell? ⟨gr, 0, none⟩ = some (.slice A0 l0.length c0) := (blk_cell ST.out.br 0).trans rfl; have sf0 := blk_frozen ST.out.br 0; have s1 : ws.cell? ⟨gr, 1, none⟩ = some (.int .i64 pi) := (blk_cell ST.out.br 1).trans rfl; have sf1 := blk_frozen ST.out.br 1; have s2 : ws.cell? ⟨gr, 2, none⟩ = some (.int .i64 0) := (blk_cell ST.out.br 2).trans rfl; have sf2 := blk_frozen ST.out.br 2))
  clear v0 vf0 v1 vf1 v2 vf2 y0 yf0 y1 yf1 y2 yf2 y3 yf3 y4 yf4 y5 yf5 s0 sf0 s1 sf1 s2 sf2
  have STd := Aside0.mk (HpSt.drew ST.out)
  clear ST
  have ST := STd
  clear STd
  refine start_ (n := 8) (S := fun w' => w'.cell? ⟨g9, 0, none⟩ = some (.bool true) ∧ w'.cell? ⟨g9, 1, none⟩ = some (.int .i64 0) ∧ w'.cell? ⟨g9, 2, none⟩ = some (.int .i64 0) ∧ w'.cell? ⟨g9, 3, none⟩ = some (.int .i64 0) ∧ w'.cell? ⟨g9, 4, none⟩ = some (.int .i64 0) ∧ w'.cell? ⟨g9, 5, none⟩ = some (.int .i64 i) ∧ w'.cell? ⟨gr, 1, none⟩ = some (.int .i64 pi)) (ds := []) #[false, false, false, false, false, false, false, false] (by kernel_rfl) rfl rfl ⟨(blk_cell ST.out.b9 0).trans rfl, (blk_cell ST.out.b9 1).trans rfl, (blk_cell ST.out.b9 2).trans rfl, (blk_cell ST.out.b9 3).trans rfl, (blk_cell ST.out.b9 4).trans rfl, (blk_cell ST.out.b9 5).trans rfl, (blk_cell ST.out.br 1).trans rfl⟩ (fun hHeld => ?_); refine with_tabW height_Parse.tab13 height_Parse.bits13 (fun HT_ HW_ => ?_)
  generalize ws.drew = wd at ST hHeld ⊢
  have o0 : wd.cell? ⟨g4, 0, none⟩ = some (.bool false) := (blk_cell ST.out.b4 0).trans rfl
  have of0 := blk_frozen ST.out.b4 0
  have o1 : wd.cell? ⟨g4, 1, none⟩ = some (.int .i64 0) := (blk_cell ST.out.b4 1).trans rfl
  have of1 := blk_frozen ST.out.b4 1
  have o2 : wd.cell? ⟨g4, 2, none⟩ = some (.int .i64 0) := (blk_cell ST.out.b4 2).trans rfl
  have of2 := blk_frozen ST.out.b4 2
  have o3 : wd.cell? ⟨g4, 3, none⟩ = some (.int .i64 0) := (blk_cell ST.out.b4 3).trans rfl
  have of3 := blk_frozen ST.out.b4 3
  have o4 : wd.cell? ⟨g4, 4, none⟩ = some (.int .i64 0) := (blk_cell ST.out.b4 4).trans rfl
  have of4 := blk_frozen ST.out.b4 4
  have o5 : wd.cell? ⟨g4, 5, none⟩ = some (.int .i64 0) := (blk_cell ST.out.b4 5).trans rfl
  have of5 := blk_frozen ST.out.b4 5
  have n94 : g9 ≠ g4 := ST.out.d49.symm
  have nr4 : gr ≠ g4 := (blk_ne ST.out.br ST.out.b4 (by decide))
  refine pure_ (i := 1) (N := some 73) (v := ?_) (a' := ?_) #[false, true, false, false, false, false, false, false] rfl rfl (any_of HT_.out (by kernel_rfl)) (fun _ _ _ h => h) (Or.inl ⟨by rfl, ?_⟩) ?_ ?_
  rotate_left
  · intro w'
    go_simp
    with_reducible rfl
  rotate_left
  · simp only [Act.put, List.setIfInBounds_toArray, List.set_cons_zero, List.set_cons_succ, i64_w, i32_w]
    rfl
  refine pure_ (i := 2) (N := some 74) (v := ?_) (a' := ?_) #[false, true, true, false, false, false, false, false] rfl rfl (any_of HT_.out (by kernel_rfl)) (fun _ _ _ h => h) (Or.inl ⟨by rfl, ?_⟩) ?_ ?_
  rotate_left
  · intro w'
    go_simp
    with_reducible rfl
  rotate_left
  · simp only [Act.put, List.setIfInBounds_toArray, List.set_cons_zero, List.set_cons_succ, i64_w, i32_w]
    rfl
  refine pure_ (i := 3) (N := some 75) (v := ?_) (a' := ?_) #[false, true, true, true, false, false, false, false] rfl rfl (any_of HT_.out (by kernel_rfl)) (fun _ _ _ h => h) (Or.inl ⟨by rfl, ?_⟩) ?_ ?_
  rotate_left
  · intro w'
    go_simp
    with_reducible rfl
  rotate_left
  · simp only [Act.put, List.setIfInBounds_toArray, List.set_cons_zero, List.set_cons_succ, i64_w, i32_w]
    rfl
  refine take_ (i := 0) (N := some 72) (v := ?_) (a' := ?_) #[true, true, true, true, false, false, false, false] rfl rfl (take_ofW HT_.out HW_.out (by kernel_rfl)) (fun _ _ _ h => h) (Or.inl ⟨by rfl, ?_⟩) hHeld ?_ ?_
  rotate_left
  · rintro w' ⟨s0, s1, s2, s3, s4, s5, s6⟩
    go_simp
    with_reducible rfl
  rotate_left
  · simp only [Act.put, List.setIfInBounds_toArray, List.set_cons_zero, List.set_cons_succ, i64_w, i32_w]
    rfl
  refine take_ (i := 4) (N := some 76) (v := ?_) (a' := ?_) #[true, true, true, true, true, false, false, false] rfl rfl (take_ofW HT_.out HW_.out (by kernel_rfl)) (fun _ _ _ h => h) (Or.inl ⟨by rfl, ?_⟩) hHeld ?_ ?_
  rotate_left
  · rintro w' ⟨s0, s1, s2, s3, s4, s5, s6⟩
    go_simp
    with_reducible rfl
  rotate_left
  · simp only [Act.put, List.setIfInBounds_toArray, List.set_cons_zero, List.set_cons_succ, i64_w, i32_w]
    rfl
  refine one_ (i := 5) (N := none) #[true, true, true, true, true, true, false, false] rfl rfl (one_of HT_.out (by kernel_rfl)) (by decide) (fun K hK => ?_)
  refine skip_ (w1 := ?_) (by rfl) rfl ?_ ?_
  rotate_left
  · go_simp
    rfl
  refine hK.out _ _ ?_ (fun hHeld2 => ?_)
  · refine ⟨?_, ?_, ?_, ?_, ?_, ?_, ?_⟩
    · (repeat (first | refine (cell_far n94 _).trans ?_ | refine (cell_far nr4 _).trans ?_)); exact hHeld.1
    · (repeat (first | refine (cell_far n94 _).trans ?_ | refine (cell_far nr4 _).trans ?_)); exact hHeld.2.1
    · (repeat (first | refine (cell_far n94 _).trans ?_ | refine (cell_far nr4 _).trans ?_)); exact hHeld.2.2.1
    · (repeat (first | refine (cell_far n94 _).trans ?_ | refine (cell_far nr4 _).trans ?_)); exact hHeld.2.2.2.1
    · (repeat (first | refine (cell_far n94 _).trans ?_ | refine (cell_far nr4 _).trans ?_)); exact hHeld.2.2.2.2.1
    · (repeat (first | refine (cell_far n94 _).trans ?_ | refine (cell_far nr4 _).trans ?_)); exact hHeld.2.2.2.2.2.1
    · (repeat (first | refine (cell_far n94 _).trans ?_ | refine (cell_far nr4 _).trans ?_)); exact hHeld.2.2.2.2.2.2
  clear hHeld
  have hHeld := hHeld2
  clear hHeld2
  clear hK K
  refine pure_ (i := 6) (N := some 5) (v := ?_) (a' := ?_) #[true, true, true, true, true, true, true, false] rfl rfl (any_of HT_.out (by kernel_rfl)) (fun _ _ _ h => h) (Or.inl ⟨by rfl, ?_⟩) ?_ ?_
  rotate_left
  · intro w'
    go_simp
    with_reducible rfl
  rotate_left
  · simp only [Act.put, List.setIfInBounds_toArray, List.set_cons_zero, List.set_cons_succ, i64_w, i32_w]
    rfl
  refine pure_ (i := 7) (N := some 6) (v := ?_) (a' := ?_) #[true, true, true, true, true, true, true, true] rfl rfl (any_of HT_.out (by kernel_rfl)) (fun _ _ _ h => h) (Or.inl ⟨by rfl, ?_⟩) ?_ ?_
  rotate_left
  · intro w'
    go_simp
    with_reducible rfl
  rotate_left
  · simp only [Act.put, List.setIfInBounds_toArray, List.set_cons_zero, List.set_cons_succ, i64_w, i32_w]
    rfl
  refine done_ (done_of HT_.out (by kernel_rfl)) ?_
  clear HT_ HW_
  try go_wp2
  refine bodyPost_ret (results_ctt rfl _ _ g4 23 #[.bool true, .int .i64 0, .int .i64 0, .int .i64 0, .int .i64 0, .int .i64 i] (0, 0) _ rfl (blk_put (blk_put (blk_put (blk_put (blk_put (blk_put ST.out.b4 0 (.bool true) (cs' := #[.bool true, .int .i64 0, .int .i64 0, .int .i64 0, .int .i64 0, .int .i64 0]) rfl) 1 (.int .i64 0) (cs' := #[.bool true, .int .i64 0, .int .i64 0, .int .i64 0, .int .i64 0, .int .i64 0]) rfl) 2 (.int .i64 0) (cs' := #[.bool true, .int .i64 0, .int .i64 0, .int .i64 0, .int .i64 0, .int .i64 0]) rfl) 3 (.int .i64 0) (cs' := #[.bool true, .int .i64 0, .int .i64 0, .int .i64 0, .int .i64 0, .int .i64 0]) rfl) 4 (.int .i64 0) (cs' := #[.bool true, .int .i64 0, .int .i64 0, .int .i64 0, .int .i64 0, .int .i64 0]) rfl) 5 (.int .i64 i) (cs' := #[.bool true, .int .i64 0, .int .i64 0, .int .i64 0, .int .i64 0, .int .i64 i]) rfl) Try.underlying23 rfl (by kernel_rfl)) rfl ?_
  exact ⟨rfl, (below_set (below_set (below_set (below_set (below_set (below_set ST.out.bl ST.out.n4) ST.out.n4) ST.out.n4) ST.out.n4) ST.out.n4) ST.out.n4)⟩
set_option maxHeartbeats 8000000 in
set_option maxRecDepth 100000 in
theorem hp_k_e (A0 : Option Addr) (c0 : Nat) (l0 : List Int) (a1 : Int) (w : World) (k p1 e1 t pt et o po eo r pr er d pd ed i pi ei : Int) (HL : l0.length ≤ 1000000000000) (HY : Bytes l0) (HR0 : Kd.C (Kd.int .u8) w A0 l0.length l0) (HC0 : l0.length ≤ c0) (HG1 : rd1 l0 1 a1 0 = (k, p1, e1)) (he : e1 = 0) (hk : ¬ k = 0) (hg : ¬ 1 < k) (HGt : rd8 l0 p1 0 = (t, pt, et)) (HGo : rd1 l0 1 pt et = (o, po, eo)) (HGr : rd1 l0 1 po eo = (r, pr, er)) (HGd : rd8 l0 pr er = (d, pd, ed)) (HGi : rd1 l0 1 pd ed = (i, pi, ei)) (hf : ¬ ei = 0) :
    Calls Try.prog 27 #[.slice A0 l0.length c0, .int .i64 a1] w fun e w' => e = .returned (.tuple #[.agg #[.bool false, .int .i64 0, .int .i64 0, .int .i64 0, .int .i64 0, .int .i64 0], .int .i64 0, .int .i64 ei]) ∧ Below w.heap.size w w' := by
  have hu23 := Try.underlying23
  have hu67 := Try.underlying67
  replace HL := Aside0.mk HL
  replace HY := Aside0.mk HY
  replace HR0 := Aside0.mk HR0
  replace HC0 := Aside0.mk HC0
  replace HG1 := Aside0.mk HG1
  replace HGt := Aside0.mk HGt
  replace HGo := Aside0.mk HGo
  replace HGr := Aside0.mk HGr
  replace HGd := Aside0.mk HGd
  replace HGi := Aside0.mk HGi
  subst he
  have b2 : (k == 0) = false := beq_eq_false_iff_ne.mpr hk
  have b3 : decide (1 < k) = false := decide_eq_false hg
  clear hk hg
  have b4 : (ei == 0) = false := beq_eq_false_iff_ne.mpr hf
  have b5 : (ei != 0) = true := bne_iff_ne.mpr hf
  clear hf
  go_enter Try.func27, Try.ntmps27
  go_upto_region 4 with (first
    | ((with_reducible refine gate_dst (N := 4) rfl ?_); refine box_event ?hg (N := 4) ?hd (cs := #[.bool false, .int .i64 0, .int .i64 0, .int .i64 0, .int .i64 0, .int .i64 0]) (t := 23) ?hr ?_; (case hd => rfl); (case hg => rfl); (case hr => first | (go_simp; done) | (go_simp; rfl)); intro g4 hg w4 hbox hb; have HB4 := Aside0.mk hb; have G4 := Aside0.mk (Nat.le_of_eq hg.symm); have B4 := Aside0.mk hbox; clear hb hbox hg)
    | ((with_reducible refine gate_dst (N := 13) rfl ?_); refine box_event ?hg (N := 13) ?hd (cs := RdC A0 l0.length c0 a1 0) (t := 67) ?hr ?_; (case hd => rfl); (case hg => rfl); (case hr => first | (go_simp; done) | (go_simp; rfl)); intro gr hg w5 hbox hb; have HB5 := Aside0.mk (below_step HB4.out hb); have GR := Aside0.mk (show w.heap.size ≤ gr by rw [hg]; exact below_size HB4.out); have B45 := Aside0.mk (blk_below B4.out hb); have BR := Aside0.mk hbox; clear hb hbox hg HB4 B4)
    | ((with_reducible refine gate_dst (N := 15) rfl ?_); refine goesL_ (some 15) rfl rfl Try.func39 (by kernel_rfl) rfl #[.pointer (some ⟨gr, 0, none⟩)] rfl (by (try simp only [List.map_toArray, List.map_cons, List.map_nil]); first | done | rfl) ?_; (with_reducible refine (hr_oneG gr A0 c0 l0 a1 0 _ _ _ _ HG1.out HY.out HL.out (Kd.C_below HR0.out HB5.out) HC0.out BR.out).mono ?_); rintro x_ w6 ⟨rfl, hbx, hgr⟩; refine ⟨_, rfl, ?_⟩; have HB6 := Aside0.mk (pw_below_grown HB5.out (some gr) (below_size HB5.out) hgr (fun k_ e_ => by cases e_; exact GR.out)); have B46 := Aside0.mk (blk_grown B45.out hgr (fun e_ => blk_ne B45.out BR.out (by decide) (Option.some.inj e_))); have BR6 := Aside0.mk hbx; clear hbx hgr HB5 B45 BR)
    | ((with_reducible refine gate_dst (N := 9) rfl ?_); refine box_event ?hg (N := 9) ?hd (cs := #[.bool false, .int .i64 0, .int .i64 0, .int .i64 0, .int .i64 0, .int .i64 0]) (t := 23) ?hr ?_; (case hd => rfl); (case hg => rfl); (case hr => first | (go_simp; done) | (go_simp; rfl)); intro g9 hg w7 hbox hb; have ST0 := Aside0.mk (HpSt.mk (blk_below B46.out hb) hbox (blk_below BR6.out hb) (below_step HB6.out hb) G4.out (by rw [hg]; exact below_size HB6.out) GR.out (by rw [hg]; exact Nat.ne_of_lt (blk_lt B46.out))); clear hb hbox hg; have u0 : w7.cell? ⟨g9, 0, none⟩ = some (.bool false) := (blk_cell ST0.out.b9 0).trans rfl; have uf0 := blk_frozen ST0.out.b9 0; have u1 : w7.cell? ⟨g9, 1, none⟩ = some (.int .i64 0) := (blk_cell ST0.out.b9 1).trans rfl; have uf1 := blk_frozen ST0.out.b9 1; have u2 : w7.cell? ⟨g9, 2, none⟩ = some (.int .i64 0) := (blk_cell ST0.out.b9 2).trans rfl; have uf2 := blk_frozen ST0.out.b9 2; have u3 : w7.cell? ⟨g9, 3, none⟩ = some (.int .i64 0) := (blk_cell ST0.out.b9 3).trans rfl; have uf3 := blk_frozen ST0.out.b9 3; have u4 : w7.cell? ⟨g9, 4, none⟩ = some (.int .i64 0) := (blk_cell ST0.out.b9 4).trans rfl; have uf4 := blk_frozen ST0.out.b9 4; have u5 : w7.cell? ⟨g9, 5, none⟩ = some (.int .i64 0) := (blk_cell ST0.out.b9 5).trans rfl; have uf5 := blk_frozen ST0.out.b9 5))
  have ST := Aside0.mk (show HpSt w ((((((w7.setCell ⟨g9, 0, none⟩ (.bool false)).setCell ⟨g9, 1, none⟩ (.int .i64 0)).setCell ⟨g9, 2, none⟩ (.int .i64 0)).setCell ⟨g9, 3, none⟩ (.int .i64 0)).setCell ⟨g9, 4, none⟩ (.int .i64 0)).setCell ⟨g9, 5, none⟩ (.int .i64 0)) A0 l0.length c0 g4 g9 gr p1 0 #[.bool false, .int .i64 0, .int .i64 0, .int .i64 0, .int .i64 0, .int .i64 0] from (HpSt.put (HpSt.put (HpSt.put (HpSt.put (HpSt.put (HpSt.put ST0.out 0 (.bool false) rfl) 1 (.int .i64 0) rfl) 2 (.int .i64 0) rfl) 3 (.int .i64 0) rfl) 4 (.int .i64 0) rfl) 5 (.int .i64 0) rfl))
  generalize ((((((w7.setCell ⟨g9, 0, none⟩ (.bool false)).setCell ⟨g9, 1, none⟩ (.int .i64 0)).setCell ⟨g9, 2, none⟩ (.int .i64 0)).setCell ⟨g9, 3, none⟩ (.int .i64 0)).setCell ⟨g9, 4, none⟩ (.int .i64 0)).setCell ⟨g9, 5, none⟩ (.int .i64 0)) = wq at ST ⊢
  clear ST0 u0 uf0 u1 uf1 u2 uf2 u3 uf3 u4 uf4 u5 uf5
  have v0 : wq.cell? ⟨gr, 0, none⟩ = some (.slice A0 l0.length c0) := (blk_cell ST.out.br 0).trans rfl
  have vf0 := blk_frozen ST.out.br 0
  have v1 : wq.cell? ⟨gr, 1, none⟩ = some (.int .i64 p1) := (blk_cell ST.out.br 1).trans rfl
  have vf1 := blk_frozen ST.out.br 1
  have v2 : wq.cell? ⟨gr, 2, none⟩ = some (.int .i64 0) := (blk_cell ST.out.br 2).trans rfl
  have vf2 := blk_frozen ST.out.br 2
  have y0 : wq.cell? ⟨g9, 0, none⟩ = some (.bool false) := (blk_cell ST.out.b9 0).trans rfl
  have yf0 := blk_frozen ST.out.b9 0
  have y1 : wq.cell? ⟨g9, 1, none⟩ = some (.int .i64 0) := (blk_cell ST.out.b9 1).trans rfl
  have yf1 := blk_frozen ST.out.b9 1
  have y2 : wq.cell? ⟨g9, 2, none⟩ = some (.int .i64 0) := (blk_cell ST.out.b9 2).trans rfl
  have yf2 := blk_frozen ST.out.b9 2
  have y3 : wq.cell? ⟨g9, 3, none⟩ = some (.int .i64 0) := (blk_cell ST.out.b9 3).trans rfl
  have yf3 := blk_frozen ST.out.b9 3
  have y4 : wq.cell? ⟨g9, 4, none⟩ = some (.int .i64 0) := (blk_cell ST.out.b9 4).trans rfl
  have yf4 := blk_frozen ST.out.b9 4
  have y5 : wq.cell? ⟨g9, 5, none⟩ = some (.int .i64 0) := (blk_cell ST.out.b9 5).trans rfl
  have yf5 := blk_frozen ST.out.b9 5
  go_upto_region 9 with (first
    | ((with_reducible refine gate_dst (N := 35) rfl ?_); refine goesL_ (some 35) rfl rfl Try.func40 (by kernel_rfl) rfl #[.pointer (some ⟨gr, 0, none⟩)] rfl (by (try simp only [List.map_toArray, List.map_cons, List.map_nil]); first | done | rfl) ?_; (with_reducible refine (hr_eightG gr A0 c0 l0 p1 0 _ _ _ _ HGt.out HY.out HL.out (Kd.C_below HR0.out ST.out.bl) HC0.out ST.out.br).mono ?_); rintro x_ w35 ⟨rfl, hbx, hgr⟩; refine ⟨_, rfl, ?_⟩; have STn := Aside0.mk (ST.out.step hbx hgr); clear ST hbx hgr; have ST := STn; clear STn)
    | ((with_reducible refine gate_dst (N := 37) rfl ?_); refine goesL_ (some 37) rfl rfl Try.func39 (by kernel_rfl) rfl #[.pointer (some ⟨gr, 0, none⟩)] rfl (by (try simp only [List.map_toArray, List.map_cons, List.map_nil]); first | done | rfl) ?_; (with_reducible refine (hr_oneG gr A0 c0 l0 pt et _ _ _ _ HGo.out HY.out HL.out (Kd.C_below HR0.out ST.out.bl) HC0.out ST.out.br).mono ?_); rintro x_ w37 ⟨rfl, hbx, hgr⟩; refine ⟨_, rfl, ?_⟩; have STn := Aside0.mk (ST.out.step hbx hgr); clear ST hbx hgr; have ST := STn; clear STn)
    | ((with_reducible refine gate_dst (N := 39) rfl ?_); refine goesL_ (some 39) rfl rfl Try.func39 (by kernel_rfl) rfl #[.pointer (some ⟨gr, 0, none⟩)] rfl (by (try simp only [List.map_toArray, List.map_cons, List.map_nil]); first | done | rfl) ?_; (with_reducible refine (hr_oneG gr A0 c0 l0 po eo _ _ _ _ HGr.out HY.out HL.out (Kd.C_below HR0.out ST.out.bl) HC0.out ST.out.br).mono ?_); rintro x_ w39 ⟨rfl, hbx, hgr⟩; refine ⟨_, rfl, ?_⟩; have STn := Aside0.mk (ST.out.step hbx hgr); clear ST hbx hgr; have ST := STn; clear STn)
    | ((with_reducible refine gate_dst (N := 41) rfl ?_); refine goesL_ (some 41) rfl rfl Try.func40 (by kernel_rfl) rfl #[.pointer (some ⟨gr, 0, none⟩)] rfl (by (try simp only [List.map_toArray, List.map_cons, List.map_nil]); first | done | rfl) ?_; (with_reducible refine (hr_eightG gr A0 c0 l0 pr er _ _ _ _ HGd.out HY.out HL.out (Kd.C_below HR0.out ST.out.bl) HC0.out ST.out.br).mono ?_); rintro x_ w41 ⟨rfl, hbx, hgr⟩; refine ⟨_, rfl, ?_⟩; have STn := Aside0.mk (ST.out.step hbx hgr); clear ST hbx hgr; have ST := STn; clear STn; have z0 : w41.cell? ⟨g9, 0, none⟩ = some (.bool false) := (blk_cell ST.out.b9 0).trans rfl; have zf0 := blk_frozen ST.out.b9 0; have z1 : w41.cell? ⟨g9, 1, none⟩ = some (.int .i64 0) := (blk_cell ST.out.b9 1).trans rfl; have zf1 := blk_frozen ST.out.b9 1; have z2 : w41.cell? ⟨g9, 2, none⟩ = some (.int .i64 0) := (blk_cell ST.out.b9 2).trans rfl; have zf2 := blk_frozen ST.out.b9 2; have z3 : w41.cell? ⟨g9, 3, none⟩ = some (.int .i64 0) := (blk_cell ST.out.b9 3).trans rfl; have zf3 := blk_frozen ST.out.b9 3; have z4 : w41.cell? ⟨g9, 4, none⟩ = some (.int .i64 0) := (blk_cell ST.out.b9 4).trans rfl; have zf4 := blk_frozen ST.out.b9 4; have z5 : w41.cell? ⟨g9, 5, none⟩ = some (.int .i64 0) := (blk_cell ST.out.b9 5).trans rfl; have zf5 := blk_frozen ST.out.b9 5)
    | ((with_reducible refine gate_dst (N := 47) rfl ?_); clear z0 zf0 z1 zf1 z2 zf2 z3 zf3 z4 zf4 z5 zf5; have STp := Aside0.mk (HpSt.put (HpSt.put (HpSt.put (HpSt.put ST.out 1 (.int .i64 t) rfl) 2 (.int .i64 o) rfl) 3 (.int .i64 r) rfl) 4 (.int .i64 d) rfl); clear ST; have ST := STp; clear STp; refine goesL_ (some 47) rfl rfl Try.func39 (by kernel_rfl) rfl #[.pointer (some ⟨gr, 0, none⟩)] rfl (by (try simp only [List.map_toArray, List.map_cons, List.map_nil]); first | done | rfl) ?_; (with_reducible refine (hr_oneG gr A0 c0 l0 pd ed _ _ _ _ HGi.out HY.out HL.out (Kd.C_below HR0.out ST.out.bl) HC0.out ST.out.br).mono ?_); rintro x_ w47 ⟨rfl, hbx, hgr⟩; refine ⟨_, rfl, ?_⟩; have STn := Aside0.mk (ST.out.step hbx hgr); clear ST hbx hgr; have ST := STn; clear STn; have x0 : w47.cell? ⟨g9, 0, none⟩ = some (.bool false) := (blk_cell ST.out.b9 0).trans rfl; have xf0 := blk_frozen ST.out.b9 0; have x1 : w47.cell? ⟨g9, 1, none⟩ = some (.int .i64 t) := (blk_cell ST.out.b9 1).trans rfl; have xf1 := blk_frozen ST.out.b9 1; have x2 : w47.cell? ⟨g9, 2, none⟩ = some (.int .i64 o) := (blk_cell ST.out.b9 2).trans rfl; have xf2 := blk_frozen ST.out.b9 2; have x3 : w47.cell? ⟨g9, 3, none⟩ = some (.int .i64 r) := (blk_cell ST.out.b9 3).trans rfl; have xf3 := blk_frozen ST.out.b9 3; have x4 : w47.cell? ⟨g9, 4, none⟩ = some (.int .i64 d) := (blk_cell ST.out.b9 4).trans rfl; have xf4 := blk_frozen ST.out.b9 4; have x5 : w47.cell? ⟨g9, 5, none⟩ = some (.int .i64 0) := (blk_cell ST.out.b9 5).trans rfl; have xf5 := blk_frozen ST.out.b9 5))
  have STn := Aside0.mk (HpSt.put ST.out 5 (.int .i64 i) (cs2 := #[.bool false, .int .i64 t, .int .i64 o, .int .i64 r, .int .i64 d, .int .i64 i]) rfl)
  clear ST
  have ST := STn
  clear STn x0 xf0 x1 xf1 x2 xf2 x3 xf3 x4 xf4 x5 xf5
  clear v0 vf0 v1 vf1 v2 vf2
  clear y0 yf0 y1 yf1 y2 yf2 y3 yf3 y4 yf4 y5 yf5
  generalize (w47.setCell ⟨g9, 5, none⟩ (.int .i64 i)) = wr at ST ⊢
  have v0 : wr.cell? ⟨gr, 0, none⟩ = some (.slice A0 l0.length c0) := (blk_cell ST.out.br 0).trans rfl
  have vf0 := blk_frozen ST.out.br 0
  have v1 : wr.cell? ⟨gr, 1, none⟩ = some (.int .i64 pi) := (blk_cell ST.out.br 1).trans rfl
  have vf1 := blk_frozen ST.out.br 1
  have v2 : wr.cell? ⟨gr, 2, none⟩ = some (.int .i64 ei) := (blk_cell ST.out.br 2).trans rfl
  have vf2 := blk_frozen ST.out.br 2
  have y0 : wr.cell? ⟨g9, 0, none⟩ = some (.bool false) := (blk_cell ST.out.b9 0).trans rfl
  have yf0 := blk_frozen ST.out.b9 0
  have y1 : wr.cell? ⟨g9, 1, none⟩ = some (.int .i64 t) := (blk_cell ST.out.b9 1).trans rfl
  have yf1 := blk_frozen ST.out.b9 1
  have y2 : wr.cell? ⟨g9, 2, none⟩ = some (.int .i64 o) := (blk_cell ST.out.b9 2).trans rfl
  have yf2 := blk_frozen ST.out.b9 2
  have y3 : wr.cell? ⟨g9, 3, none⟩ = some (.int .i64 r) := (blk_cell ST.out.b9 3).trans rfl
  have yf3 := blk_frozen ST.out.b9 3
  have y4 : wr.cell? ⟨g9, 4, none⟩ = some (.int .i64 d) := (blk_cell ST.out.b9 4).trans rfl
  have yf4 := blk_frozen ST.out.b9 4
  have y5 : wr.cell? ⟨g9, 5, none⟩ = some (.int .i64 i) := (blk_cell ST.out.b9 5).trans rfl
  have yf5 := blk_frozen ST.out.b9 5
  go_upto_region 12 with (fail)
  have STd := Aside0.mk (HpSt.drew ST.out)
  clear ST
  have ST := STd
  clear STd
  refine start_ (n := 8) (S := fun w' => w'.cell? ⟨gr, 2, none⟩ = some (.int .i64 ei)) (ds := []) #[false, false, false, false, false, false, false, false] (by kernel_rfl) rfl rfl ((blk_cell ST.out.br 2).trans rfl) (fun hHeld => ?_); refine with_tabW height_Parse.tab12 height_Parse.bits12 (fun HT_ HW_ => ?_)
  generalize wr.drew = wd at ST hHeld ⊢
  have o0 : wd.cell? ⟨g4, 0, none⟩ = some (.bool false) := (blk_cell ST.out.b4 0).trans rfl
  have of0 := blk_frozen ST.out.b4 0
  have o1 : wd.cell? ⟨g4, 1, none⟩ = some (.int .i64 0) := (blk_cell ST.out.b4 1).trans rfl
  have of1 := blk_frozen ST.out.b4 1
  have o2 : wd.cell? ⟨g4, 2, none⟩ = some (.int .i64 0) := (blk_cell ST.out.b4 2).trans rfl
  have of2 := blk_frozen ST.out.b4 2
  have o3 : wd.cell? ⟨g4, 3, none⟩ = some (.int .i64 0) := (blk_cell ST.out.b4 3).trans rfl
  have of3 := blk_frozen ST.out.b4 3
  have o4 : wd.cell? ⟨g4, 4, none⟩ = some (.int .i64 0) := (blk_cell ST.out.b4 4).trans rfl
  have of4 := blk_frozen ST.out.b4 4
  have o5 : wd.cell? ⟨g4, 5, none⟩ = some (.int .i64 0) := (blk_cell ST.out.b4 5).trans rfl
  have of5 := blk_frozen ST.out.b4 5
  have n94 : g9 ≠ g4 := ST.out.d49.symm
  have nr4 : gr ≠ g4 := (blk_ne ST.out.br ST.out.b4 (by decide))
  refine pure_ (i := 0) (N := some 67) (v := ?_) (a' := ?_) #[true, false, false, false, false, false, false, false] rfl rfl (any_of HT_.out (by kernel_rfl)) (fun _ _ _ h => h) (Or.inl ⟨by rfl, ?_⟩) ?_ ?_
  rotate_left
  · intro w'
    go_simp
    with_reducible rfl
  rotate_left
  · simp only [Act.put, List.setIfInBounds_toArray, List.set_cons_zero, List.set_cons_succ, i64_w, i32_w]
    rfl
  refine pure_ (i := 1) (N := some 68) (v := ?_) (a' := ?_) #[true, true, false, false, false, false, false, false] rfl rfl (any_of HT_.out (by kernel_rfl)) (fun _ _ _ h => h) (Or.inl ⟨by rfl, ?_⟩) ?_ ?_
  rotate_left
  · intro w'
    go_simp
    with_reducible rfl
  rotate_left
  · simp only [Act.put, List.setIfInBounds_toArray, List.set_cons_zero, List.set_cons_succ, i64_w, i32_w]
    rfl
  refine pure_ (i := 2) (N := some 69) (v := ?_) (a' := ?_) #[true, true, true, false, false, false, false, false] rfl rfl (any_of HT_.out (by kernel_rfl)) (fun _ _ _ h => h) (Or.inl ⟨by rfl, ?_⟩) ?_ ?_
  rotate_left
  · intro w'
    go_simp
    with_reducible rfl
  rotate_left
  · simp only [Act.put, List.setIfInBounds_toArray, List.set_cons_zero, List.set_cons_succ, i64_w, i32_w]
    rfl
  refine pure_ (i := 3) (N := some 70) (v := ?_) (a' := ?_) #[true, true, true, true, false, false, false, false] rfl rfl (any_of HT_.out (by kernel_rfl)) (fun _ _ _ h => h) (Or.inl ⟨by rfl, ?_⟩) ?_ ?_
  rotate_left
  · intro w'
    go_simp
    with_reducible rfl
  rotate_left
  · simp only [Act.put, List.setIfInBounds_toArray, List.set_cons_zero, List.set_cons_succ, i64_w, i32_w]
    rfl
  refine take_ (i := 4) (N := some 71) (v := ?_) (a' := ?_) #[true, true, true, true, true, false, false, false] rfl rfl (take_ofW HT_.out HW_.out (by kernel_rfl)) (fun _ _ _ h => h) (Or.inl ⟨by rfl, ?_⟩) hHeld ?_ ?_
  rotate_left
  · intro w' s0
    go_simp
    with_reducible rfl
  rotate_left
  · simp only [Act.put, List.setIfInBounds_toArray, List.set_cons_zero, List.set_cons_succ, i64_w, i32_w]
    rfl
  refine one_ (i := 5) (N := none) #[true, true, true, true, true, true, false, false] rfl rfl (one_of HT_.out (by kernel_rfl)) (by decide) (fun K hK => ?_)
  refine skip_ (w1 := ?_) (by rfl) rfl ?_ ?_
  rotate_left
  · go_simp
    rfl
  refine hK.out _ _ ?_ (fun hHeld2 => ?_)
  · (repeat (first | refine (cell_far n94 _).trans ?_ | refine (cell_far nr4 _).trans ?_)); exact hHeld
  clear hHeld
  have hHeld := hHeld2
  clear hHeld2
  clear hK K
  refine pure_ (i := 6) (N := some 5) (v := ?_) (a' := ?_) #[true, true, true, true, true, true, true, false] rfl rfl (any_of HT_.out (by kernel_rfl)) (fun _ _ _ h => h) (Or.inl ⟨by rfl, ?_⟩) ?_ ?_
  rotate_left
  · intro w'
    go_simp
    with_reducible rfl
  rotate_left
  · simp only [Act.put, List.setIfInBounds_toArray, List.set_cons_zero, List.set_cons_succ, i64_w, i32_w]
    rfl
  refine pure_ (i := 7) (N := some 6) (v := ?_) (a' := ?_) #[true, true, true, true, true, true, true, true] rfl rfl (any_of HT_.out (by kernel_rfl)) (fun _ _ _ h => h) (Or.inl ⟨by rfl, ?_⟩) ?_ ?_
  rotate_left
  · intro w'
    go_simp
    with_reducible rfl
  rotate_left
  · simp only [Act.put, List.setIfInBounds_toArray, List.set_cons_zero, List.set_cons_succ, i64_w, i32_w]
    rfl
  refine done_ (done_of HT_.out (by kernel_rfl)) ?_
  clear HT_ HW_
  try go_wp2
  refine bodyPost_ret (results_ctt rfl _ _ g4 23 #[.bool false, .int .i64 0, .int .i64 0, .int .i64 0, .int .i64 0, .int .i64 0] (0, 0) _ rfl (blk_put (blk_put (blk_put (blk_put (blk_put (blk_put ST.out.b4 0 (.bool false) (cs' := #[.bool false, .int .i64 0, .int .i64 0, .int .i64 0, .int .i64 0, .int .i64 0]) rfl) 1 (.int .i64 0) (cs' := #[.bool false, .int .i64 0, .int .i64 0, .int .i64 0, .int .i64 0, .int .i64 0]) rfl) 2 (.int .i64 0) (cs' := #[.bool false, .int .i64 0, .int .i64 0, .int .i64 0, .int .i64 0, .int .i64 0]) rfl) 3 (.int .i64 0) (cs' := #[.bool false, .int .i64 0, .int .i64 0, .int .i64 0, .int .i64 0, .int .i64 0]) rfl) 4 (.int .i64 0) (cs' := #[.bool false, .int .i64 0, .int .i64 0, .int .i64 0, .int .i64 0, .int .i64 0]) rfl) 5 (.int .i64 0) (cs' := #[.bool false, .int .i64 0, .int .i64 0, .int .i64 0, .int .i64 0, .int .i64 0]) rfl) Try.underlying23 rfl (by kernel_rfl)) rfl ?_
  exact ⟨rfl, (below_set (below_set (below_set (below_set (below_set (below_set ST.out.bl ST.out.n4) ST.out.n4) ST.out.n4) ST.out.n4) ST.out.n4) ST.out.n4)⟩
set_option maxHeartbeats 8000000 in
set_option maxRecDepth 100000 in
theorem hp_k_no (A0 : Option Addr) (c0 : Nat) (l0 : List Int) (a1 : Int) (w : World) (k p1 e1 t pt et o po eo r pr er d pd ed i pi ei : Int) (HL : l0.length ≤ 1000000000000) (HY : Bytes l0) (HR0 : Kd.C (Kd.int .u8) w A0 l0.length l0) (HC0 : l0.length ≤ c0) (HG1 : rd1 l0 1 a1 0 = (k, p1, e1)) (he : e1 = 0) (hk : ¬ k = 0) (hg : ¬ 1 < k) (HGt : rd8 l0 p1 0 = (t, pt, et)) (HGo : rd1 l0 1 pt et = (o, po, eo)) (HGr : rd1 l0 1 po eo = (r, pr, er)) (HGd : rd8 l0 pr er = (d, pd, ed)) (HGi : rd1 l0 1 pd ed = (i, pi, ei)) (hf : ei = 0) (hr : ¬ RH false t o r d i) :
    Calls Try.prog 27 #[.slice A0 l0.length c0, .int .i64 a1] w fun e w' => e = .returned (.tuple #[.agg #[.bool false, .int .i64 0, .int .i64 0, .int .i64 0, .int .i64 0, .int .i64 0], .int .i64 0, .int .i64 4]) ∧ Below w.heap.size w w' := by
  have hu23 := Try.underlying23
  have hu67 := Try.underlying67
  replace HL := Aside0.mk HL
  replace HY := Aside0.mk HY
  replace HR0 := Aside0.mk HR0
  replace HC0 := Aside0.mk HC0
  replace HG1 := Aside0.mk HG1
  replace HGt := Aside0.mk HGt
  replace HGo := Aside0.mk HGo
  replace HGr := Aside0.mk HGr
  replace HGd := Aside0.mk HGd
  replace HGi := Aside0.mk HGi
  subst he
  have b2 : (k == 0) = false := beq_eq_false_iff_ne.mpr hk
  have b3 : decide (1 < k) = false := decide_eq_false hg
  clear hk hg
  subst hf
  obtain ⟨K, hK⟩ := (hc_eq false t o r d i).rounds
  rw [if_neg hr] at hK
  have HK := Aside0.mk hK
  clear hK hr
  go_enter Try.func27, Try.ntmps27
  go_upto_region 4 with (first
    | ((with_reducible refine gate_dst (N := 4) rfl ?_); refine box_event ?hg (N := 4) ?hd (cs := #[.bool false, .int .i64 0, .int .i64 0, .int .i64 0, .int .i64 0, .int .i64 0]) (t := 23) ?hr ?_; (case hd => rfl); (case hg => rfl); (case hr => first | (go_simp; done) | (go_simp; rfl)); intro g4 hg w4 hbox hb; have HB4 := Aside0.mk hb; have G4 := Aside0.mk (Nat.le_of_eq hg.symm); have B4 := Aside0.mk hbox; clear hb hbox hg)
    | ((with_reducible refine gate_dst (N := 13) rfl ?_); refine box_event ?hg (N := 13) ?hd (cs := RdC A0 l0.length c0 a1 0) (t := 67) ?hr ?_; (case hd => rfl); (case hg => rfl); (case hr => first | (go_simp; done) | (go_simp; rfl)); intro gr hg w5 hbox hb; have HB5 := Aside0.mk (below_step HB4.out hb); have GR := Aside0.mk (show w.heap.size ≤ gr by rw [hg]; exact below_size HB4.out); have B45 := Aside0.mk (blk_below B4.out hb); have BR := Aside0.mk hbox; clear hb hbox hg HB4 B4)
    | ((with_reducible refine gate_dst (N := 15) rfl ?_); refine goesL_ (some 15) rfl rfl Try.func39 (by kernel_rfl) rfl #[.pointer (some ⟨gr, 0, none⟩)] rfl (by (try simp only [List.map_toArray, List.map_cons, List.map_nil]); first | done | rfl) ?_; (with_reducible refine (hr_oneG gr A0 c0 l0 a1 0 _ _ _ _ HG1.out HY.out HL.out (Kd.C_below HR0.out HB5.out) HC0.out BR.out).mono ?_); rintro x_ w6 ⟨rfl, hbx, hgr⟩; refine ⟨_, rfl, ?_⟩; have HB6 := Aside0.mk (pw_below_grown HB5.out (some gr) (below_size HB5.out) hgr (fun k_ e_ => by cases e_; exact GR.out)); have B46 := Aside0.mk (blk_grown B45.out hgr (fun e_ => blk_ne B45.out BR.out (by decide) (Option.some.inj e_))); have BR6 := Aside0.mk hbx; clear hbx hgr HB5 B45 BR)
    | ((with_reducible refine gate_dst (N := 9) rfl ?_); refine box_event ?hg (N := 9) ?hd (cs := #[.bool false, .int .i64 0, .int .i64 0, .int .i64 0, .int .i64 0, .int .i64 0]) (t := 23) ?hr ?_; (case hd => rfl); (case hg => rfl); (case hr => first | (go_simp; done) | (go_simp; rfl)); intro g9 hg w7 hbox hb; have ST0 := Aside0.mk (HpSt.mk (blk_below B46.out hb) hbox (blk_below BR6.out hb) (below_step HB6.out hb) G4.out (by rw [hg]; exact below_size HB6.out) GR.out (by rw [hg]; exact Nat.ne_of_lt (blk_lt B46.out))); clear hb hbox hg; have u0 : w7.cell? ⟨g9, 0, none⟩ = some (.bool false) := (blk_cell ST0.out.b9 0).trans rfl; have uf0 := blk_frozen ST0.out.b9 0; have u1 : w7.cell? ⟨g9, 1, none⟩ = some (.int .i64 0) := (blk_cell ST0.out.b9 1).trans rfl; have uf1 := blk_frozen ST0.out.b9 1; have u2 : w7.cell? ⟨g9, 2, none⟩ = some (.int .i64 0) := (blk_cell ST0.out.b9 2).trans rfl; have uf2 := blk_frozen ST0.out.b9 2; have u3 : w7.cell? ⟨g9, 3, none⟩ = some (.int .i64 0) := (blk_cell ST0.out.b9 3).trans rfl; have uf3 := blk_frozen ST0.out.b9 3; have u4 : w7.cell? ⟨g9, 4, none⟩ = some (.int .i64 0) := (blk_cell ST0.out.b9 4).trans rfl; have uf4 := blk_frozen ST0.out.b9 4; have u5 : w7.cell? ⟨g9, 5, none⟩ = some (.int .i64 0) := (blk_cell ST0.out.b9 5).trans rfl; have uf5 := blk_frozen ST0.out.b9 5))
  have ST := Aside0.mk (show HpSt w ((((((w7.setCell ⟨g9, 0, none⟩ (.bool false)).setCell ⟨g9, 1, none⟩ (.int .i64 0)).setCell ⟨g9, 2, none⟩ (.int .i64 0)).setCell ⟨g9, 3, none⟩ (.int .i64 0)).setCell ⟨g9, 4, none⟩ (.int .i64 0)).setCell ⟨g9, 5, none⟩ (.int .i64 0)) A0 l0.length c0 g4 g9 gr p1 0 #[.bool false, .int .i64 0, .int .i64 0, .int .i64 0, .int .i64 0, .int .i64 0] from (HpSt.put (HpSt.put (HpSt.put (HpSt.put (HpSt.put (HpSt.put ST0.out 0 (.bool false) rfl) 1 (.int .i64 0) rfl) 2 (.int .i64 0) rfl) 3 (.int .i64 0) rfl) 4 (.int .i64 0) rfl) 5 (.int .i64 0) rfl))
  generalize ((((((w7.setCell ⟨g9, 0, none⟩ (.bool false)).setCell ⟨g9, 1, none⟩ (.int .i64 0)).setCell ⟨g9, 2, none⟩ (.int .i64 0)).setCell ⟨g9, 3, none⟩ (.int .i64 0)).setCell ⟨g9, 4, none⟩ (.int .i64 0)).setCell ⟨g9, 5, none⟩ (.int .i64 0)) = wq at ST ⊢
  clear ST0 u0 uf0 u1 uf1 u2 uf2 u3 uf3 u4 uf4 u5 uf5
  have v0 : wq.cell? ⟨gr, 0, none⟩ = some (.slice A0 l0.length c0) := (blk_cell ST.out.br 0).trans rfl
  have vf0 := blk_frozen ST.out.br 0
  have v1 : wq.cell? ⟨gr, 1, none⟩ = some (.int .i64 p1) := (blk_cell ST.out.br 1).trans rfl
  have vf1 := blk_frozen ST.out.br 1
  have v2 : wq.cell? ⟨gr, 2, none⟩ = some (.int .i64 0) := (blk_cell ST.out.br 2).trans rfl
  have vf2 := blk_frozen ST.out.br 2
  have y0 : wq.cell? ⟨g9, 0, none⟩ = some (.bool false) := (blk_cell ST.out.b9 0).trans rfl
  have yf0 := blk_frozen ST.out.b9 0
  have y1 : wq.cell? ⟨g9, 1, none⟩ = some (.int .i64 0) := (blk_cell ST.out.b9 1).trans rfl
  have yf1 := blk_frozen ST.out.b9 1
  have y2 : wq.cell? ⟨g9, 2, none⟩ = some (.int .i64 0) := (blk_cell ST.out.b9 2).trans rfl
  have yf2 := blk_frozen ST.out.b9 2
  have y3 : wq.cell? ⟨g9, 3, none⟩ = some (.int .i64 0) := (blk_cell ST.out.b9 3).trans rfl
  have yf3 := blk_frozen ST.out.b9 3
  have y4 : wq.cell? ⟨g9, 4, none⟩ = some (.int .i64 0) := (blk_cell ST.out.b9 4).trans rfl
  have yf4 := blk_frozen ST.out.b9 4
  have y5 : wq.cell? ⟨g9, 5, none⟩ = some (.int .i64 0) := (blk_cell ST.out.b9 5).trans rfl
  have yf5 := blk_frozen ST.out.b9 5
  go_upto_region 9 with (first
    | ((with_reducible refine gate_dst (N := 35) rfl ?_); refine goesL_ (some 35) rfl rfl Try.func40 (by kernel_rfl) rfl #[.pointer (some ⟨gr, 0, none⟩)] rfl (by (try simp only [List.map_toArray, List.map_cons, List.map_nil]); first | done | rfl) ?_; (with_reducible refine (hr_eightG gr A0 c0 l0 p1 0 _ _ _ _ HGt.out HY.out HL.out (Kd.C_below HR0.out ST.out.bl) HC0.out ST.out.br).mono ?_); rintro x_ w35 ⟨rfl, hbx, hgr⟩; refine ⟨_, rfl, ?_⟩; have STn := Aside0.mk (ST.out.step hbx hgr); clear ST hbx hgr; have ST := STn; clear STn)
    | ((with_reducible refine gate_dst (N := 37) rfl ?_); refine goesL_ (some 37) rfl rfl Try.func39 (by kernel_rfl) rfl #[.pointer (some ⟨gr, 0, none⟩)] rfl (by (try simp only [List.map_toArray, List.map_cons, List.map_nil]); first | done | rfl) ?_; (with_reducible refine (hr_oneG gr A0 c0 l0 pt et _ _ _ _ HGo.out HY.out HL.out (Kd.C_below HR0.out ST.out.bl) HC0.out ST.out.br).mono ?_); rintro x_ w37 ⟨rfl, hbx, hgr⟩; refine ⟨_, rfl, ?_⟩; have STn := Aside0.mk (ST.out.step hbx hgr); clear ST hbx hgr; have ST := STn; clear STn)
    | ((with_reducible refine gate_dst (N := 39) rfl ?_); refine goesL_ (some 39) rfl rfl Try.func39 (by kernel_rfl) rfl #[.pointer (some ⟨gr, 0, none⟩)] rfl (by (try simp only [List.map_toArray, List.map_cons, List.map_nil]); first | done | rfl) ?_; (with_reducible refine (hr_oneG gr A0 c0 l0 po eo _ _ _ _ HGr.out HY.out HL.out (Kd.C_below HR0.out ST.out.bl) HC0.out ST.out.br).mono ?_); rintro x_ w39 ⟨rfl, hbx, hgr⟩; refine ⟨_, rfl, ?_⟩; have STn := Aside0.mk (ST.out.step hbx hgr); clear ST hbx hgr; have ST := STn; clear STn)
    | ((with_reducible refine gate_dst (N := 41) rfl ?_); refine goesL_ (some 41) rfl rfl Try.func40 (by kernel_rfl) rfl #[.pointer (some ⟨gr, 0, none⟩)] rfl (by (try simp only [List.map_toArray, List.map_cons, List.map_nil]); first | done | rfl) ?_; (with_reducible refine (hr_eightG gr A0 c0 l0 pr er _ _ _ _ HGd.out HY.out HL.out (Kd.C_below HR0.out ST.out.bl) HC0.out ST.out.br).mono ?_); rintro x_ w41 ⟨rfl, hbx, hgr⟩; refine ⟨_, rfl, ?_⟩; have STn := Aside0.mk (ST.out.step hbx hgr); clear ST hbx hgr; have ST := STn; clear STn; have z0 : w41.cell? ⟨g9, 0, none⟩ = some (.bool false) := (blk_cell ST.out.b9 0).trans rfl; have zf0 := blk_frozen ST.out.b9 0; have z1 : w41.cell? ⟨g9, 1, none⟩ = some (.int .i64 0) := (blk_cell ST.out.b9 1).trans rfl; have zf1 := blk_frozen ST.out.b9 1; have z2 : w41.cell? ⟨g9, 2, none⟩ = some (.int .i64 0) := (blk_cell ST.out.b9 2).trans rfl; have zf2 := blk_frozen ST.out.b9 2; have z3 : w41.cell? ⟨g9, 3, none⟩ = some (.int .i64 0) := (blk_cell ST.out.b9 3).trans rfl; have zf3 := blk_frozen ST.out.b9 3; have z4 : w41.cell? ⟨g9, 4, none⟩ = some (.int .i64 0) := (blk_cell ST.out.b9 4).trans rfl; have zf4 := blk_frozen ST.out.b9 4; have z5 : w41.cell? ⟨g9, 5, none⟩ = some (.int .i64 0) := (blk_cell ST.out.b9 5).trans rfl; have zf5 := blk_frozen ST.out.b9 5)
    | ((with_reducible refine gate_dst (N := 47) rfl ?_); clear z0 zf0 z1 zf1 z2 zf2 z3 zf3 z4 zf4 z5 zf5; have STp := Aside0.mk (HpSt.put (HpSt.put (HpSt.put (HpSt.put ST.out 1 (.int .i64 t) rfl) 2 (.int .i64 o) rfl) 3 (.int .i64 r) rfl) 4 (.int .i64 d) rfl); clear ST; have ST := STp; clear STp; refine goesL_ (some 47) rfl rfl Try.func39 (by kernel_rfl) rfl #[.pointer (some ⟨gr, 0, none⟩)] rfl (by (try simp only [List.map_toArray, List.map_cons, List.map_nil]); first | done | rfl) ?_; (with_reducible refine (hr_oneG gr A0 c0 l0 pd ed _ _ _ _ HGi.out HY.out HL.out (Kd.C_below HR0.out ST.out.bl) HC0.out ST.out.br).mono ?_); rintro x_ w47 ⟨rfl, hbx, hgr⟩; refine ⟨_, rfl, ?_⟩; have STn := Aside0.mk (ST.out.step hbx hgr); clear ST hbx hgr; have ST := STn; clear STn; have x0 : w47.cell? ⟨g9, 0, none⟩ = some (.bool false) := (blk_cell ST.out.b9 0).trans rfl; have xf0 := blk_frozen ST.out.b9 0; have x1 : w47.cell? ⟨g9, 1, none⟩ = some (.int .i64 t) := (blk_cell ST.out.b9 1).trans rfl; have xf1 := blk_frozen ST.out.b9 1; have x2 : w47.cell? ⟨g9, 2, none⟩ = some (.int .i64 o) := (blk_cell ST.out.b9 2).trans rfl; have xf2 := blk_frozen ST.out.b9 2; have x3 : w47.cell? ⟨g9, 3, none⟩ = some (.int .i64 r) := (blk_cell ST.out.b9 3).trans rfl; have xf3 := blk_frozen ST.out.b9 3; have x4 : w47.cell? ⟨g9, 4, none⟩ = some (.int .i64 d) := (blk_cell ST.out.b9 4).trans rfl; have xf4 := blk_frozen ST.out.b9 4; have x5 : w47.cell? ⟨g9, 5, none⟩ = some (.int .i64 0) := (blk_cell ST.out.b9 5).trans rfl; have xf5 := blk_frozen ST.out.b9 5))
  have STn := Aside0.mk (HpSt.put ST.out 5 (.int .i64 i) (cs2 := #[.bool false, .int .i64 t, .int .i64 o, .int .i64 r, .int .i64 d, .int .i64 i]) rfl)
  clear ST
  have ST := STn
  clear STn x0 xf0 x1 xf1 x2 xf2 x3 xf3 x4 xf4 x5 xf5
  clear v0 vf0 v1 vf1 v2 vf2
  clear y0 yf0 y1 yf1 y2 yf2 y3 yf3 y4 yf4 y5 yf5
  generalize (w47.setCell ⟨g9, 5, none⟩ (.int .i64 i)) = wr at ST ⊢
  have v0 : wr.cell? ⟨gr, 0, none⟩ = some (.slice A0 l0.length c0) := (blk_cell ST.out.br 0).trans rfl
  have vf0 := blk_frozen ST.out.br 0
  have v1 : wr.cell? ⟨gr, 1, none⟩ = some (.int .i64 pi) := (blk_cell ST.out.br 1).trans rfl
  have vf1 := blk_frozen ST.out.br 1
  have v2 : wr.cell? ⟨gr, 2, none⟩ = some (.int .i64 0) := (blk_cell ST.out.br 2).trans rfl
  have vf2 := blk_frozen ST.out.br 2
  have y0 : wr.cell? ⟨g9, 0, none⟩ = some (.bool false) := (blk_cell ST.out.b9 0).trans rfl
  have yf0 := blk_frozen ST.out.b9 0
  have y1 : wr.cell? ⟨g9, 1, none⟩ = some (.int .i64 t) := (blk_cell ST.out.b9 1).trans rfl
  have yf1 := blk_frozen ST.out.b9 1
  have y2 : wr.cell? ⟨g9, 2, none⟩ = some (.int .i64 o) := (blk_cell ST.out.b9 2).trans rfl
  have yf2 := blk_frozen ST.out.b9 2
  have y3 : wr.cell? ⟨g9, 3, none⟩ = some (.int .i64 r) := (blk_cell ST.out.b9 3).trans rfl
  have yf3 := blk_frozen ST.out.b9 3
  have y4 : wr.cell? ⟨g9, 4, none⟩ = some (.int .i64 d) := (blk_cell ST.out.b9 4).trans rfl
  have yf4 := blk_frozen ST.out.b9 4
  have y5 : wr.cell? ⟨g9, 5, none⟩ = some (.int .i64 i) := (blk_cell ST.out.b9 5).trans rfl
  have yf5 := blk_frozen ST.out.b9 5
  go_upto_region 12 with ((go_at_call 12; (with_reducible refine (height_Check.calls K false t o r d i 1 _ HK.out).mono ?_); rintro x_ ws ⟨rfl, hb⟩; have STn := Aside0.mk (HpSt.below ST.out hb); clear ST hb; have ST := STn; clear STn; have s0 : ws.cell? ⟨gr, 0, none⟩ = some (.slice A0 l0.length c0) := (blk_cell ST.out.br 0).trans rfl; have sf0 := blk_frozen ST.out.br 0; have s1 : ws.cell? ⟨gr, 1, none⟩ = some (.int .i64 pi) := (blk_cell ST.out.br 1).trans rfl; have sf1 := blk_frozen ST.out.br 1; have s2 : ws.cell? ⟨gr, 2, none⟩ = some (.int .i64 0) := (blk_cell ST.out.br 2).trans rfl; have sf2 := blk_frozen ST.out.br 2))
  clear v0 vf0 v1 vf1 v2 vf2 y0 yf0 y1 yf1 y2 yf2 y3 yf3 y4 yf4 y5 yf5 s0 sf0 s1 sf1 s2 sf2
  have STn := Aside0.mk (HpSt.err ST.out 4)
  clear ST
  have ST := STn
  clear STn
  generalize (ws.setCell ⟨gr, 2, none⟩ (.int .i64 4)) = wt at ST ⊢
  have STd := Aside0.mk (HpSt.drew ST.out)
  clear ST
  have ST := STd
  clear STd
  refine start_ (n := 8) (S := fun w' => w'.cell? ⟨gr, 2, none⟩ = some (.int .i64 4)) (ds := []) #[false, false, false, false, false, false, false, false] (by kernel_rfl) rfl rfl ((blk_cell ST.out.br 2).trans rfl) (fun hHeld => ?_); refine with_tabW height_Parse.tab12 height_Parse.bits12 (fun HT_ HW_ => ?_)
  generalize wt.drew = wd at ST hHeld ⊢
  have o0 : wd.cell? ⟨g4, 0, none⟩ = some (.bool false) := (blk_cell ST.out.b4 0).trans rfl
  have of0 := blk_frozen ST.out.b4 0
  have o1 : wd.cell? ⟨g4, 1, none⟩ = some (.int .i64 0) := (blk_cell ST.out.b4 1).trans rfl
  have of1 := blk_frozen ST.out.b4 1
  have o2 : wd.cell? ⟨g4, 2, none⟩ = some (.int .i64 0) := (blk_cell ST.out.b4 2).trans rfl
  have of2 := blk_frozen ST.out.b4 2
  have o3 : wd.cell? ⟨g4, 3, none⟩ = some (.int .i64 0) := (blk_cell ST.out.b4 3).trans rfl
  have of3 := blk_frozen ST.out.b4 3
  have o4 : wd.cell? ⟨g4, 4, none⟩ = some (.int .i64 0) := (blk_cell ST.out.b4 4).trans rfl
  have of4 := blk_frozen ST.out.b4 4
  have o5 : wd.cell? ⟨g4, 5, none⟩ = some (.int .i64 0) := (blk_cell ST.out.b4 5).trans rfl
  have of5 := blk_frozen ST.out.b4 5
  have n94 : g9 ≠ g4 := ST.out.d49.symm
  have nr4 : gr ≠ g4 := (blk_ne ST.out.br ST.out.b4 (by decide))
  refine pure_ (i := 0) (N := some 67) (v := ?_) (a' := ?_) #[true, false, false, false, false, false, false, false] rfl rfl (any_of HT_.out (by kernel_rfl)) (fun _ _ _ h => h) (Or.inl ⟨by rfl, ?_⟩) ?_ ?_
  rotate_left
  · intro w'
    go_simp
    with_reducible rfl
  rotate_left
  · simp only [Act.put, List.setIfInBounds_toArray, List.set_cons_zero, List.set_cons_succ, i64_w, i32_w]
    rfl
  refine pure_ (i := 1) (N := some 68) (v := ?_) (a' := ?_) #[true, true, false, false, false, false, false, false] rfl rfl (any_of HT_.out (by kernel_rfl)) (fun _ _ _ h => h) (Or.inl ⟨by rfl, ?_⟩) ?_ ?_
  rotate_left
  · intro w'
    go_simp
    with_reducible rfl
  rotate_left
  · simp only [Act.put, List.setIfInBounds_toArray, List.set_cons_zero, List.set_cons_succ, i64_w, i32_w]
    rfl
  refine pure_ (i := 2) (N := some 69) (v := ?_) (a' := ?_) #[true, true, true, false, false, false, false, false] rfl rfl (any_of HT_.out (by kernel_rfl)) (fun _ _ _ h => h) (Or.inl ⟨by rfl, ?_⟩) ?_ ?_
  rotate_left
  · intro w'
    go_simp
    with_reducible rfl
  rotate_left
  · simp only [Act.put, List.setIfInBounds_toArray, List.set_cons_zero, List.set_cons_succ, i64_w, i32_w]
    rfl
  refine pure_ (i := 3) (N := some 70) (v := ?_) (a' := ?_) #[true, true, true, true, false, false, false, false] rfl rfl (any_of HT_.out (by kernel_rfl)) (fun _ _ _ h => h) (Or.inl ⟨by rfl, ?_⟩) ?_ ?_
  rotate_left
  · intro w'
    go_simp
    with_reducible rfl
  rotate_left
  · simp only [Act.put, List.setIfInBounds_toArray, List.set_cons_zero, List.set_cons_succ, i64_w, i32_w]
    rfl
  refine take_ (i := 4) (N := some 71) (v := ?_) (a' := ?_) #[true, true, true, true, true, false, false, false] rfl rfl (take_ofW HT_.out HW_.out (by kernel_rfl)) (fun _ _ _ h => h) (Or.inl ⟨by rfl, ?_⟩) hHeld ?_ ?_
  rotate_left
  · intro w' s0
    go_simp
    with_reducible rfl
  rotate_left
  · simp only [Act.put, List.setIfInBounds_toArray, List.set_cons_zero, List.set_cons_succ, i64_w, i32_w]
    rfl
  refine one_ (i := 5) (N := none) #[true, true, true, true, true, true, false, false] rfl rfl (one_of HT_.out (by kernel_rfl)) (by decide) (fun K hK => ?_)
  refine skip_ (w1 := ?_) (by rfl) rfl ?_ ?_
  rotate_left
  · go_simp
    rfl
  refine hK.out _ _ ?_ (fun hHeld2 => ?_)
  · (repeat (first | refine (cell_far n94 _).trans ?_ | refine (cell_far nr4 _).trans ?_)); exact hHeld
  clear hHeld
  have hHeld := hHeld2
  clear hHeld2
  clear hK K
  refine pure_ (i := 6) (N := some 5) (v := ?_) (a' := ?_) #[true, true, true, true, true, true, true, false] rfl rfl (any_of HT_.out (by kernel_rfl)) (fun _ _ _ h => h) (Or.inl ⟨by rfl, ?_⟩) ?_ ?_
  rotate_left
  · intro w'
    go_simp
    with_reducible rfl
  rotate_left
  · simp only [Act.put, List.setIfInBounds_toArray, List.set_cons_zero, List.set_cons_succ, i64_w, i32_w]
    rfl
  refine pure_ (i := 7) (N := some 6) (v := ?_) (a' := ?_) #[true, true, true, true, true, true, true, true] rfl rfl (any_of HT_.out (by kernel_rfl)) (fun _ _ _ h => h) (Or.inl ⟨by rfl, ?_⟩) ?_ ?_
  rotate_left
  · intro w'
    go_simp
    with_reducible rfl
  rotate_left
  · simp only [Act.put, List.setIfInBounds_toArray, List.set_cons_zero, List.set_cons_succ, i64_w, i32_w]
    rfl
  refine done_ (done_of HT_.out (by kernel_rfl)) ?_
  clear HT_ HW_
  try go_wp2
  refine bodyPost_ret (results_ctt rfl _ _ g4 23 #[.bool false, .int .i64 0, .int .i64 0, .int .i64 0, .int .i64 0, .int .i64 0] (0, 0) _ rfl (blk_put (blk_put (blk_put (blk_put (blk_put (blk_put ST.out.b4 0 (.bool false) (cs' := #[.bool false, .int .i64 0, .int .i64 0, .int .i64 0, .int .i64 0, .int .i64 0]) rfl) 1 (.int .i64 0) (cs' := #[.bool false, .int .i64 0, .int .i64 0, .int .i64 0, .int .i64 0, .int .i64 0]) rfl) 2 (.int .i64 0) (cs' := #[.bool false, .int .i64 0, .int .i64 0, .int .i64 0, .int .i64 0, .int .i64 0]) rfl) 3 (.int .i64 0) (cs' := #[.bool false, .int .i64 0, .int .i64 0, .int .i64 0, .int .i64 0, .int .i64 0]) rfl) 4 (.int .i64 0) (cs' := #[.bool false, .int .i64 0, .int .i64 0, .int .i64 0, .int .i64 0, .int .i64 0]) rfl) 5 (.int .i64 0) (cs' := #[.bool false, .int .i64 0, .int .i64 0, .int .i64 0, .int .i64 0, .int .i64 0]) rfl) Try.underlying23 rfl (by kernel_rfl)) rfl ?_
  exact ⟨rfl, (below_set (below_set (below_set (below_set (below_set (below_set ST.out.bl ST.out.n4) ST.out.n4) ST.out.n4) ST.out.n4) ST.out.n4) ST.out.n4)⟩
set_option maxHeartbeats 8000000 in
set_option maxRecDepth 100000 in
theorem hp_k_yes (A0 : Option Addr) (c0 : Nat) (l0 : List Int) (a1 : Int) (w : World) (k p1 e1 t pt et o po eo r pr er d pd ed i pi ei : Int) (HL : l0.length ≤ 1000000000000) (HY : Bytes l0) (HR0 : Kd.C (Kd.int .u8) w A0 l0.length l0) (HC0 : l0.length ≤ c0) (HG1 : rd1 l0 1 a1 0 = (k, p1, e1)) (he : e1 = 0) (hk : ¬ k = 0) (hg : ¬ 1 < k) (HGt : rd8 l0 p1 0 = (t, pt, et)) (HGo : rd1 l0 1 pt et = (o, po, eo)) (HGr : rd1 l0 1 po eo = (r, pr, er)) (HGd : rd8 l0 pr er = (d, pd, ed)) (HGi : rd1 l0 1 pd ed = (i, pi, ei)) (hf : ei = 0) (hr : RH false t o r d i) :
    Calls Try.prog 27 #[.slice A0 l0.length c0, .int .i64 a1] w fun e w' => e = .returned (.tuple #[.agg #[.bool false, .int .i64 t, .int .i64 o, .int .i64 r, .int .i64 d, .int .i64 i], .int .i64 pi, .int .i64 0]) ∧ Below w.heap.size w w' := by
  have hu23 := Try.underlying23
  have hu67 := Try.underlying67
  replace HL := Aside0.mk HL
  replace HY := Aside0.mk HY
  replace HR0 := Aside0.mk HR0
  replace HC0 := Aside0.mk HC0
  replace HG1 := Aside0.mk HG1
  replace HGt := Aside0.mk HGt
  replace HGo := Aside0.mk HGo
  replace HGr := Aside0.mk HGr
  replace HGd := Aside0.mk HGd
  replace HGi := Aside0.mk HGi
  subst he
  have b2 : (k == 0) = false := beq_eq_false_iff_ne.mpr hk
  have b3 : decide (1 < k) = false := decide_eq_false hg
  clear hk hg
  subst hf
  obtain ⟨K, hK⟩ := (hc_eq false t o r d i).rounds
  rw [if_pos hr] at hK
  have HK := Aside0.mk hK
  clear hK hr
  go_enter Try.func27, Try.ntmps27
  go_upto_region 4 with (first
    | ((with_reducible refine gate_dst (N := 4) rfl ?_); refine box_event ?hg (N := 4) ?hd (cs := #[.bool false, .int .i64 0, .int .i64 0, .int .i64 0, .int .i64 0, .int .i64 0]) (t := 23) ?hr ?_; (case hd => rfl); (case hg => rfl); (case hr => first | (go_simp; done) | (go_simp; rfl)); intro g4 hg w4 hbox hb; have HB4 := Aside0.mk hb; have G4 := Aside0.mk (Nat.le_of_eq hg.symm); have B4 := Aside0.mk hbox; clear hb hbox hg)
    | ((with_reducible refine gate_dst (N := 13) rfl ?_); refine box_event ?hg (N := 13) ?hd (cs := RdC A0 l0.length c0 a1 0) (t := 67) ?hr ?_; (case hd => rfl); (case hg => rfl); (case hr => first | (go_simp; done) | (go_simp; rfl)); intro gr hg w5 hbox hb; have HB5 := Aside0.mk (below_step HB4.out hb); have GR := Aside0.mk (show w.heap.size ≤ gr by rw [hg]; exact below_size HB4.out); have B45 := Aside0.mk (blk_below B4.out hb); have BR := Aside0.mk hbox; clear hb hbox hg HB4 B4)
    | ((with_reducible refine gate_dst (N := 15) rfl ?_); refine goesL_ (some 15) rfl rfl Try.func39 (by kernel_rfl) rfl #[.pointer (some ⟨gr, 0, none⟩)] rfl (by (try simp only [List.map_toArray, List.map_cons, List.map_nil]); first | done | rfl) ?_; (with_reducible refine (hr_oneG gr A0 c0 l0 a1 0 _ _ _ _ HG1.out HY.out HL.out (Kd.C_below HR0.out HB5.out) HC0.out BR.out).mono ?_); rintro x_ w6 ⟨rfl, hbx, hgr⟩; refine ⟨_, rfl, ?_⟩; have HB6 := Aside0.mk (pw_below_grown HB5.out (some gr) (below_size HB5.out) hgr (fun k_ e_ => by cases e_; exact GR.out)); have B46 := Aside0.mk (blk_grown B45.out hgr (fun e_ => blk_ne B45.out BR.out (by decide) (Option.some.inj e_))); have BR6 := Aside0.mk hbx; clear hbx hgr HB5 B45 BR)
    | ((with_reducible refine gate_dst (N := 9) rfl ?_); refine box_event ?hg (N := 9) ?hd (cs := #[.bool false, .int .i64 0, .int .i64 0, .int .i64 0, .int .i64 0, .int .i64 0]) (t := 23) ?hr ?_; (case hd => rfl); (case hg => rfl); (case hr => first | (go_simp; done) | (go_simp; rfl)); intro g9 hg w7 hbox hb; have ST0 := Aside0.mk (HpSt.mk (blk_below B46.out hb) hbox (blk_below BR6.out hb) (below_step HB6.out hb) G4.out (by rw [hg]; exact below_size HB6.out) GR.out (by rw [hg]; exact Nat.ne_of_lt (blk_lt B46.out))); clear hb hbox hg; have u0 : w7.cell? ⟨g9, 0, none⟩ = some (.bool false) := (blk_cell ST0.out.b9 0).trans rfl; have uf0 := blk_frozen ST0.out.b9 0; have u1 : w7.cell? ⟨g9, 1, none⟩ = some (.int .i64 0) := (blk_cell ST0.out.b9 1).trans rfl; have uf1 := blk_frozen ST0.out.b9 1; have u2 : w7.cell? ⟨g9, 2, none⟩ = some (.int .i64 0) := (blk_cell ST0.out.b9 2).trans rfl; have uf2 := blk_frozen ST0.out.b9 2; have u3 : w7.cell? ⟨g9, 3, none⟩ = some (.int .i64 0) := (blk_cell ST0.out.b9 3).trans rfl; have uf3 := blk_frozen ST0.out.b9 3; have u4 : w7.cell? ⟨g9, 4, none⟩ = some (.int .i64 0) := (blk_cell ST0.out.b9 4).trans rfl; have uf4 := blk_frozen ST0.out.b9 4; have u5 : w7.cell? ⟨g9, 5, none⟩ = some (.int .i64 0) := (blk_cell ST0.out.b9 5).trans rfl; have uf5 := blk_frozen ST0.out.b9 5))
  have ST := Aside0.mk (show HpSt w ((((((w7.setCell ⟨g9, 0, none⟩ (.bool false)).setCell ⟨g9, 1, none⟩ (.int .i64 0)).setCell ⟨g9, 2, none⟩ (.int .i64 0)).setCell ⟨g9, 3, none⟩ (.int .i64 0)).setCell ⟨g9, 4, none⟩ (.int .i64 0)).setCell ⟨g9, 5, none⟩ (.int .i64 0)) A0 l0.length c0 g4 g9 gr p1 0 #[.bool false, .int .i64 0, .int .i64 0, .int .i64 0, .int .i64 0, .int .i64 0] from (HpSt.put (HpSt.put (HpSt.put (HpSt.put (HpSt.put (HpSt.put ST0.out 0 (.bool false) rfl) 1 (.int .i64 0) rfl) 2 (.int .i64 0) rfl) 3 (.int .i64 0) rfl) 4 (.int .i64 0) rfl) 5 (.int .i64 0) rfl))
  generalize ((((((w7.setCell ⟨g9, 0, none⟩ (.bool false)).setCell ⟨g9, 1, none⟩ (.int .i64 0)).setCell ⟨g9, 2, none⟩ (.int .i64 0)).setCell ⟨g9, 3, none⟩ (.int .i64 0)).setCell ⟨g9, 4, none⟩ (.int .i64 0)).setCell ⟨g9, 5, none⟩ (.int .i64 0)) = wq at ST ⊢
  clear ST0 u0 uf0 u1 uf1 u2 uf2 u3 uf3 u4 uf4 u5 uf5
  have v0 : wq.cell? ⟨gr, 0, none⟩ = some (.slice A0 l0.length c0) := (blk_cell ST.out.br 0).trans rfl
  have vf0 := blk_frozen ST.out.br 0
  have v1 : wq.cell? ⟨gr, 1, none⟩ = some (.int .i64 p1) := (blk_cell ST.out.br 1).trans rfl
  have vf1 := blk_frozen ST.out.br 1
  have v2 : wq.cell? ⟨gr, 2, none⟩ = some (.int .i64 0) := (blk_cell ST.out.br 2).trans rfl
  have vf2 := blk_frozen ST.out.br 2
  have y0 : wq.cell? ⟨g9, 0, none⟩ = some (.bool false) := (blk_cell ST.out.b9 0).trans rfl
  have yf0 := blk_frozen ST.out.b9 0
  have y1 : wq.cell? ⟨g9, 1, none⟩ = some (.int .i64 0) := (blk_cell ST.out.b9 1).trans rfl
  have yf1 := blk_frozen ST.out.b9 1
  have y2 : wq.cell? ⟨g9, 2, none⟩ = some (.int .i64 0) := (blk_cell ST.out.b9 2).trans rfl
  have yf2 := blk_frozen ST.out.b9 2
  have y3 : wq.cell? ⟨g9, 3, none⟩ = some (.int .i64 0) := (blk_cell ST.out.b9 3).trans rfl
  have yf3 := blk_frozen ST.out.b9 3
  have y4 : wq.cell? ⟨g9, 4, none⟩ = some (.int .i64 0) := (blk_cell ST.out.b9 4).trans rfl
  have yf4 := blk_frozen ST.out.b9 4
  have y5 : wq.cell? ⟨g9, 5, none⟩ = some (.int .i64 0) := (blk_cell ST.out.b9 5).trans rfl
  have yf5 := blk_frozen ST.out.b9 5
  go_upto_region 9 with (first
    | ((with_reducible refine gate_dst (N := 35) rfl ?_); refine goesL_ (some 35) rfl rfl Try.func40 (by kernel_rfl) rfl #[.pointer (some ⟨gr, 0, none⟩)] rfl (by (try simp only [List.map_toArray, List.map_cons, List.map_nil]); first | done | rfl) ?_; (with_reducible refine (hr_eightG gr A0 c0 l0 p1 0 _ _ _ _ HGt.out HY.out HL.out (Kd.C_below HR0.out ST.out.bl) HC0.out ST.out.br).mono ?_); rintro x_ w35 ⟨rfl, hbx, hgr⟩; refine ⟨_, rfl, ?_⟩; have STn := Aside0.mk (ST.out.step hbx hgr); clear ST hbx hgr; have ST := STn; clear STn)
    | ((with_reducible refine gate_dst (N := 37) rfl ?_); refine goesL_ (some 37) rfl rfl Try.func39 (by kernel_rfl) rfl #[.pointer (some ⟨gr, 0, none⟩)] rfl (by (try simp only [List.map_toArray, List.map_cons, List.map_nil]); first | done | rfl) ?_; (with_reducible refine (hr_oneG gr A0 c0 l0 pt et _ _ _ _ HGo.out HY.out HL.out (Kd.C_below HR0.out ST.out.bl) HC0.out ST.out.br).mono ?_); rintro x_ w37 ⟨rfl, hbx, hgr⟩; refine ⟨_, rfl, ?_⟩; have STn := Aside0.mk (ST.out.step hbx hgr); clear ST hbx hgr; have ST := STn; clear STn)
    | ((with_reducible refine gate_dst (N := 39) rfl ?_); refine goesL_ (some 39) rfl rfl Try.func39 (by kernel_rfl) rfl #[.pointer (some ⟨gr, 0, none⟩)] rfl (by (try simp only [List.map_toArray, List.map_cons, List.map_nil]); first | done | rfl) ?_; (with_reducible refine (hr_oneG gr A0 c0 l0 po eo _ _ _ _ HGr.out HY.out HL.out (Kd.C_below HR0.out ST.out.bl) HC0.out ST.out.br).mono ?_); rintro x_ w39 ⟨rfl, hbx, hgr⟩; refine ⟨_, rfl, ?_⟩; have STn := Aside0.mk (ST.out.step hbx hgr); clear ST hbx hgr; have ST := STn; clear STn)
    | ((with_reducible refine gate_dst (N := 41) rfl ?_); refine goesL_ (some 41) rfl rfl Try.func40 (by kernel_rfl) rfl #[.pointer (some ⟨gr, 0, none⟩)] rfl (by (try simp only [List.map_toArray, List.map_cons, List.map_nil]); first | done | rfl) ?_; (with_reducible refine (hr_eightG gr A0 c0 l0 pr er _ _ _ _ HGd.out HY.out HL.out (Kd.C_below HR0.out ST.out.bl) HC0.out ST.out.br).mono ?_); rintro x_ w41 ⟨rfl, hbx, hgr⟩; refine ⟨_, rfl, ?_⟩; have STn := Aside0.mk (ST.out.step hbx hgr); clear ST hbx hgr; have ST := STn; clear STn; have z0 : w41.cell? ⟨g9, 0, none⟩ = some (.bool false) := (blk_cell ST.out.b9 0).trans rfl; have zf0 := blk_frozen ST.out.b9 0; have z1 : w41.cell? ⟨g9, 1, none⟩ = some (.int .i64 0) := (blk_cell ST.out.b9 1).trans rfl; have zf1 := blk_frozen ST.out.b9 1; have z2 : w41.cell? ⟨g9, 2, none⟩ = some (.int .i64 0) := (blk_cell ST.out.b9 2).trans rfl; have zf2 := blk_frozen ST.out.b9 2; have z3 : w41.cell? ⟨g9, 3, none⟩ = some (.int .i64 0) := (blk_cell ST.out.b9 3).trans rfl; have zf3 := blk_frozen ST.out.b9 3; have z4 : w41.cell? ⟨g9, 4, none⟩ = some (.int .i64 0) := (blk_cell ST.out.b9 4).trans rfl; have zf4 := blk_frozen ST.out.b9 4; have z5 : w41.cell? ⟨g9, 5, none⟩ = some (.int .i64 0) := (blk_cell ST.out.b9 5).trans rfl; have zf5 := blk_frozen ST.out.b9 5)
    | ((with_reducible refine gate_dst (N := 47) rfl ?_); clear z0 zf0 z1 zf1 z2 zf2 z3 zf3 z4 zf4 z5 zf5; have STp := Aside0.mk (HpSt.put (HpSt.put (HpSt.put (HpSt.put ST.out 1 (.int .i64 t) rfl) 2 (.int .i64 o) rfl) 3 (.int .i64 r) rfl) 4 (.int .i64 d) rfl); clear ST; have ST := STp; clear STp; refine goesL_ (some 47) rfl rfl Try.func39 (by kernel_rfl) rfl #[.pointer (some ⟨gr, 0, none⟩)] rfl (by (try simp only [List.map_toArray, List.map_cons, List.map_nil]); first | done | rfl) ?_; (with_reducible refine (hr_oneG gr A0 c0 l0 pd ed _ _ _ _ HGi.out HY.out HL.out (Kd.C_below HR0.out ST.out.bl) HC0.out ST.out.br).mono ?_); rintro x_ w47 ⟨rfl, hbx, hgr⟩; refine ⟨_, rfl, ?_⟩; have STn := Aside0.mk (ST.out.step hbx hgr); clear ST hbx hgr; have ST := STn; clear STn; have x0 : w47.cell? ⟨g9, 0, none⟩ = some (.bool false) := (blk_cell ST.out.b9 0).trans rfl; have xf0 := blk_frozen ST.out.b9 0; have x1 : w47.cell? ⟨g9, 1, none⟩ = some (.int .i64 t) := (blk_cell ST.out.b9 1).trans rfl; have xf1 := blk_frozen ST.out.b9 1; have x2 : w47.cell? ⟨g9, 2, none⟩ = some (.int .i64 o) := (blk_cell ST.out.b9 2).trans rfl; have xf2 := blk_frozen ST.out.b9 2; have x3 : w47.cell? ⟨g9, 3, none⟩ = some (.int .i64 r) := (blk_cell ST.out.b9 3).trans rfl; have xf3 := blk_frozen ST.out.b9 3; have x4 : w47.cell? ⟨g9, 4, none⟩ = some (.int .i64 d) := (blk_cell ST.out.b9 4).trans rfl; have xf4 := blk_frozen ST.out.b9 4; have x5 : w47.cell? ⟨g9, 5, none⟩ = some (.int .i64 0) := (blk_cell ST.out.b9 5).trans rfl; have xf5 := blk_frozen ST.out.b9 5))
  have STn := Aside0.mk (HpSt.put ST.out 5 (.int .i64 i) (cs2 := #[.bool false, .int .i64 t, .int .i64 o, .int .i64 r, .int .i64 d, .int .i64 i]) rfl)
  clear ST
  have ST := STn
  clear STn x0 xf0 x1 xf1 x2 xf2 x3 xf3 x4 xf4 x5 xf5
  clear v0 vf0 v1 vf1 v2 vf2
  clear y0 yf0 y1 yf1 y2 yf2 y3 yf3 y4 yf4 y5 yf5
  generalize (w47.setCell ⟨g9, 5, none⟩ (.int .i64 i)) = wr at ST ⊢
  have v0 : wr.cell? ⟨gr, 0, none⟩ = some (.slice A0 l0.length c0) := (blk_cell ST.out.br 0).trans rfl
  have vf0 := blk_frozen ST.out.br 0
  have v1 : wr.cell? ⟨gr, 1, none⟩ = some (.int .i64 pi) := (blk_cell ST.out.br 1).trans rfl
  have vf1 := blk_frozen ST.out.br 1
  have v2 : wr.cell? ⟨gr, 2, none⟩ = some (.int .i64 0) := (blk_cell ST.out.br 2).trans rfl
  have vf2 := blk_frozen ST.out.br 2
  have y0 : wr.cell? ⟨g9, 0, none⟩ = some (.bool false) := (blk_cell ST.out.b9 0).trans rfl
  have yf0 := blk_frozen ST.out.b9 0
  have y1 : wr.cell? ⟨g9, 1, none⟩ = some (.int .i64 t) := (blk_cell ST.out.b9 1).trans rfl
  have yf1 := blk_frozen ST.out.b9 1
  have y2 : wr.cell? ⟨g9, 2, none⟩ = some (.int .i64 o) := (blk_cell ST.out.b9 2).trans rfl
  have yf2 := blk_frozen ST.out.b9 2
  have y3 : wr.cell? ⟨g9, 3, none⟩ = some (.int .i64 r) := (blk_cell ST.out.b9 3).trans rfl
  have yf3 := blk_frozen ST.out.b9 3
  have y4 : wr.cell? ⟨g9, 4, none⟩ = some (.int .i64 d) := (blk_cell ST.out.b9 4).trans rfl
  have yf4 := blk_frozen ST.out.b9 4
  have y5 : wr.cell? ⟨g9, 5, none⟩ = some (.int .i64 i) := (blk_cell ST.out.b9 5).trans rfl
  have yf5 := blk_frozen ST.out.b9 5
  go_upto_region 13 with ((go_at_call 12; (with_reducible refine (height_Check.calls K false t o r d i 0 _ HK.out).mono ?_); rintro x_ ws ⟨rfl, hb⟩; have STn := Aside0.mk (HpSt.below ST.out hb); clear ST hb; have ST := STn; clear STn; have s0 : ws.cell? ⟨gr, 0, none⟩ = some (.slice A0 l0.length c0) := (blk_cell ST.out.br 0).trans rfl; have sf0 := blk_frozen ST.out.br 0; have s1 : ws.cell? ⟨gr, 1, none⟩ = some (.int .i64 pi) := (blk_cell ST.out.br 1).trans rfl; have sf1 := blk_frozen ST.out.br 1; have s2 : ws.cell? ⟨gr, 2, none⟩ = some (.int .i64 0) := (blk_cell ST.out.br 2).trans rfl; have sf2 := blk_frozen ST.out.br 2))
  clear v0 vf0 v1 vf1 v2 vf2 y0 yf0 y1 yf1 y2 yf2 y3 yf3 y4 yf4 y5 yf5 s0 sf0 s1 sf1 s2 sf2
  have STd := Aside0.mk (HpSt.drew ST.out)
  clear ST
  have ST := STd
  clear STd
  refine start_ (n := 8) (S := fun w' => w'.cell? ⟨g9, 0, none⟩ = some (.bool false) ∧ w'.cell? ⟨g9, 1, none⟩ = some (.int .i64 t) ∧ w'.cell? ⟨g9, 2, none⟩ = some (.int .i64 o) ∧ w'.cell? ⟨g9, 3, none⟩ = some (.int .i64 r) ∧ w'.cell? ⟨g9, 4, none⟩ = some (.int .i64 d) ∧ w'.cell? ⟨g9, 5, none⟩ = some (.int .i64 i) ∧ w'.cell? ⟨gr, 1, none⟩ = some (.int .i64 pi)) (ds := []) #[false, false, false, false, false, false, false, false] (by kernel_rfl) rfl rfl ⟨(blk_cell ST.out.b9 0).trans rfl, (blk_cell ST.out.b9 1).trans rfl, (blk_cell ST.out.b9 2).trans rfl, (blk_cell ST.out.b9 3).trans rfl, (blk_cell ST.out.b9 4).trans rfl, (blk_cell ST.out.b9 5).trans rfl, (blk_cell ST.out.br 1).trans rfl⟩ (fun hHeld => ?_); refine with_tabW height_Parse.tab13 height_Parse.bits13 (fun HT_ HW_ => ?_)
  generalize ws.drew = wd at ST hHeld ⊢
  have o0 : wd.cell? ⟨g4, 0, none⟩ = some (.bool false) := (blk_cell ST.out.b4 0).trans rfl
  have of0 := blk_frozen ST.out.b4 0
  have o1 : wd.cell? ⟨g4, 1, none⟩ = some (.int .i64 0) := (blk_cell ST.out.b4 1).trans rfl
  have of1 := blk_frozen ST.out.b4 1
  have o2 : wd.cell? ⟨g4, 2, none⟩ = some (.int .i64 0) := (blk_cell ST.out.b4 2).trans rfl
  have of2 := blk_frozen ST.out.b4 2
  have o3 : wd.cell? ⟨g4, 3, none⟩ = some (.int .i64 0) := (blk_cell ST.out.b4 3).trans rfl
  have of3 := blk_frozen ST.out.b4 3
  have o4 : wd.cell? ⟨g4, 4, none⟩ = some (.int .i64 0) := (blk_cell ST.out.b4 4).trans rfl
  have of4 := blk_frozen ST.out.b4 4
  have o5 : wd.cell? ⟨g4, 5, none⟩ = some (.int .i64 0) := (blk_cell ST.out.b4 5).trans rfl
  have of5 := blk_frozen ST.out.b4 5
  have n94 : g9 ≠ g4 := ST.out.d49.symm
  have nr4 : gr ≠ g4 := (blk_ne ST.out.br ST.out.b4 (by decide))
  refine pure_ (i := 1) (N := some 73) (v := ?_) (a' := ?_) #[false, true, false, false, false, false, false, false] rfl rfl (any_of HT_.out (by kernel_rfl)) (fun _ _ _ h => h) (Or.inl ⟨by rfl, ?_⟩) ?_ ?_
  rotate_left
  · intro w'
    go_simp
    with_reducible rfl
  rotate_left
  · simp only [Act.put, List.setIfInBounds_toArray, List.set_cons_zero, List.set_cons_succ, i64_w, i32_w]
    rfl
  refine pure_ (i := 2) (N := some 74) (v := ?_) (a' := ?_) #[false, true, true, false, false, false, false, false] rfl rfl (any_of HT_.out (by kernel_rfl)) (fun _ _ _ h => h) (Or.inl ⟨by rfl, ?_⟩) ?_ ?_
  rotate_left
  · intro w'
    go_simp
    with_reducible rfl
  rotate_left
  · simp only [Act.put, List.setIfInBounds_toArray, List.set_cons_zero, List.set_cons_succ, i64_w, i32_w]
    rfl
  refine pure_ (i := 3) (N := some 75) (v := ?_) (a' := ?_) #[false, true, true, true, false, false, false, false] rfl rfl (any_of HT_.out (by kernel_rfl)) (fun _ _ _ h => h) (Or.inl ⟨by rfl, ?_⟩) ?_ ?_
  rotate_left
  · intro w'
    go_simp
    with_reducible rfl
  rotate_left
  · simp only [Act.put, List.setIfInBounds_toArray, List.set_cons_zero, List.set_cons_succ, i64_w, i32_w]
    rfl
  refine take_ (i := 0) (N := some 72) (v := ?_) (a' := ?_) #[true, true, true, true, false, false, false, false] rfl rfl (take_ofW HT_.out HW_.out (by kernel_rfl)) (fun _ _ _ h => h) (Or.inl ⟨by rfl, ?_⟩) hHeld ?_ ?_
  rotate_left
  · rintro w' ⟨s0, s1, s2, s3, s4, s5, s6⟩
    go_simp
    with_reducible rfl
  rotate_left
  · simp only [Act.put, List.setIfInBounds_toArray, List.set_cons_zero, List.set_cons_succ, i64_w, i32_w]
    rfl
  refine take_ (i := 4) (N := some 76) (v := ?_) (a' := ?_) #[true, true, true, true, true, false, false, false] rfl rfl (take_ofW HT_.out HW_.out (by kernel_rfl)) (fun _ _ _ h => h) (Or.inl ⟨by rfl, ?_⟩) hHeld ?_ ?_
  rotate_left
  · rintro w' ⟨s0, s1, s2, s3, s4, s5, s6⟩
    go_simp
    with_reducible rfl
  rotate_left
  · simp only [Act.put, List.setIfInBounds_toArray, List.set_cons_zero, List.set_cons_succ, i64_w, i32_w]
    rfl
  refine one_ (i := 5) (N := none) #[true, true, true, true, true, true, false, false] rfl rfl (one_of HT_.out (by kernel_rfl)) (by decide) (fun K hK => ?_)
  refine skip_ (w1 := ?_) (by rfl) rfl ?_ ?_
  rotate_left
  · go_simp
    rfl
  refine hK.out _ _ ?_ (fun hHeld2 => ?_)
  · refine ⟨?_, ?_, ?_, ?_, ?_, ?_, ?_⟩
    · (repeat (first | refine (cell_far n94 _).trans ?_ | refine (cell_far nr4 _).trans ?_)); exact hHeld.1
    · (repeat (first | refine (cell_far n94 _).trans ?_ | refine (cell_far nr4 _).trans ?_)); exact hHeld.2.1
    · (repeat (first | refine (cell_far n94 _).trans ?_ | refine (cell_far nr4 _).trans ?_)); exact hHeld.2.2.1
    · (repeat (first | refine (cell_far n94 _).trans ?_ | refine (cell_far nr4 _).trans ?_)); exact hHeld.2.2.2.1
    · (repeat (first | refine (cell_far n94 _).trans ?_ | refine (cell_far nr4 _).trans ?_)); exact hHeld.2.2.2.2.1
    · (repeat (first | refine (cell_far n94 _).trans ?_ | refine (cell_far nr4 _).trans ?_)); exact hHeld.2.2.2.2.2.1
    · (repeat (first | refine (cell_far n94 _).trans ?_ | refine (cell_far nr4 _).trans ?_)); exact hHeld.2.2.2.2.2.2
  clear hHeld
  have hHeld := hHeld2
  clear hHeld2
  clear hK K
  refine pure_ (i := 6) (N := some 5) (v := ?_) (a' := ?_) #[true, true, true, true, true, true, true, false] rfl rfl (any_of HT_.out (by kernel_rfl)) (fun _ _ _ h => h) (Or.inl ⟨by rfl, ?_⟩) ?_ ?_
  rotate_left
  · intro w'
    go_simp
    with_reducible rfl
  rotate_left
  · simp only [Act.put, List.setIfInBounds_toArray, List.set_cons_zero, List.set_cons_succ, i64_w, i32_w]
    rfl
  refine pure_ (i := 7) (N := some 6) (v := ?_) (a' := ?_) #[true, true, true, true, true, true, true, true] rfl rfl (any_of HT_.out (by kernel_rfl)) (fun _ _ _ h => h) (Or.inl ⟨by rfl, ?_⟩) ?_ ?_
  rotate_left
  · intro w'
    go_simp
    with_reducible rfl
  rotate_left
  · simp only [Act.put, List.setIfInBounds_toArray, List.set_cons_zero, List.set_cons_succ, i64_w, i32_w]
    rfl
  refine done_ (done_of HT_.out (by kernel_rfl)) ?_
  clear HT_ HW_
  try go_wp2
  refine bodyPost_ret (results_ctt rfl _ _ g4 23 #[.bool false, .int .i64 t, .int .i64 o, .int .i64 r, .int .i64 d, .int .i64 i] (0, 0) _ rfl (blk_put (blk_put (blk_put (blk_put (blk_put (blk_put ST.out.b4 0 (.bool false) (cs' := #[.bool false, .int .i64 0, .int .i64 0, .int .i64 0, .int .i64 0, .int .i64 0]) rfl) 1 (.int .i64 t) (cs' := #[.bool false, .int .i64 t, .int .i64 0, .int .i64 0, .int .i64 0, .int .i64 0]) rfl) 2 (.int .i64 o) (cs' := #[.bool false, .int .i64 t, .int .i64 o, .int .i64 0, .int .i64 0, .int .i64 0]) rfl) 3 (.int .i64 r) (cs' := #[.bool false, .int .i64 t, .int .i64 o, .int .i64 r, .int .i64 0, .int .i64 0]) rfl) 4 (.int .i64 d) (cs' := #[.bool false, .int .i64 t, .int .i64 o, .int .i64 r, .int .i64 d, .int .i64 0]) rfl) 5 (.int .i64 i) (cs' := #[.bool false, .int .i64 t, .int .i64 o, .int .i64 r, .int .i64 d, .int .i64 i]) rfl) Try.underlying23 rfl (by kernel_rfl)) rfl ?_
  exact ⟨rfl, (below_set (below_set (below_set (below_set (below_set (below_set ST.out.bl ST.out.n4) ST.out.n4) ST.out.n4) ST.out.n4) ST.out.n4) ST.out.n4)⟩
theorem rdStep_bad {G : Int × Int × Int} {a v p e : Int} (h : rdStep G a 0 = (v, p, e)) (he : ¬ e = 0) : v = 0 := by
  unfold rdStep at h
  rw [if_pos rfl] at h
  split at h
  · simp only [Prod.mk.injEq] at h
    exact absurd h.2.2.symm he
  · simp only [Prod.mk.injEq] at h
    exact h.1.symm
theorem rdStep_stay {G : Int × Int × Int} {a e0 v p e : Int} (h0 : ¬ e0 = 0) (h : rdStep G a e0 = (v, p, e)) : e = e0 := by
  unfold rdStep at h
  rw [if_neg h0] at h
  simp only [Prod.mk.injEq] at h
  exact h.2.2.symm
theorem height_Parse.calls (A0 : Option Addr) (c0 : Nat) (l0 : List Int) (a1 : Int) (r1 : Bool) (r2 r3 r4 r5 r6 r7 r8 : Int) (w : World) (hr0 : Kd.C (Kd.int .u8) w A0 l0.length l0) (hc0 : l0.length ≤ c0) (h : height_Parse.f l0 a1 = some (r1, r2, r3, r4, r5, r6, r7, r8)) :
    Calls Try.prog 27 #[.slice A0 l0.length c0, .int .i64 a1] w fun e w' => e = .returned (.tuple #[.agg #[.bool r1, .int .i64 r2, .int .i64 r3, .int .i64 r4, .int .i64 r5, .int .i64 r6], .int .i64 r7, .int .i64 r8]) ∧ Below w.heap.size w w' := by
  obtain ⟨hL, hB, hP⟩ : l0.length ≤ 1000000000000 ∧ Bytes l0 ∧ hpGo l0 a1 = (r1, r2, r3, r4, r5, r6, r7, r8) := by
    unfold height_Parse.f at h
    split at h
    · rename_i hc
      exact ⟨hc.1, hc.2, Option.some.inj h⟩
    · exact absurd h (by simp)
  clear h
  obtain ⟨k, p1, e1, hk1⟩ : ∃ k p1 e1, rd1 l0 1 a1 0 = (k, p1, e1) := ⟨_, _, _, rfl⟩
  unfold hpGo at hP
  simp only [hk1] at hP
  by_cases he : e1 = 0
  · by_cases hk : k = 0
    · rw [if_pos hk] at hP
      have hz : hpErr k e1 = 0 := by unfold hpErr; rw [if_pos he, if_neg (by omega)]
      rw [hz] at hP
      obtain ⟨i, pi, ei, hi⟩ : ∃ i pi ei, rd1 l0 1 p1 0 = (i, pi, ei) := ⟨_, _, _, rfl⟩
      simp only [hi, hpFin] at hP
      by_cases hf : ei = 0
      · rw [if_pos hf] at hP
        by_cases hr : RH true 0 0 0 0 i
        · rw [if_pos hr] at hP
          simp only [Prod.mk.injEq] at hP
          obtain ⟨rfl, rfl, rfl, rfl, rfl, rfl, rfl, rfl⟩ := hP
          exact hp_n_yes A0 c0 l0 a1 w k p1 e1 i pi ei hL hB hr0 hc0 hk1 he hk (by omega) hi hf hr
        · rw [if_neg hr] at hP
          simp only [hpNo, Prod.mk.injEq] at hP
          obtain ⟨rfl, rfl, rfl, rfl, rfl, rfl, rfl, rfl⟩ := hP
          exact hp_n_no A0 c0 l0 a1 w k p1 e1 i pi ei hL hB hr0 hc0 hk1 he hk (by omega) hi hf hr
      · rw [if_neg hf] at hP
        simp only [hpNo, Prod.mk.injEq] at hP
        obtain ⟨rfl, rfl, rfl, rfl, rfl, rfl, rfl, rfl⟩ := hP
        exact hp_n_e A0 c0 l0 a1 w k p1 e1 i pi _ hL hB hr0 hc0 hk1 he hk (by omega) hi hf
    · rw [if_neg hk] at hP
      by_cases hg : 1 < k
      · have hz : hpErr k e1 = 4 := by unfold hpErr; rw [if_pos he, if_pos hg]
        rw [hz] at hP
        obtain ⟨t, pt, et, ht⟩ : ∃ t pt et, rd8 l0 p1 4 = (t, pt, et) := ⟨_, _, _, rfl⟩
        obtain ⟨o, po, eo, ho⟩ : ∃ o po eo, rd1 l0 1 pt et = (o, po, eo) := ⟨_, _, _, rfl⟩
        obtain ⟨r, pr, er, hr⟩ : ∃ r pr er, rd1 l0 1 po eo = (r, pr, er) := ⟨_, _, _, rfl⟩
        obtain ⟨d, pd, ed, hd⟩ : ∃ d pd ed, rd8 l0 pr er = (d, pd, ed) := ⟨_, _, _, rfl⟩
        obtain ⟨i, pi, ei, hi⟩ : ∃ i pi ei, rd1 l0 1 pd ed = (i, pi, ei) := ⟨_, _, _, rfl⟩
        simp only [ht, ho, hr, hd, hi, hpFin] at hP
        have h1 : et = 4 := rdStep_stay (by decide) ht
        have h2 : eo = et := rdStep_stay (by omega) ho
        have h3 : er = eo := rdStep_stay (by omega) hr
        have h4 : ed = er := rdStep_stay (by omega) hd
        have h5 : ei = ed := rdStep_stay (by omega) hi
        have hf : ¬ ei = 0 := by omega
        rw [if_neg hf] at hP
        simp only [hpNo, Prod.mk.injEq] at hP
        obtain ⟨rfl, rfl, rfl, rfl, rfl, rfl, rfl, rfl⟩ := hP
        exact hp_gt A0 c0 l0 a1 w k p1 e1 t pt et o po eo r pr er d pd ed i pi _ hL hB hr0 hc0 hk1 he hk hg ht ho hr hd hi hf
      · have hz : hpErr k e1 = 0 := by unfold hpErr; rw [if_pos he, if_neg hg]
        rw [hz] at hP
        obtain ⟨t, pt, et, ht⟩ : ∃ t pt et, rd8 l0 p1 0 = (t, pt, et) := ⟨_, _, _, rfl⟩
        obtain ⟨o, po, eo, ho⟩ : ∃ o po eo, rd1 l0 1 pt et = (o, po, eo) := ⟨_, _, _, rfl⟩
        obtain ⟨r, pr, er, hr⟩ : ∃ r pr er, rd1 l0 1 po eo = (r, pr, er) := ⟨_, _, _, rfl⟩
        obtain ⟨d, pd, ed, hd⟩ : ∃ d pd ed, rd8 l0 pr er = (d, pd, ed) := ⟨_, _, _, rfl⟩
        obtain ⟨i, pi, ei, hi⟩ : ∃ i pi ei, rd1 l0 1 pd ed = (i, pi, ei) := ⟨_, _, _, rfl⟩
        simp only [ht, ho, hr, hd, hi, hpFin] at hP
        by_cases hf : ei = 0
        · rw [if_pos hf] at hP
          by_cases hrh : RH false t o r d i
          · rw [if_pos hrh] at hP
            simp only [Prod.mk.injEq] at hP
            obtain ⟨rfl, rfl, rfl, rfl, rfl, rfl, rfl, rfl⟩ := hP
            exact hp_k_yes A0 c0 l0 a1 w k p1 e1 _ pt et _ po eo _ pr er _ pd ed _ _ ei hL hB hr0 hc0 hk1 he hk hg ht ho hr hd hi hf hrh
          · rw [if_neg hrh] at hP
            simp only [hpNo, Prod.mk.injEq] at hP
            obtain ⟨rfl, rfl, rfl, rfl, rfl, rfl, rfl, rfl⟩ := hP
            exact hp_k_no A0 c0 l0 a1 w k p1 e1 t pt et o po eo r pr er d pd ed i pi ei hL hB hr0 hc0 hk1 he hk hg ht ho hr hd hi hf hrh
        · rw [if_neg hf] at hP
          simp only [hpNo, Prod.mk.injEq] at hP
          obtain ⟨rfl, rfl, rfl, rfl, rfl, rfl, rfl, rfl⟩ := hP
          exact hp_k_e A0 c0 l0 a1 w k p1 e1 t pt et o po eo r pr er d pd ed i pi _ hL hB hr0 hc0 hk1 he hk hg ht ho hr hd hi hf
  · have hk : k = 0 := rdStep_bad hk1 he
    rw [if_pos hk] at hP
    have hz : hpErr k e1 = e1 := by unfold hpErr; rw [if_neg he]
    rw [hz] at hP
    obtain ⟨i, pi, ei, hi⟩ : ∃ i pi ei, rd1 l0 1 p1 e1 = (i, pi, ei) := ⟨_, _, _, rfl⟩
    have h5 : ei = e1 := rdStep_stay he hi
    have hf : ¬ ei = 0 := by omega
    simp only [hi, hpFin] at hP
    rw [if_neg hf] at hP
    simp only [hpNo, Prod.mk.injEq] at hP
    obtain ⟨rfl, rfl, rfl, rfl, rfl, rfl, rfl, rfl⟩ := hP
    exact hp_bad A0 c0 l0 a1 w k p1 e1 i pi _ hL hB hr0 hc0 hk1 hk he hi hf
end Go.Proofs.Ytjeahmlahkngaaa.P
