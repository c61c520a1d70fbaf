/- Walks. -/
import Derived.Test.YtmcmemknikineaaXObjectBacka
import Derived.Test.YtmcmemknikineaaXObjectBackb
set_option linter.unusedVariables false
set_option linter.unusedSimpArgs false
set_option maxHeartbeats 8000000
set_option maxRecDepth 100000
namespace Go.Proofs.Ytmcmemknikineaa.P
open Go.RowKit YtmcmemknikineaaW.PrintWords YtmcmemknikineaaW.PrintLast YtmcmemknikineaaW.PrintMore
attribute [local go_sem] max2_int min2_int max_two min_two max_three min_three max_four min_four
abbrev HP := Bool × Int × Int × Int × Int × Int × Int × Int
def hpNo (e : Int) : HP := (false, 0, 0, 0, 0, 0, 0, e)
def hpFin (n : Bool) (a b c d : Int) (i : Int × Int × Int) : HP :=
 if i.2.2 = 0 then (if RH n a b c d i.1 then (n, a, b, c, d, i.1, i.2.1, 0) else hpNo 4) else hpNo i.2.2
def hpErr (k e : Int) : Int := if e = 0 then (if 1 < k then 4 else 0) else e
def hpGo (l : List Int) (a : Int) : HP :=
 if (rd1 l 1 a 0).1 = 0 then hpFin true 0 0 0 0 (rd1 l 1 (rd1 l 1 a 0).2.1 (hpErr (rd1 l 1 a 0).1 (rd1 l 1 a 0).2.2))
 else
  let t := rd8 l (rd1 l 1 a 0).2.1 (hpErr (rd1 l 1 a 0).1 (rd1 l 1 a 0).2.2)
  let o := rd1 l 1 t.2.1 t.2.2
  let r := rd1 l 1 o.2.1 o.2.2
  let d := rd8 l r.2.1 r.2.2
  hpFin false t.1 o.1 r.1 d.1 (rd1 l 1 d.2.1 d.2.2)
def height_Parse.f (l : List Int) (a : Int) : Option HP := if l.length ≤ 1000000000000 ∧ ∀ x ∈ l, 0 ≤ x ∧ x ≤ 255 then some (hpGo l a) else none
structure HpSt (w0 w : World) (A : Option Addr) (n c g4 g9 gr : Nat) (at_ e : Int) (cs : Array Value) : Prop where
 b4 : w.heap[g4]? = some (.cells #[.bool false, .int .i64 0, .int .i64 0, .int .i64 0, .int .i64 0, .int .i64 0] 23 (0, 0))
 b9 : w.heap[g9]? = some (.cells cs 23 (0, 0))
 br : w.heap[gr]? = some (.cells (RdC A n c at_ e) 77 (0, 0))
 bl : Below w0.heap.size w0 w
 n4 : w0.heap.size ≤ g4
 n9 : w0.heap.size ≤ g9
 nr : w0.heap.size ≤ gr
 d49 : g4 ≠ g9
theorem HpSt.step {w0 w w' : World} {A : Option Addr} {n c g4 g9 gr : Nat} {at_ e : Int} {cs : Array Value} (h : HpSt w0 w A n c g4 g9 gr at_ e cs) {at2 e2 : Int} (hb : w'.heap[gr]? = some (.cells (RdC A n c at2 e2) 77 (0, 0))) (hg : w.grownBy w' (some gr)) : HpSt w0 w' A n c g4 g9 gr at2 e2 cs :=
 ⟨blk_grown h.b4 hg (fun e => blk_ne h.b4 h.br (by decide) (Option.some.inj e)), blk_grown h.b9 hg (fun e => blk_ne h.b9 h.br (by decide) (Option.some.inj e)), hb, pw_below_grown h.bl (some gr) (below_size h.bl) hg (fun k e => by cases e; exact h.nr), h.n4, h.n9, h.nr, h.d49⟩
theorem HpSt.below {w0 w w' : World} {A : Option Addr} {n c g4 g9 gr : Nat} {at_ e : Int} {cs : Array Value} (h : HpSt w0 w A n c g4 g9 gr at_ e cs) (hb : Below w.heap.size w w') : HpSt w0 w' A n c g4 g9 gr at_ e cs :=
 ⟨blk_below h.b4 hb, blk_below h.b9 hb, blk_below h.br hb, below_step h.bl hb, h.n4, h.n9, h.nr, h.d49⟩
theorem HpSt.put {w0 w : World} {A : Option Addr} {n c g4 g9 gr : Nat} {at_ e : Int} {cs cs2 : Array Value} (h : HpSt w0 w A n c g4 g9 gr at_ e cs) (i : Nat) (u : Value) (hs : cs.setIfInBounds i u = cs2) : HpSt w0 (w.setCell ⟨g9, i, none⟩ u) A n c g4 g9 gr at_ e cs2 :=
 ⟨blk_far h.b4 h.d49 _, blk_put h.b9 i _ hs, blk_far h.br (blk_ne h.br h.b9 (by decide)) _, below_set h.bl h.n9, h.n4, h.n9, h.nr, h.d49⟩
theorem HpSt.err {w0 w : World} {A : Option Addr} {n c g4 g9 gr : Nat} {at_ e : Int} {cs : Array Value} (h : HpSt w0 w A n c g4 g9 gr at_ e cs) (e2 : Int) : HpSt w0 (w.setCell ⟨gr, 2, none⟩ (.int .i64 e2)) A n c g4 g9 gr at_ e2 cs :=
 ⟨blk_far h.b4 (blk_ne h.b4 h.br (by decide)) _, blk_far h.b9 (blk_ne h.b9 h.br (by decide)) _, blk_put h.br 2 _ rfl, below_set h.bl h.nr, h.n4, h.n9, h.nr, h.d49⟩
theorem HpSt.drew {w0 w : World} {A : Option Addr} {n c g4 g9 gr : Nat} {at_ e : Int} {cs : Array Value} (h : HpSt w0 w A n c g4 g9 gr at_ e cs) : HpSt w0 w.drew A n c g4 g9 gr at_ e cs :=
 ⟨h.b4, h.b9, h.br, below_drew h.bl, h.n4, h.n9, h.nr, h.d49⟩
def height_Parse.T12 : Bool × List (List Nat × List Nat) := (true, [([], []), ([], []), ([1], [1]), ([2], [2]), ([3], [3]), ([0, 0], [0]), ([5, 0, 5], []), ([4, 6, 0, 1, 2, 3, 4, 5, 6], [4])])
def height_Parse.B12 : List Nat := [0, 0, 2, 6, 14, 1, 33, 127]
theorem height_Parse.tab12 : rtab .any (opsOf Try.f29 12) = height_Parse.T12 := by kernel_rfl
theorem height_Parse.bits12 : waitsOk height_Parse.T12.2 height_Parse.B12 = true := by kernel_rfl
def height_Parse.T13 : Bool × List (List Nat × List Nat) := (true, [([], []), ([], []), ([1], [1]), ([2], [2]), ([3], [3]), ([0, 0], [0]), ([4, 5, 0, 1, 2, 3, 4, 5], [4]), ([6, 0, 1, 2, 3, 4, 5, 6], [])])
def height_Parse.B13 : List Nat := [0, 0, 2, 6, 14, 1, 63, 127]
theorem height_Parse.tab13 : rtab .any (opsOf Try.f29 13) = height_Parse.T13 := by kernel_rfl
theorem height_Parse.bits13 : waitsOk height_Parse.T13.2 height_Parse.B13 = true := by kernel_rfl
theorem hp_bad (A0 : Option Addr) (c0 : Nat) (l0 : List Int) (a1 : Int) (w : World) (k p1 e1 i pi ei : Int) (HL : l0.length ≤ 1000000000000) (HY : Bytes l0) (HR0 : Kd.C (Kd.int .u8) w A0 l0.length l0) (HC0 : l0.length ≤ c0) (HG1 : rd1 l0 1 a1 0 = (k, p1, e1)) (hk : k = 0) (he : ¬ e1 = 0) (HGi : rd1 l0 1 p1 e1 = (i, pi, ei)) (hf : ¬ ei = 0) :
  Calls Try.prog 29 #[.slice A0 l0.length c0, .int .i64 a1] w fun e w' => e = .returned (.tuple #[.agg #[.bool false, .int .i64 0, .int .i64 0, .int .i64 0, .int .i64 0, .int .i64 0], .int .i64 0, .int .i64 ei]) ∧ Below w.heap.size w w' := by
 have hu23 := Try.underlying23
 have hu67 := Try.underlying77
 replace HL := Aside0.mk HL
 replace HY := Aside0.mk HY
 replace HR0 := Aside0.mk HR0
 replace HC0 := Aside0.mk HC0
 replace HG1 := Aside0.mk HG1
 replace HGi := Aside0.mk HGi
 subst hk
 have b1 : (e1 == 0) = false := beq_eq_false_iff_ne.mpr he
 clear he
 have b4 : (ei == 0) = false := beq_eq_false_iff_ne.mpr hf
 have b5 : (ei != 0) = true := bne_iff_ne.mpr hf
 clear hf
 go_enter Try.func29, Try.ntmps29
 go_upto_region 4 with (first
  | ((with_reducible refine gate_dst (N := 4) rfl ?_); refine box_event ?hg (N := 4) ?hd (cs := #[.bool false, .int .i64 0, .int .i64 0, .int .i64 0, .int .i64 0, .int .i64 0]) (t := 23) ?hr ?_; (case hd => rfl); (case hg => rfl); (case hr => first | (go_simp; done) | (go_simp; rfl)); intro g4 hg w4 hbox hb; have HB4 := Aside0.mk hb; have G4 := Aside0.mk (Nat.le_of_eq hg.symm); have B4 := Aside0.mk hbox; clear hb hbox hg)
  | ((with_reducible refine gate_dst (N := 13) rfl ?_); refine box_event ?hg (N := 13) ?hd (cs := RdC A0 l0.length c0 a1 0) (t := 77) ?hr ?_; (case hd => rfl); (case hg => rfl); (case hr => first | (go_simp; done) | (go_simp; rfl)); intro gr hg w5 hbox hb; have HB5 := Aside0.mk (below_step HB4.out hb); have GR := Aside0.mk (show w.heap.size ≤ gr by rw [hg]; exact below_size HB4.out); have B45 := Aside0.mk (blk_below B4.out hb); have BR := Aside0.mk hbox; clear hb hbox hg HB4 B4)
  | ((with_reducible refine gate_dst (N := 15) rfl ?_); refine goesL_ (some 15) rfl rfl Try.func33 (by kernel_rfl) rfl #[.pointer (some ⟨gr, 0, none⟩)] rfl (by (try simp only [List.map_toArray, List.map_cons, List.map_nil]); first | done | rfl) ?_; (with_reducible refine (hr_oneG gr A0 c0 l0 a1 0 _ _ _ _ HG1.out HY.out HL.out (Kd.C_below HR0.out HB5.out) HC0.out BR.out).mono ?_); rintro x_ w6 ⟨rfl, hbx, hgr⟩; refine ⟨_, rfl, ?_⟩; have HB6 := Aside0.mk (pw_below_grown HB5.out (some gr) (below_size HB5.out) hgr (fun k_ e_ => by cases e_; exact GR.out)); have B46 := Aside0.mk (blk_grown B45.out hgr (fun e_ => blk_ne B45.out BR.out (by decide) (Option.some.inj e_))); have BR6 := Aside0.mk hbx; clear hbx hgr HB5 B45 BR)
  | ((with_reducible refine gate_dst (N := 9) rfl ?_); refine box_event ?hg (N := 9) ?hd (cs := #[.bool false, .int .i64 0, .int .i64 0, .int .i64 0, .int .i64 0, .int .i64 0]) (t := 23) ?hr ?_; (case hd => rfl); (case hg => rfl); (case hr => first | (go_simp; done) | (go_simp; rfl)); intro g9 hg w7 hbox hb; have ST0 := Aside0.mk (HpSt.mk (blk_below B46.out hb) hbox (blk_below BR6.out hb) (below_step HB6.out hb) G4.out (by rw [hg]; exact below_size HB6.out) GR.out (by rw [hg]; exact Nat.ne_of_lt (blk_lt B46.out))); clear hb hbox hg; obtain ⟨⟨u0, u1, u2, u3, u4, u5⟩, uf0, uf1, uf2, uf3, uf4, uf5⟩ := cells6 ST0.out.b9))
 have ST := Aside0.mk (show HpSt w ((((((w7.setCell ⟨g9, 0, none⟩ (.bool true)).setCell ⟨g9, 1, none⟩ (.int .i64 0)).setCell ⟨g9, 2, none⟩ (.int .i64 0)).setCell ⟨g9, 3, none⟩ (.int .i64 0)).setCell ⟨g9, 4, none⟩ (.int .i64 0)).setCell ⟨g9, 5, none⟩ (.int .i64 0)) A0 l0.length c0 g4 g9 gr p1 e1 #[.bool true, .int .i64 0, .int .i64 0, .int .i64 0, .int .i64 0, .int .i64 0] from (HpSt.put (HpSt.put (HpSt.put (HpSt.put (HpSt.put (HpSt.put ST0.out 0 (.bool true) rfl) 1 (.int .i64 0) rfl) 2 (.int .i64 0) rfl) 3 (.int .i64 0) rfl) 4 (.int .i64 0) rfl) 5 (.int .i64 0) rfl))
 generalize ((((((w7.setCell ⟨g9, 0, none⟩ (.bool true)).setCell ⟨g9, 1, none⟩ (.int .i64 0)).setCell ⟨g9, 2, none⟩ (.int .i64 0)).setCell ⟨g9, 3, none⟩ (.int .i64 0)).setCell ⟨g9, 4, none⟩ (.int .i64 0)).setCell ⟨g9, 5, none⟩ (.int .i64 0)) = wq at ST ⊢
 clear ST0 u0 uf0 u1 uf1 u2 uf2 u3 uf3 u4 uf4 u5 uf5
 obtain ⟨⟨v0, v1, v2⟩, vf0, vf1, vf2⟩ := cells3 ST.out.br
 obtain ⟨⟨y0, y1, y2, y3, y4, y5⟩, yf0, yf1, yf2, yf3, yf4, yf5⟩ := cells6 ST.out.b9
 go_upto_region 9 with (first
  | ((with_reducible refine gate_dst (N := 47) rfl ?_); refine goesL_ (some 47) rfl rfl Try.func33 (by kernel_rfl) rfl #[.pointer (some ⟨gr, 0, none⟩)] rfl (by (try simp only [List.map_toArray, List.map_cons, List.map_nil]); first | done | rfl) ?_; (with_reducible refine (hr_oneG gr A0 c0 l0 p1 e1 _ _ _ _ HGi.out HY.out HL.out (Kd.C_below HR0.out ST.out.bl) HC0.out ST.out.br).mono ?_); rintro x_ w47 ⟨rfl, hbx, hgr⟩; refine ⟨_, rfl, ?_⟩; have STn := Aside0.mk (ST.out.step hbx hgr); clear ST hbx hgr; have ST := STn; clear STn; obtain ⟨⟨x0, x1, x2, x3, x4, x5⟩, xf0, xf1, xf2, xf3, xf4, xf5⟩ := cells6 ST.out.b9))
 have STn := Aside0.mk (HpSt.put ST.out 5 (.int .i64 i) (cs2 := #[.bool true, .int .i64 0, .int .i64 0, .int .i64 0, .int .i64 0, .int .i64 i]) rfl)
 clear ST
 have ST := STn
 clear STn x0 xf0 x1 xf1 x2 xf2 x3 xf3 x4 xf4 x5 xf5
 clear v0 vf0 v1 vf1 v2 vf2
 clear y0 yf0 y1 yf1 y2 yf2 y3 yf3 y4 yf4 y5 yf5
 generalize (w47.setCell ⟨g9, 5, none⟩ (.int .i64 i)) = wr at ST ⊢
 obtain ⟨⟨v0, v1, v2⟩, vf0, vf1, vf2⟩ := cells3 ST.out.br
 obtain ⟨⟨y0, y1, y2, y3, y4, y5⟩, yf0, yf1, yf2, yf3, yf4, yf5⟩ := cells6 ST.out.b9
 go_upto_region 12 with (fail)
 have STd := Aside0.mk (HpSt.drew ST.out)
 clear ST
 have ST := STd
 clear STd
 refine start_ (n := 8) (S := fun w' => w'.cell? ⟨gr, 2, none⟩ = some (.int .i64 ei)) (ds := []) #[false, false, false, false, false, false, false, false] (by kernel_rfl) rfl rfl ((blk_cell ST.out.br 2).trans rfl) (fun hHeld => ?_); refine with_tabW height_Parse.tab12 height_Parse.bits12 (fun HT_ HW_ => ?_)
 generalize wr.drew = wd at ST hHeld ⊢
 obtain ⟨⟨o0, o1, o2, o3, o4, o5⟩, of0, of1, of2, of3, of4, of5⟩ := cells6 ST.out.b4
 have n94 : g9 ≠ g4 := ST.out.d49.symm
 have nr4 : gr ≠ g4 := (blk_ne ST.out.br ST.out.b4 (by decide))
 refine pure_ (i := 0) (N := some 67) (v := ?_) (a' := ?_) #[true, false, false, false, false, false, false, false] rfl rfl (any_of HT_.out (by kernel_rfl)) (fun _ _ _ h => h) (Or.inl ⟨by rfl, ?_⟩) ?_ ?_
 rotate_left
 ·intro w'
  go_simp
  with_reducible rfl
 rotate_left
 ·simp only [Act.put, List.setIfInBounds_toArray, List.set_cons_zero, List.set_cons_succ, i64_w, i32_w]
  rfl
 refine pure_ (i := 1) (N := some 68) (v := ?_) (a' := ?_) #[true, true, false, false, false, false, false, false] rfl rfl (any_of HT_.out (by kernel_rfl)) (fun _ _ _ h => h) (Or.inl ⟨by rfl, ?_⟩) ?_ ?_
 rotate_left
 ·intro w'
  go_simp
  with_reducible rfl
 rotate_left
 ·simp only [Act.put, List.setIfInBounds_toArray, List.set_cons_zero, List.set_cons_succ, i64_w, i32_w]
  rfl
 refine pure_ (i := 2) (N := some 69) (v := ?_) (a' := ?_) #[true, true, true, false, false, false, false, false] rfl rfl (any_of HT_.out (by kernel_rfl)) (fun _ _ _ h => h) (Or.inl ⟨by rfl, ?_⟩) ?_ ?_
 rotate_left
 ·intro w'
  go_simp
  with_reducible rfl
 rotate_left
 ·simp only [Act.put, List.setIfInBounds_toArray, List.set_cons_zero, List.set_cons_succ, i64_w, i32_w]
  rfl
 refine pure_ (i := 3) (N := some 70) (v := ?_) (a' := ?_) #[true, true, true, true, false, false, false, false] rfl rfl (any_of HT_.out (by kernel_rfl)) (fun _ _ _ h => h) (Or.inl ⟨by rfl, ?_⟩) ?_ ?_
 rotate_left
 ·intro w'
  go_simp
  with_reducible rfl
 rotate_left
 ·simp only [Act.put, List.setIfInBounds_toArray, List.set_cons_zero, List.set_cons_succ, i64_w, i32_w]
  rfl
 refine take_ (i := 4) (N := some 71) (v := ?_) (a' := ?_) #[true, true, true, true, true, false, false, false] rfl rfl (take_ofW HT_.out HW_.out (by kernel_rfl)) (fun _ _ _ h => h) (Or.inl ⟨by rfl, ?_⟩) hHeld ?_ ?_
 rotate_left
 ·intro w' s0
  go_simp
  with_reducible rfl
 rotate_left
 ·simp only [Act.put, List.setIfInBounds_toArray, List.set_cons_zero, List.set_cons_succ, i64_w, i32_w]
  rfl
 refine one_ (i := 5) (N := none) #[true, true, true, true, true, true, false, false] rfl rfl (one_of HT_.out (by kernel_rfl)) (by decide) (fun K hK => ?_)
 refine skip_ (w1 := ?_) (by rfl) rfl ?_ ?_
 rotate_left
 ·go_simp
  rfl
 refine hK.out _ _ ?_ (fun hHeld2 => ?_)
 ·(repeat (first | refine (cell_far n94 _).trans ?_ | refine (cell_far nr4 _).trans ?_)); exact hHeld
 clear hHeld
 have hHeld := hHeld2
 clear hHeld2
 clear hK K
 refine pure_ (i := 6) (N := some 5) (v := ?_) (a' := ?_) #[true, true, true, true, true, true, true, false] rfl rfl (any_of HT_.out (by kernel_rfl)) (fun _ _ _ h => h) (Or.inl ⟨by rfl, ?_⟩) ?_ ?_
 rotate_left
 ·intro w'
  go_simp
  with_reducible rfl
 rotate_left
 ·simp only [Act.put, List.setIfInBounds_toArray, List.set_cons_zero, List.set_cons_succ, i64_w, i32_w]
  rfl
 refine pure_ (i := 7) (N := some 6) (v := ?_) (a' := ?_) #[true, true, true, true, true, true, true, true] rfl rfl (any_of HT_.out (by kernel_rfl)) (fun _ _ _ h => h) (Or.inl ⟨by rfl, ?_⟩) ?_ ?_
 rotate_left
 ·intro w'
  go_simp
  with_reducible rfl
 rotate_left
 ·simp only [Act.put, List.setIfInBounds_toArray, List.set_cons_zero, List.set_cons_succ, i64_w, i32_w]
  rfl
 refine done_ (done_of HT_.out (by kernel_rfl)) ?_
 clear HT_ HW_
 try go_wp2
 refine bodyPost_ret (results_ctt rfl _ _ g4 23 #[.bool false, .int .i64 0, .int .i64 0, .int .i64 0, .int .i64 0, .int .i64 0] (0, 0) _ rfl (blk_put (blk_put (blk_put (blk_put (blk_put (blk_put ST.out.b4 0 (.bool false) rfl) 1 (.int .i64 0) rfl) 2 (.int .i64 0) rfl) 3 (.int .i64 0) rfl) 4 (.int .i64 0) rfl) 5 (.int .i64 0) (cs' := #[.bool false, .int .i64 0, .int .i64 0, .int .i64 0, .int .i64 0, .int .i64 0]) rfl) Try.underlying23 rfl (by kernel_rfl)) rfl ?_
 exact ⟨rfl, (below_set (below_set (below_set (below_set (below_set (below_set ST.out.bl ST.out.n4) ST.out.n4) ST.out.n4) ST.out.n4) ST.out.n4) ST.out.n4)⟩
theorem hp_gt (A0 : Option Addr) (c0 : Nat) (l0 : List Int) (a1 : Int) (w : World) (k p1 e1 t pt et o po eo r pr er d pd ed i pi ei : Int) (HL : l0.length ≤ 1000000000000) (HY : Bytes l0) (HR0 : Kd.C (Kd.int .u8) w A0 l0.length l0) (HC0 : l0.length ≤ c0) (HG1 : rd1 l0 1 a1 0 = (k, p1, e1)) (he : e1 = 0) (hk : ¬ k = 0) (hg : 1 < k) (HGt : rd8 l0 p1 4 = (t, pt, et)) (HGo : rd1 l0 1 pt et = (o, po, eo)) (HGr : rd1 l0 1 po eo = (r, pr, er)) (HGd : rd8 l0 pr er = (d, pd, ed)) (HGi : rd1 l0 1 pd ed = (i, pi, ei)) (hf : ¬ ei = 0) :
  Calls Try.prog 29 #[.slice A0 l0.length c0, .int .i64 a1] w fun e w' => e = .returned (.tuple #[.agg #[.bool false, .int .i64 0, .int .i64 0, .int .i64 0, .int .i64 0, .int .i64 0], .int .i64 0, .int .i64 ei]) ∧ Below w.heap.size w w' := by
 have hu23 := Try.underlying23
 have hu67 := Try.underlying77
 replace HL := Aside0.mk HL
 replace HY := Aside0.mk HY
 replace HR0 := Aside0.mk HR0
 replace HC0 := Aside0.mk HC0
 replace HG1 := Aside0.mk HG1
 replace HGt := Aside0.mk HGt
 replace HGo := Aside0.mk HGo
 replace HGr := Aside0.mk HGr
 replace HGd := Aside0.mk HGd
 replace HGi := Aside0.mk HGi
 subst he
 have b2 : (k == 0) = false := beq_eq_false_iff_ne.mpr hk
 have b3 : decide (1 < k) = true := decide_eq_true hg
 clear hk hg
 have b4 : (ei == 0) = false := beq_eq_false_iff_ne.mpr hf
 have b5 : (ei != 0) = true := bne_iff_ne.mpr hf
 clear hf
 go_enter Try.func29, Try.ntmps29
 go_upto_region 4 with (first
  | ((with_reducible refine gate_dst (N := 4) rfl ?_); refine box_event ?hg (N := 4) ?hd (cs := #[.bool false, .int .i64 0, .int .i64 0, .int .i64 0, .int .i64 0, .int .i64 0]) (t := 23) ?hr ?_; (case hd => rfl); (case hg => rfl); (case hr => first | (go_simp; done) | (go_simp; rfl)); intro g4 hg w4 hbox hb; have HB4 := Aside0.mk hb; have G4 := Aside0.mk (Nat.le_of_eq hg.symm); have B4 := Aside0.mk hbox; clear hb hbox hg)
  | ((with_reducible refine gate_dst (N := 13) rfl ?_); refine box_event ?hg (N := 13) ?hd (cs := RdC A0 l0.length c0 a1 0) (t := 77) ?hr ?_; (case hd => rfl); (case hg => rfl); (case hr => first | (go_simp; done) | (go_simp; rfl)); intro gr hg w5 hbox hb; have HB5 := Aside0.mk (below_step HB4.out hb); have GR := Aside0.mk (show w.heap.size ≤ gr by rw [hg]; exact below_size HB4.out); have B45 := Aside0.mk (blk_below B4.out hb); have BR := Aside0.mk hbox; clear hb hbox hg HB4 B4)
  | ((with_reducible refine gate_dst (N := 15) rfl ?_); refine goesL_ (some 15) rfl rfl Try.func33 (by kernel_rfl) rfl #[.pointer (some ⟨gr, 0, none⟩)] rfl (by (try simp only [List.map_toArray, List.map_cons, List.map_nil]); first | done | rfl) ?_; (with_reducible refine (hr_oneG gr A0 c0 l0 a1 0 _ _ _ _ HG1.out HY.out HL.out (Kd.C_below HR0.out HB5.out) HC0.out BR.out).mono ?_); rintro x_ w6 ⟨rfl, hbx, hgr⟩; refine ⟨_, rfl, ?_⟩; have HB6 := Aside0.mk (pw_below_grown HB5.out (some gr) (below_size HB5.out) hgr (fun k_ e_ => by cases e_; exact GR.out)); have B46 := Aside0.mk (blk_grown B45.out hgr (fun e_ => blk_ne B45.out BR.out (by decide) (Option.some.inj e_))); have BR6 := Aside0.mk hbx; clear hbx hgr HB5 B45 BR)
  | ((with_reducible refine gate_dst (N := 9) rfl ?_); refine box_event ?hg (N := 9) ?hd (cs := #[.bool false, .int .i64 0, .int .i64 0, .int .i64 0, .int .i64 0, .int .i64 0]) (t := 23) ?hr ?_; (case hd => rfl); (case hg => rfl); (case hr => first | (go_simp; done) | (go_simp; rfl)); intro g9 hg w7 hbox hb; have ST0 := Aside0.mk (HpSt.mk (blk_below B46.out hb) hbox (blk_below BR6.out hb) (below_step HB6.out hb) G4.out (by rw [hg]; exact below_size HB6.out) GR.out (by rw [hg]; exact Nat.ne_of_lt (blk_lt B46.out))); clear hb hbox hg; obtain ⟨⟨u0, u1, u2, u3, u4, u5⟩, uf0, uf1, uf2, uf3, uf4, uf5⟩ := cells6 ST0.out.b9))
 have ST := Aside0.mk (show HpSt w ((((((w7.setCell ⟨g9, 0, none⟩ (.bool false)).setCell ⟨g9, 1, none⟩ (.int .i64 0)).setCell ⟨g9, 2, none⟩ (.int .i64 0)).setCell ⟨g9, 3, none⟩ (.int .i64 0)).setCell ⟨g9, 4, none⟩ (.int .i64 0)).setCell ⟨g9, 5, none⟩ (.int .i64 0)) A0 l0.length c0 g4 g9 gr p1 0 #[.bool false, .int .i64 0, .int .i64 0, .int .i64 0, .int .i64 0, .int .i64 0] from (HpSt.put (HpSt.put (HpSt.put (HpSt.put (HpSt.put (HpSt.put ST0.out 0 (.bool false) rfl) 1 (.int .i64 0) rfl) 2 (.int .i64 0) rfl) 3 (.int .i64 0) rfl) 4 (.int .i64 0) rfl) 5 (.int .i64 0) rfl))
 generalize ((((((w7.setCell ⟨g9, 0, none⟩ (.bool false)).setCell ⟨g9, 1, none⟩ (.int .i64 0)).setCell ⟨g9, 2, none⟩ (.int .i64 0)).setCell ⟨g9, 3, none⟩ (.int .i64 0)).setCell ⟨g9, 4, none⟩ (.int .i64 0)).setCell ⟨g9, 5, none⟩ (.int .i64 0)) = wq at ST ⊢
 clear ST0 u0 uf0 u1 uf1 u2 uf2 u3 uf3 u4 uf4 u5 uf5
 obtain ⟨⟨v0, v1, v2⟩, vf0, vf1, vf2⟩ := cells3 ST.out.br
 obtain ⟨⟨y0, y1, y2, y3, y4, y5⟩, yf0, yf1, yf2, yf3, yf4, yf5⟩ := cells6 ST.out.b9
 go_upto_region 6 with (fail)
 have STn := Aside0.mk (HpSt.err ST.out 4)
 clear ST
 have ST := STn
 clear STn
 clear v0 vf0 v1 vf1 v2 vf2 y0 yf0 y1 yf1 y2 yf2 y3 yf3 y4 yf4 y5 yf5
 generalize (wq.setCell ⟨gr, 2, none⟩ (.int .i64 4)) = wp at ST ⊢
 obtain ⟨⟨y0, y1, y2, y3, y4, y5⟩, yf0, yf1, yf2, yf3, yf4, yf5⟩ := cells6 ST.out.b9
 go_upto_region 9 with (first
  | ((with_reducible refine gate_dst (N := 35) rfl ?_); refine goesL_ (some 35) rfl rfl Try.func34 (by kernel_rfl) rfl #[.pointer (some ⟨gr, 0, none⟩)] rfl (by (try simp only [List.map_toArray, List.map_cons, List.map_nil]); first | done | rfl) ?_; (with_reducible refine (hr_eightG gr A0 c0 l0 p1 4 _ _ _ _ HGt.out HY.out HL.out (Kd.C_below HR0.out ST.out.bl) HC0.out ST.out.br).mono ?_); rintro x_ w35 ⟨rfl, hbx, hgr⟩; refine ⟨_, rfl, ?_⟩; have STn := Aside0.mk (ST.out.step hbx hgr); clear ST hbx hgr; have ST := STn; clear STn)
  | ((with_reducible refine gate_dst (N := 37) rfl ?_); refine goesL_ (some 37) rfl rfl Try.func33 (by kernel_rfl) rfl #[.pointer (some ⟨gr, 0, none⟩)] rfl (by (try simp only [List.map_toArray, List.map_cons, List.map_nil]); first | done | rfl) ?_; (with_reducible refine (hr_oneG gr A0 c0 l0 pt et _ _ _ _ HGo.out HY.out HL.out (Kd.C_below HR0.out ST.out.bl) HC0.out ST.out.br).mono ?_); rintro x_ w37 ⟨rfl, hbx, hgr⟩; refine ⟨_, rfl, ?_⟩; have STn := Aside0.mk (ST.out.step hbx hgr); clear ST hbx hgr; have ST := STn; clear STn)
  | ((with_reducible refine gate_dst (N := 39) rfl ?_); refine goesL_ (some 39) rfl rfl Try.func33 (by kernel_rfl) rfl #[.pointer (some ⟨gr, 0, none⟩)] rfl (by (try simp only [List.map_toArray, List.map_cons, List.map_nil]); first | done | rfl) ?_; (with_reducible refine (hr_oneG gr A0 c0 l0 po eo _ _ _ _ HGr.out HY.out HL.out (Kd.C_below HR0.out ST.out.bl) HC0.out ST.out.br).mono ?_); rintro x_ w39 ⟨rfl, hbx, hgr⟩; refine ⟨_, rfl, ?_⟩; have STn := Aside0.mk (ST.out.step hbx hgr); clear ST hbx hgr; have ST := STn; clear STn)
  | ((with_reducible refine gate_dst (N := 41) rfl ?_); refine goesL_ (some 41) rfl rfl Try.func34 (by kernel_rfl) rfl #[.pointer (some ⟨gr, 0, none⟩)] rfl (by (try simp only [List.map_toArray, List.map_cons, List.map_nil]); first | done | rfl) ?_; (with_reducible refine (hr_eightG gr A0 c0 l0 pr er _ _ _ _ HGd.out HY.out HL.out (Kd.C_below HR0.out ST.out.bl) HC0.out ST.out.br).mono ?_); rintro x_ w41 ⟨rfl, hbx, hgr⟩; refine ⟨_, rfl, ?_⟩; have STn := Aside0.mk (ST.out.step hbx hgr); clear ST hbx hgr; have ST := STn; clear STn; obtain ⟨⟨z0, z1, z2, z3, z4, z5⟩, zf0, zf1, zf2, zf3, zf4, zf5⟩ := cells6 ST.out.b9)
  | ((with_reducible refine gate_dst (N := 47) rfl ?_); clear z0 zf0 z1 zf1 z2 zf2 z3 zf3 z4 zf4 z5 zf5; have STp := Aside0.mk (HpSt.put (HpSt.put (HpSt.put (HpSt.put ST.out 1 (.int .i64 t) rfl) 2 (.int .i64 o) rfl) 3 (.int .i64 r) rfl) 4 (.int .i64 d) rfl); clear ST; have ST := STp; clear STp; refine goesL_ (some 47) rfl rfl Try.func33 (by kernel_rfl) rfl #[.pointer (some ⟨gr, 0, none⟩)] rfl (by (try simp only [List.map_toArray, List.map_cons, List.map_nil]); first | done | rfl) ?_; (with_reducible refine (hr_oneG gr A0 c0 l0 pd ed _ _ _ _ HGi.out HY.out HL.out (Kd.C_below HR0.out ST.out.bl) HC0.out ST.out.br).mono ?_); rintro x_ w47 ⟨rfl, hbx, hgr⟩; refine ⟨_, rfl, ?_⟩; have STn := Aside0.mk (ST.out.step hbx hgr); clear ST hbx hgr; have ST := STn; clear STn; obtain ⟨⟨x0, x1, x2, x3, x4, x5⟩, xf0, xf1, xf2, xf3, xf4, xf5⟩ := cells6 ST.out.b9))
 have STn := Aside0.mk (HpSt.put ST.out 5 (.int .i64 i) (cs2 := #[.bool false, .int .i64 t, .int .i64 o, .int .i64 r, .int .i64 d, .int .i64 i]) rfl)
 clear ST
 have ST := STn
 clear STn x0 xf0 x1 xf1 x2 xf2 x3 xf3 x4 xf4 x5 xf5
 clear y0 yf0 y1 yf1 y2 yf2 y3 yf3 y4 yf4 y5 yf5
 generalize (w47.setCell ⟨g9, 5, none⟩ (.int .i64 i)) = wr at ST ⊢
 obtain ⟨⟨v0, v1, v2⟩, vf0, vf1, vf2⟩ := cells3 ST.out.br
 obtain ⟨⟨y0, y1, y2, y3, y4, y5⟩, yf0, yf1, yf2, yf3, yf4, yf5⟩ := cells6 ST.out.b9
 go_upto_region 12 with (fail)
 have STd := Aside0.mk (HpSt.drew ST.out)
 clear ST
 have ST := STd
 clear STd
 refine start_ (n := 8) (S := fun w' => w'.cell? ⟨gr, 2, none⟩ = some (.int .i64 ei)) (ds := []) #[false, false, false, false, false, false, false, false] (by kernel_rfl) rfl rfl ((blk_cell ST.out.br 2).trans rfl) (fun hHeld => ?_); refine with_tabW height_Parse.tab12 height_Parse.bits12 (fun HT_ HW_ => ?_)
 generalize wr.drew = wd at ST hHeld ⊢
 obtain ⟨⟨o0, o1, o2, o3, o4, o5⟩, of0, of1, of2, of3, of4, of5⟩ := cells6 ST.out.b4
 have n94 : g9 ≠ g4 := ST.out.d49.symm
 have nr4 : gr ≠ g4 := (blk_ne ST.out.br ST.out.b4 (by decide))
 refine pure_ (i := 0) (N := some 67) (v := ?_) (a' := ?_) #[true, false, false, false, false, false, false, false] rfl rfl (any_of HT_.out (by kernel_rfl)) (fun _ _ _ h => h) (Or.inl ⟨by rfl, ?_⟩) ?_ ?_
 rotate_left
 ·intro w'
  go_simp
  with_reducible rfl
 rotate_left
 ·simp only [Act.put, List.setIfInBounds_toArray, List.set_cons_zero, List.set_cons_succ, i64_w, i32_w]
  rfl
 refine pure_ (i := 1) (N := some 68) (v := ?_) (a' := ?_) #[true, true, false, false, false, false, false, false] rfl rfl (any_of HT_.out (by kernel_rfl)) (fun _ _ _ h => h) (Or.inl ⟨by rfl, ?_⟩) ?_ ?_
 rotate_left
 ·intro w'
  go_simp
  with_reducible rfl
 rotate_left
 ·simp only [Act.put, List.setIfInBounds_toArray, List.set_cons_zero, List.set_cons_succ, i64_w, i32_w]
  rfl
 refine pure_ (i := 2) (N := some 69) (v := ?_) (a' := ?_) #[true, true, true, false, false, false, false, false] rfl rfl (any_of HT_.out (by kernel_rfl)) (fun _ _ _ h => h) (Or.inl ⟨by rfl, ?_⟩) ?_ ?_
 rotate_left
 ·intro w'
  go_simp
  with_reducible rfl
 rotate_left
 ·simp only [Act.put, List.setIfInBounds_toArray, List.set_cons_zero, List.set_cons_succ, i64_w, i32_w]
  rfl
 refine pure_ (i := 3) (N := some 70) (v := ?_) (a' := ?_) #[true, true, true, true, false, false, false, false] rfl rfl (any_of HT_.out (by kernel_rfl)) (fun _ _ _ h => h) (Or.inl ⟨by rfl, ?_⟩) ?_ ?_
 rotate_left
 ·intro w'
  go_simp
  with_reducible rfl
 rotate_left
 ·simp only [Act.put, List.setIfInBounds_toArray, List.set_cons_zero, List.set_cons_succ, i64_w, i32_w]
  rfl
 refine take_ (i := 4) (N := some 71) (v := ?_) (a' := ?_) #[true, true, true, true, true, false, false, false] rfl rfl (take_ofW HT_.out HW_.out (by kernel_rfl)) (fun _ _ _ h => h) (Or.inl ⟨by rfl, ?_⟩) hHeld ?_ ?_
 rotate_left
 ·intro w' s0
  go_simp
  with_reducible rfl
 rotate_left
 ·simp only [Act.put, List.setIfInBounds_toArray, List.set_cons_zero, List.set_cons_succ, i64_w, i32_w]
  rfl
 refine one_ (i := 5) (N := none) #[true, true, true, true, true, true, false, false] rfl rfl (one_of HT_.out (by kernel_rfl)) (by decide) (fun K hK => ?_)
 refine skip_ (w1 := ?_) (by rfl) rfl ?_ ?_
 rotate_left
 ·go_simp
  rfl
 refine hK.out _ _ ?_ (fun hHeld2 => ?_)
 ·(repeat (first | refine (cell_far n94 _).trans ?_ | refine (cell_far nr4 _).trans ?_)); exact hHeld
 clear hHeld
 have hHeld := hHeld2
 clear hHeld2
 clear hK K
 refine pure_ (i := 6) (N := some 5) (v := ?_) (a' := ?_) #[true, true, true, true, true, true, true, false] rfl rfl (any_of HT_.out (by kernel_rfl)) (fun _ _ _ h => h) (Or.inl ⟨by rfl, ?_⟩) ?_ ?_
 rotate_left
 ·intro w'
  go_simp
  with_reducible rfl
 rotate_left
 ·simp only [Act.put, List.setIfInBounds_toArray, List.set_cons_zero, List.set_cons_succ, i64_w, i32_w]
  rfl
 refine pure_ (i := 7) (N := some 6) (v := ?_) (a' := ?_) #[true, true, true, true, true, true, true, true] rfl rfl (any_of HT_.out (by kernel_rfl)) (fun _ _ _ h => h) (Or.inl ⟨by rfl, ?_⟩) ?_ ?_
 rotate_left
 ·intro w'
  go_simp
  with_reducible rfl
 rotate_left
 ·simp only [Act.put, List.setIfInBounds_toArray, List.set_cons_zero, List.set_cons_succ, i64_w, i32_w]
  rfl
 refine done_ (done_of HT_.out (by kernel_rfl)) ?_
 clear HT_ HW_
 try go_wp2
 refine bodyPost_ret (results_ctt rfl _ _ g4 23 #[.bool false, .int .i64 0, .int .i64 0, .int .i64 0, .int .i64 0, .int .i64 0] (0, 0) _ rfl (blk_put (blk_put (blk_put (blk_put (blk_put (blk_put ST.out.b4 0 (.bool false) rfl) 1 (.int .i64 0) rfl) 2 (.int .i64 0) rfl) 3 (.int .i64 0) rfl) 4 (.int .i64 0) rfl) 5 (.int .i64 0) (cs' := #[.bool false, .int .i64 0, .int .i64 0, .int .i64 0, .int .i64 0, .int .i64 0]) rfl) Try.underlying23 rfl (by kernel_rfl)) rfl ?_
 exact ⟨rfl, (below_set (below_set (below_set (below_set (below_set (below_set ST.out.bl ST.out.n4) ST.out.n4) ST.out.n4) ST.out.n4) ST.out.n4) ST.out.n4)⟩
theorem hp_n_e (A0 : Option Addr) (c0 : Nat) (l0 : List Int) (a1 : Int) (w : World) (k p1 e1 i pi ei : Int) (HL : l0.length ≤ 1000000000000) (HY : Bytes l0) (HR0 : Kd.C (Kd.int .u8) w A0 l0.length l0) (HC0 : l0.length ≤ c0) (HG1 : rd1 l0 1 a1 0 = (k, p1, e1)) (he : e1 = 0) (hk : k = 0) (hg : ¬ 1 < k) (HGi : rd1 l0 1 p1 0 = (i, pi, ei)) (hf : ¬ ei = 0) :
  Calls Try.prog 29 #[.slice A0 l0.length c0, .int .i64 a1] w fun e w' => e = .returned (.tuple #[.agg #[.bool false, .int .i64 0, .int .i64 0, .int .i64 0, .int .i64 0, .int .i64 0], .int .i64 0, .int .i64 ei]) ∧ Below w.heap.size w w' := by
 have hu23 := Try.underlying23
 have hu67 := Try.underlying77
 replace HL := Aside0.mk HL
 replace HY := Aside0.mk HY
 replace HR0 := Aside0.mk HR0
 replace HC0 := Aside0.mk HC0
 replace HG1 := Aside0.mk HG1
 replace HGi := Aside0.mk HGi
 subst he
 subst hk
 clear hg
 have b4 : (ei == 0) = false := beq_eq_false_iff_ne.mpr hf
 have b5 : (ei != 0) = true := bne_iff_ne.mpr hf
 clear hf
 go_enter Try.func29, Try.ntmps29
 go_upto_region 4 with (first
  | ((with_reducible refine gate_dst (N := 4) rfl ?_); refine box_event ?hg (N := 4) ?hd (cs := #[.bool false, .int .i64 0, .int .i64 0, .int .i64 0, .int .i64 0, .int .i64 0]) (t := 23) ?hr ?_; (case hd => rfl); (case hg => rfl); (case hr => first | (go_simp; done) | (go_simp; rfl)); intro g4 hg w4 hbox hb; have HB4 := Aside0.mk hb; have G4 := Aside0.mk (Nat.le_of_eq hg.symm); have B4 := Aside0.mk hbox; clear hb hbox hg)
  | ((with_reducible refine gate_dst (N := 13) rfl ?_); refine box_event ?hg (N := 13) ?hd (cs := RdC A0 l0.length c0 a1 0) (t := 77) ?hr ?_; (case hd => rfl); (case hg => rfl); (case hr => first | (go_simp; done) | (go_simp; rfl)); intro gr hg w5 hbox hb; have HB5 := Aside0.mk (below_step HB4.out hb); have GR := Aside0.mk (show w.heap.size ≤ gr by rw [hg]; exact below_size HB4.out); have B45 := Aside0.mk (blk_below B4.out hb); have BR := Aside0.mk hbox; clear hb hbox hg HB4 B4)
  | ((with_reducible refine gate_dst (N := 15) rfl ?_); refine goesL_ (some 15) rfl rfl Try.func33 (by kernel_rfl) rfl #[.pointer (some ⟨gr, 0, none⟩)] rfl (by (try simp only [List.map_toArray, List.map_cons, List.map_nil]); first | done | rfl) ?_; (with_reducible refine (hr_oneG gr A0 c0 l0 a1 0 _ _ _ _ HG1.out HY.out HL.out (Kd.C_below HR0.out HB5.out) HC0.out BR.out).mono ?_); rintro x_ w6 ⟨rfl, hbx, hgr⟩; refine ⟨_, rfl, ?_⟩; have HB6 := Aside0.mk (pw_below_grown HB5.out (some gr) (below_size HB5.out) hgr (fun k_ e_ => by cases e_; exact GR.out)); have B46 := Aside0.mk (blk_grown B45.out hgr (fun e_ => blk_ne B45.out BR.out (by decide) (Option.some.inj e_))); have BR6 := Aside0.mk hbx; clear hbx hgr HB5 B45 BR)
  | ((with_reducible refine gate_dst (N := 9) rfl ?_); refine box_event ?hg (N := 9) ?hd (cs := #[.bool false, .int .i64 0, .int .i64 0, .int .i64 0, .int .i64 0, .int .i64 0]) (t := 23) ?hr ?_; (case hd => rfl); (case hg => rfl); (case hr => first | (go_simp; done) | (go_simp; rfl)); intro g9 hg w7 hbox hb; have ST0 := Aside0.mk (HpSt.mk (blk_below B46.out hb) hbox (blk_below BR6.out hb) (below_step HB6.out hb) G4.out (by rw [hg]; exact below_size HB6.out) GR.out (by rw [hg]; exact Nat.ne_of_lt (blk_lt B46.out))); clear hb hbox hg; obtain ⟨⟨u0, u1, u2, u3, u4, u5⟩, uf0, uf1, uf2, uf3, uf4, uf5⟩ := cells6 ST0.out.b9))
 have ST := Aside0.mk (show HpSt w ((((((w7.setCell ⟨g9, 0, none⟩ (.bool true)).setCell ⟨g9, 1, none⟩ (.int .i64 0)).setCell ⟨g9, 2, none⟩ (.int .i64 0)).setCell ⟨g9, 3, none⟩ (.int .i64 0)).setCell ⟨g9, 4, none⟩ (.int .i64 0)).setCell ⟨g9, 5, none⟩ (.int .i64 0)) A0 l0.length c0 g4 g9 gr p1 0 #[.bool true, .int .i64 0, .int .i64 0, .int .i64 0, .int .i64 0, .int .i64 0] from (HpSt.put (HpSt.put (HpSt.put (HpSt.put (HpSt.put (HpSt.put ST0.out 0 (.bool true) rfl) 1 (.int .i64 0) rfl) 2 (.int .i64 0) rfl) 3 (.int .i64 0) rfl) 4 (.int .i64 0) rfl) 5 (.int .i64 0) rfl))
 generalize ((((((w7.setCell ⟨g9, 0, none⟩ (.bool true)).setCell ⟨g9, 1, none⟩ (.int .i64 0)).setCell ⟨g9, 2, none⟩ (.int .i64 0)).setCell ⟨g9, 3, none⟩ (.int .i64 0)).setCell ⟨g9, 4, none⟩ (.int .i64 0)).setCell ⟨g9, 5, none⟩ (.int .i64 0)) = wq at ST ⊢
 clear ST0 u0 uf0 u1 uf1 u2 uf2 u3 uf3 u4 uf4 u5 uf5
 obtain ⟨⟨v0, v1, v2⟩, vf0, vf1, vf2⟩ := cells3 ST.out.br
 obtain ⟨⟨y0, y1, y2, y3, y4, y5⟩, yf0, yf1, yf2, yf3, yf4, yf5⟩ := cells6 ST.out.b9
 go_upto_region 9 with (first
  | ((with_reducible refine gate_dst (N := 47) rfl ?_); refine goesL_ (some 47) rfl rfl Try.func33 (by kernel_rfl) rfl #[.pointer (some ⟨gr, 0, none⟩)] rfl (by (try simp only [List.map_toArray, List.map_cons, List.map_nil]); first | done | rfl) ?_; (with_reducible refine (hr_oneG gr A0 c0 l0 p1 0 _ _ _ _ HGi.out HY.out HL.out (Kd.C_below HR0.out ST.out.bl) HC0.out ST.out.br).mono ?_); rintro x_ w47 ⟨rfl, hbx, hgr⟩; refine ⟨_, rfl, ?_⟩; have STn := Aside0.mk (ST.out.step hbx hgr); clear ST hbx hgr; have ST := STn; clear STn; obtain ⟨⟨x0, x1, x2, x3, x4, x5⟩, xf0, xf1, xf2, xf3, xf4, xf5⟩ := cells6 ST.out.b9))
 have STn := Aside0.mk (HpSt.put ST.out 5 (.int .i64 i) (cs2 := #[.bool true, .int .i64 0, .int .i64 0, .int .i64 0, .int .i64 0, .int .i64 i]) rfl)
 clear ST
 have ST := STn
 clear STn x0 xf0 x1 xf1 x2 xf2 x3 xf3 x4 xf4 x5 xf5
 clear v0 vf0 v1 vf1 v2 vf2
 clear y0 yf0 y1 yf1 y2 yf2 y3 yf3 y4 yf4 y5 yf5
 generalize (w47.setCell ⟨g9, 5, none⟩ (.int .i64 i)) = wr at ST ⊢
 obtain ⟨⟨v0, v1, v2⟩, vf0, vf1, vf2⟩ := cells3 ST.out.br
 obtain ⟨⟨y0, y1, y2, y3, y4, y5⟩, yf0, yf1, yf2, yf3, yf4, yf5⟩ := cells6 ST.out.b9
 go_upto_region 12 with (fail)
 have STd := Aside0.mk (HpSt.drew ST.out)
 clear ST
 have ST := STd
 clear STd
 refine start_ (n := 8) (S := fun w' => w'.cell? ⟨gr, 2, none⟩ = some (.int .i64 ei)) (ds := []) #[false, false, false, false, false, false, false, false] (by kernel_rfl) rfl rfl ((blk_cell ST.out.br 2).trans rfl) (fun hHeld => ?_); refine with_tabW height_Parse.tab12 height_Parse.bits12 (fun HT_ HW_ => ?_)
 generalize wr.drew = wd at ST hHeld ⊢
 obtain ⟨⟨o0, o1, o2, o3, o4, o5⟩, of0, of1, of2, of3, of4, of5⟩ := cells6 ST.out.b4
 have n94 : g9 ≠ g4 := ST.out.d49.symm
 have nr4 : gr ≠ g4 := (blk_ne ST.out.br ST.out.b4 (by decide))
 refine pure_ (i := 0) (N := some 67) (v := ?_) (a' := ?_) #[true, false, false, false, false, false, false, false] rfl rfl (any_of HT_.out (by kernel_rfl)) (fun _ _ _ h => h) (Or.inl ⟨by rfl, ?_⟩) ?_ ?_
 rotate_left
 ·intro w'
  go_simp
  with_reducible rfl
 rotate_left
 ·simp only [Act.put, List.setIfInBounds_toArray, List.set_cons_zero, List.set_cons_succ, i64_w, i32_w]
  rfl
 refine pure_ (i := 1) (N := some 68) (v := ?_) (a' := ?_) #[true, true, false, false, false, false, false, false] rfl rfl (any_of HT_.out (by kernel_rfl)) (fun _ _ _ h => h) (Or.inl ⟨by rfl, ?_⟩) ?_ ?_
 rotate_left
 ·intro w'
  go_simp
  with_reducible rfl
 rotate_left
 ·simp only [Act.put, List.setIfInBounds_toArray, List.set_cons_zero, List.set_cons_succ, i64_w, i32_w]
  rfl
 refine pure_ (i := 2) (N := some 69) (v := ?_) (a' := ?_) #[true, true, true, false, false, false, false, false] rfl rfl (any_of HT_.out (by kernel_rfl)) (fun _ _ _ h => h) (Or.inl ⟨by rfl, ?_⟩) ?_ ?_
 rotate_left
 ·intro w'
  go_simp
  with_reducible rfl
 rotate_left
 ·simp only [Act.put, List.setIfInBounds_toArray, List.set_cons_zero, List.set_cons_succ, i64_w, i32_w]
  rfl
 refine pure_ (i := 3) (N := some 70) (v := ?_) (a' := ?_) #[true, true, true, true, false, false, false, false] rfl rfl (any_of HT_.out (by kernel_rfl)) (fun _ _ _ h => h) (Or.inl ⟨by rfl, ?_⟩) ?_ ?_
 rotate_left
 ·intro w'
  go_simp
  with_reducible rfl
 rotate_left
 ·simp only [Act.put, List.setIfInBounds_toArray, List.set_cons_zero, List.set_cons_succ, i64_w, i32_w]
  rfl
 refine take_ (i := 4) (N := some 71) (v := ?_) (a' := ?_) #[true, true, true, true, true, false, false, false] rfl rfl (take_ofW HT_.out HW_.out (by kernel_rfl)) (fun _ _ _ h => h) (Or.inl ⟨by rfl, ?_⟩) hHeld ?_ ?_
 rotate_left
 ·intro w' s0
  go_simp
  with_reducible rfl
 rotate_left
 ·simp only [Act.put, List.setIfInBounds_toArray, List.set_cons_zero, List.set_cons_succ, i64_w, i32_w]
  rfl
 refine one_ (i := 5) (N := none) #[true, true, true, true, true, true, false, false] rfl rfl (one_of HT_.out (by kernel_rfl)) (by decide) (fun K hK => ?_)
 refine skip_ (w1 := ?_) (by rfl) rfl ?_ ?_
 rotate_left
 ·go_simp
  rfl
 refine hK.out _ _ ?_ (fun hHeld2 => ?_)
 ·(repeat (first | refine (cell_far n94 _).trans ?_ | refine (cell_far nr4 _).trans ?_)); exact hHeld
 clear hHeld
 have hHeld := hHeld2
 clear hHeld2
 clear hK K
 refine pure_ (i := 6) (N := some 5) (v := ?_) (a' := ?_) #[true, true, true, true, true, true, true, false] rfl rfl (any_of HT_.out (by kernel_rfl)) (fun _ _ _ h => h) (Or.inl ⟨by rfl, ?_⟩) ?_ ?_
 rotate_left
 ·intro w'
  go_simp
  with_reducible rfl
 rotate_left
 ·simp only [Act.put, List.setIfInBounds_toArray, List.set_cons_zero, List.set_cons_succ, i64_w, i32_w]
  rfl
 refine pure_ (i := 7) (N := some 6) (v := ?_) (a' := ?_) #[true, true, true, true, true, true, true, true] rfl rfl (any_of HT_.out (by kernel_rfl)) (fun _ _ _ h => h) (Or.inl ⟨by rfl, ?_⟩) ?_ ?_
 rotate_left
 ·intro w'
  go_simp
  with_reducible rfl
 rotate_left
 ·simp only [Act.put, List.setIfInBounds_toArray, List.set_cons_zero, List.set_cons_succ, i64_w, i32_w]
  rfl
 refine done_ (done_of HT_.out (by kernel_rfl)) ?_
 clear HT_ HW_
 try go_wp2
 refine bodyPost_ret (results_ctt rfl _ _ g4 23 #[.bool false, .int .i64 0, .int .i64 0, .int .i64 0, .int .i64 0, .int .i64 0] (0, 0) _ rfl (blk_put (blk_put (blk_put (blk_put (blk_put (blk_put ST.out.b4 0 (.bool false) rfl) 1 (.int .i64 0) rfl) 2 (.int .i64 0) rfl) 3 (.int .i64 0) rfl) 4 (.int .i64 0) rfl) 5 (.int .i64 0) (cs' := #[.bool false, .int .i64 0, .int .i64 0, .int .i64 0, .int .i64 0, .int .i64 0]) rfl) Try.underlying23 rfl (by kernel_rfl)) rfl ?_
 exact ⟨rfl, (below_set (below_set (below_set (below_set (below_set (below_set ST.out.bl ST.out.n4) ST.out.n4) ST.out.n4) ST.out.n4) ST.out.n4) ST.out.n4)⟩
theorem hp_n_no (A0 : Option Addr) (c0 : Nat) (l0 : List Int) (a1 : Int) (w : World) (k p1 e1 i pi ei : Int) (HL : l0.length ≤ 1000000000000) (HY : Bytes l0) (HR0 : Kd.C (Kd.int .u8) w A0 l0.length l0) (HC0 : l0.length ≤ c0) (HG1 : rd1 l0 1 a1 0 = (k, p1, e1)) (he : e1 = 0) (hk : k = 0) (hg : ¬ 1 < k) (HGi : rd1 l0 1 p1 0 = (i, pi, ei)) (hf : ei = 0) (hr : ¬ RH true 0 0 0 0 i) :
  Calls Try.prog 29 #[.slice A0 l0.length c0, .int .i64 a1] w fun e w' => e = .returned (.tuple #[.agg #[.bool false, .int .i64 0, .int .i64 0, .int .i64 0, .int .i64 0, .int .i64 0], .int .i64 0, .int .i64 4]) ∧ Below w.heap.size w w' := by
 have hu23 := Try.underlying23
 have hu67 := Try.underlying77
 replace HL := Aside0.mk HL
 replace HY := Aside0.mk HY
 replace HR0 := Aside0.mk HR0
 replace HC0 := Aside0.mk HC0
 replace HG1 := Aside0.mk HG1
 replace HGi := Aside0.mk HGi
 subst he
 subst hk
 clear hg
 subst hf
 obtain ⟨K, hK⟩ := (hc_eq true 0 0 0 0 i).rounds
 rw [if_neg hr] at hK
 have HK := Aside0.mk hK
 clear hK hr
 go_enter Try.func29, Try.ntmps29
 go_upto_region 4 with (first
  | ((with_reducible refine gate_dst (N := 4) rfl ?_); refine box_event ?hg (N := 4) ?hd (cs := #[.bool false, .int .i64 0, .int .i64 0, .int .i64 0, .int .i64 0, .int .i64 0]) (t := 23) ?hr ?_; (case hd => rfl); (case hg => rfl); (case hr => first | (go_simp; done) | (go_simp; rfl)); intro g4 hg w4 hbox hb; have HB4 := Aside0.mk hb; have G4 := Aside0.mk (Nat.le_of_eq hg.symm); have B4 := Aside0.mk hbox; clear hb hbox hg)
  | ((with_reducible refine gate_dst (N := 13) rfl ?_); refine box_event ?hg (N := 13) ?hd (cs := RdC A0 l0.length c0 a1 0) (t := 77) ?hr ?_; (case hd => rfl); (case hg => rfl); (case hr => first | (go_simp; done) | (go_simp; rfl)); intro gr hg w5 hbox hb; have HB5 := Aside0.mk (below_step HB4.out hb); have GR := Aside0.mk (show w.heap.size ≤ gr by rw [hg]; exact below_size HB4.out); have B45 := Aside0.mk (blk_below B4.out hb); have BR := Aside0.mk hbox; clear hb hbox hg HB4 B4)
  | ((with_reducible refine gate_dst (N := 15) rfl ?_); refine goesL_ (some 15) rfl rfl Try.func33 (by kernel_rfl) rfl #[.pointer (some ⟨gr, 0, none⟩)] rfl (by (try simp only [List.map_toArray, List.map_cons, List.map_nil]); first | done | rfl) ?_; (with_reducible refine (hr_oneG gr A0 c0 l0 a1 0 _ _ _ _ HG1.out HY.out HL.out (Kd.C_below HR0.out HB5.out) HC0.out BR.out).mono ?_); rintro x_ w6 ⟨rfl, hbx, hgr⟩; refine ⟨_, rfl, ?_⟩; have HB6 := Aside0.mk (pw_below_grown HB5.out (some gr) (below_size HB5.out) hgr (fun k_ e_ => by cases e_; exact GR.out)); have B46 := Aside0.mk (blk_grown B45.out hgr (fun e_ => blk_ne B45.out BR.out (by decide) (Option.some.inj e_))); have BR6 := Aside0.mk hbx; clear hbx hgr HB5 B45 BR)
  | ((with_reducible refine gate_dst (N := 9) rfl ?_); refine box_event ?hg (N := 9) ?hd (cs := #[.bool false, .int .i64 0, .int .i64 0, .int .i64 0, .int .i64 0, .int .i64 0]) (t := 23) ?hr ?_; (case hd => rfl); (case hg => rfl); (case hr => first | (go_simp; done) | (go_simp; rfl)); intro g9 hg w7 hbox hb; have ST0 := Aside0.mk (HpSt.mk (blk_below B46.out hb) hbox (blk_below BR6.out hb) (below_step HB6.out hb) G4.out (by rw [hg]; exact below_size HB6.out) GR.out (by rw [hg]; exact Nat.ne_of_lt (blk_lt B46.out))); clear hb hbox hg; obtain ⟨⟨u0, u1, u2, u3, u4, u5⟩, uf0, uf1, uf2, uf3, uf4, uf5⟩ := cells6 ST0.out.b9))
 have ST := Aside0.mk (show HpSt w ((((((w7.setCell ⟨g9, 0, none⟩ (.bool true)).setCell ⟨g9, 1, none⟩ (.int .i64 0)).setCell ⟨g9, 2, none⟩ (.int .i64 0)).setCell ⟨g9, 3, none⟩ (.int .i64 0)).setCell ⟨g9, 4, none⟩ (.int .i64 0)).setCell ⟨g9, 5, none⟩ (.int .i64 0)) A0 l0.length c0 g4 g9 gr p1 0 #[.bool true, .int .i64 0, .int .i64 0, .int .i64 0, .int .i64 0, .int .i64 0] from (HpSt.put (HpSt.put (HpSt.put (HpSt.put (HpSt.put (HpSt.put ST0.out 0 (.bool true) rfl) 1 (.int .i64 0) rfl) 2 (.int .i64 0) rfl) 3 (.int .i64 0) rfl) 4 (.int .i64 0) rfl) 5 (.int .i64 0) rfl))
 generalize ((((((w7.setCell ⟨g9, 0, none⟩ (.bool true)).setCell ⟨g9, 1, none⟩ (.int .i64 0)).setCell ⟨g9, 2, none⟩ (.int .i64 0)).setCell ⟨g9, 3, none⟩ (.int .i64 0)).setCell ⟨g9, 4, none⟩ (.int .i64 0)).setCell ⟨g9, 5, none⟩ (.int .i64 0)) = wq at ST ⊢
 clear ST0 u0 uf0 u1 uf1 u2 uf2 u3 uf3 u4 uf4 u5 uf5
 obtain ⟨⟨v0, v1, v2⟩, vf0, vf1, vf2⟩ := cells3 ST.out.br
 obtain ⟨⟨y0, y1, y2, y3, y4, y5⟩, yf0, yf1, yf2, yf3, yf4, yf5⟩ := cells6 ST.out.b9
 go_upto_region 9 with (first
  | ((with_reducible refine gate_dst (N := 47) rfl ?_); refine goesL_ (some 47) rfl rfl Try.func33 (by kernel_rfl) rfl #[.pointer (some ⟨gr, 0, none⟩)] rfl (by (try simp only [List.map_toArray, List.map_cons, List.map_nil]); first | done | rfl) ?_; (with_reducible refine (hr_oneG gr A0 c0 l0 p1 0 _ _ _ _ HGi.out HY.out HL.out (Kd.C_below HR0.out ST.out.bl) HC0.out ST.out.br).mono ?_); rintro x_ w47 ⟨rfl, hbx, hgr⟩; refine ⟨_, rfl, ?_⟩; have STn := Aside0.mk (ST.out.step hbx hgr); clear ST hbx hgr; have ST := STn; clear STn; obtain ⟨⟨x0, x1, x2, x3, x4, x5⟩, xf0, xf1, xf2, xf3, xf4, xf5⟩ := cells6 ST.out.b9))
 have STn := Aside0.mk (HpSt.put ST.out 5 (.int .i64 i) (cs2 := #[.bool true, .int .i64 0, .int .i64 0, .int .i64 0, .int .i64 0, .int .i64 i]) rfl)
 clear ST
 have ST := STn
 clear STn x0 xf0 x1 xf1 x2 xf2 x3 xf3 x4 xf4 x5 xf5
 clear v0 vf0 v1 vf1 v2 vf2
 clear y0 yf0 y1 yf1 y2 yf2 y3 yf3 y4 yf4 y5 yf5
 generalize (w47.setCell ⟨g9, 5, none⟩ (.int .i64 i)) = wr at ST ⊢
 obtain ⟨⟨v0, v1, v2⟩, vf0, vf1, vf2⟩ := cells3 ST.out.br
 obtain ⟨⟨y0, y1, y2, y3, y4, y5⟩, yf0, yf1, yf2, yf3, yf4, yf5⟩ := cells6 ST.out.b9
 go_upto_region 12 with ((go_at_call 19; (with_reducible refine (height_Check.calls K true 0 0 0 0 i 1 _ HK.out).mono ?_); rintro x_ ws ⟨rfl, hb⟩; have STn := Aside0.mk (HpSt.below ST.out hb); clear ST hb; have ST := STn; clear STn; obtain ⟨⟨s0, s1, s2⟩, sf0, sf1, sf2⟩ := cells3 ST.out.br))
 clear v0 vf0 v1 vf1 v2 vf2 y0 yf0 y1 yf1 y2 yf2 y3 yf3 y4 yf4 y5 yf5 s0 sf0 s1 sf1 s2 sf2
 have STn := Aside0.mk (HpSt.err ST.out 4)
 clear ST
 have ST := STn
 clear STn
 generalize (ws.setCell ⟨gr, 2, none⟩ (.int .i64 4)) = wt at ST ⊢
 have STd := Aside0.mk (HpSt.drew ST.out)
 clear ST
 have ST := STd
 clear STd
 refine start_ (n := 8) (S := fun w' => w'.cell? ⟨gr, 2, none⟩ = some (.int .i64 4)) (ds := []) #[false, false, false, false, false, false, false, false] (by kernel_rfl) rfl rfl ((blk_cell ST.out.br 2).trans rfl) (fun hHeld => ?_); refine with_tabW height_Parse.tab12 height_Parse.bits12 (fun HT_ HW_ => ?_)
 generalize wt.drew = wd at ST hHeld ⊢
 obtain ⟨⟨o0, o1, o2, o3, o4, o5⟩, of0, of1, of2, of3, of4, of5⟩ := cells6 ST.out.b4
 have n94 : g9 ≠ g4 := ST.out.d49.symm
 have nr4 : gr ≠ g4 := (blk_ne ST.out.br ST.out.b4 (by decide))
 refine pure_ (i := 0) (N := some 67) (v := ?_) (a' := ?_) #[true, false, false, false, false, false, false, false] rfl rfl (any_of HT_.out (by kernel_rfl)) (fun _ _ _ h => h) (Or.inl ⟨by rfl, ?_⟩) ?_ ?_
 rotate_left
 ·intro w'
  go_simp
  with_reducible rfl
 rotate_left
 ·simp only [Act.put, List.setIfInBounds_toArray, List.set_cons_zero, List.set_cons_succ, i64_w, i32_w]
  rfl
 refine pure_ (i := 1) (N := some 68) (v := ?_) (a' := ?_) #[true, true, false, false, false, false, false, false] rfl rfl (any_of HT_.out (by kernel_rfl)) (fun _ _ _ h => h) (Or.inl ⟨by rfl, ?_⟩) ?_ ?_
 rotate_left
 ·intro w'
  go_simp
  with_reducible rfl
 rotate_left
 ·simp only [Act.put, List.setIfInBounds_toArray, List.set_cons_zero, List.set_cons_succ, i64_w, i32_w]
  rfl
 refine pure_ (i := 2) (N := some 69) (v := ?_) (a' := ?_) #[true, true, true, false, false, false, false, false] rfl rfl (any_of HT_.out (by kernel_rfl)) (fun _ _ _ h => h) (Or.inl ⟨by rfl, ?_⟩) ?_ ?_
 rotate_left
 ·intro w'
  go_simp
  with_reducible rfl
 rotate_left
 ·simp only [Act.put, List.setIfInBounds_toArray, List.set_cons_zero, List.set_cons_succ, i64_w, i32_w]
  rfl
 refine pure_ (i := 3) (N := some 70) (v := ?_) (a' := ?_) #[true, true, true, true, false, false, false, false] rfl rfl (any_of HT_.out (by kernel_rfl)) (fun _ _ _ h => h) (Or.inl ⟨by rfl, ?_⟩) ?_ ?_
 rotate_left
 ·intro w'
  go_simp
  with_reducible rfl
 rotate_left
 ·simp only [Act.put, List.setIfInBounds_toArray, List.set_cons_zero, List.set_cons_succ, i64_w, i32_w]
  rfl
 refine take_ (i := 4) (N := some 71) (v := ?_) (a' := ?_) #[true, true, true, true, true, false, false, false] rfl rfl (take_ofW HT_.out HW_.out (by kernel_rfl)) (fun _ _ _ h => h) (Or.inl ⟨by rfl, ?_⟩) hHeld ?_ ?_
 rotate_left
 ·intro w' s0
  go_simp
  with_reducible rfl
 rotate_left
 ·simp only [Act.put, List.setIfInBounds_toArray, List.set_cons_zero, List.set_cons_succ, i64_w, i32_w]
  rfl
 refine one_ (i := 5) (N := none) #[true, true, true, true, true, true, false, false] rfl rfl (one_of HT_.out (by kernel_rfl)) (by decide) (fun K hK => ?_)
 refine skip_ (w1 := ?_) (by rfl) rfl ?_ ?_
 rotate_left
 ·go_simp
  rfl
 refine hK.out _ _ ?_ (fun hHeld2 => ?_)
 ·(repeat (first | refine (cell_far n94 _).trans ?_ | refine (cell_far nr4 _).trans ?_)); exact hHeld
 clear hHeld
 have hHeld := hHeld2
 clear hHeld2
 clear hK K
 refine pure_ (i := 6) (N := some 5) (v := ?_) (a' := ?_) #[true, true, true, true, true, true, true, false] rfl rfl (any_of HT_.out (by kernel_rfl)) (fun _ _ _ h => h) (Or.inl ⟨by rfl, ?_⟩) ?_ ?_
 rotate_left
 ·intro w'
  go_simp
  with_reducible rfl
 rotate_left
 ·simp only [Act.put, List.setIfInBounds_toArray, List.set_cons_zero, List.set_cons_succ, i64_w, i32_w]
  rfl
 refine pure_ (i := 7) (N := some 6) (v := ?_) (a' := ?_) #[true, true, true, true, true, true, true, true] rfl rfl (any_of HT_.out (by kernel_rfl)) (fun _ _ _ h => h) (Or.inl ⟨by rfl, ?_⟩) ?_ ?_
 rotate_left
 ·intro w'
  go_simp
  with_reducible rfl
 rotate_left
 ·simp only [Act.put, List.setIfInBounds_toArray, List.set_cons_zero, List.set_cons_succ, i64_w, i32_w]
  rfl
 refine done_ (done_of HT_.out (by kernel_rfl)) ?_
 clear HT_ HW_
 try go_wp2
 refine bodyPost_ret (results_ctt rfl _ _ g4 23 #[.bool false, .int .i64 0, .int .i64 0, .int .i64 0, .int .i64 0, .int .i64 0] (0, 0) _ rfl (blk_put (blk_put (blk_put (blk_put (blk_put (blk_put ST.out.b4 0 (.bool false) rfl) 1 (.int .i64 0) rfl) 2 (.int .i64 0) rfl) 3 (.int .i64 0) rfl) 4 (.int .i64 0) rfl) 5 (.int .i64 0) (cs' := #[.bool false, .int .i64 0, .int .i64 0, .int .i64 0, .int .i64 0, .int .i64 0]) rfl) Try.underlying23 rfl (by kernel_rfl)) rfl ?_
 exact ⟨rfl, (below_set (below_set (below_set (below_set (below_set (below_set ST.out.bl ST.out.n4) ST.out.n4) ST.out.n4) ST.out.n4) ST.out.n4) ST.out.n4)⟩
theorem hp_n_yes (A0 : Option Addr) (c0 : Nat) (l0 : List Int) (a1 : Int) (w : World) (k p1 e1 i pi ei : Int) (HL : l0.length ≤ 1000000000000) (HY : Bytes l0) (HR0 : Kd.C (Kd.int .u8) w A0 l0.length l0) (HC0 : l0.length ≤ c0) (HG1 : rd1 l0 1 a1 0 = (k, p1, e1)) (he : e1 = 0) (hk : k = 0) (hg : ¬ 1 < k) (HGi : rd1 l0 1 p1 0 = (i, pi, ei)) (hf : ei = 0) (hr : RH true 0 0 0 0 i) :
  Calls Try.prog 29 #[.slice A0 l0.length c0, .int .i64 a1] w fun e w' => e = .returned (.tuple #[.agg #[.bool true, .int .i64 0, .int .i64 0, .int .i64 0, .int .i64 0, .int .i64 i], .int .i64 pi, .int .i64 0]) ∧ Below w.heap.size w w' := by
 have hu23 := Try.underlying23
 have hu67 := Try.underlying77
 replace HL := Aside0.mk HL
 replace HY := Aside0.mk HY
 replace HR0 := Aside0.mk HR0
 replace HC0 := Aside0.mk HC0
 replace HG1 := Aside0.mk HG1
 replace HGi := Aside0.mk HGi
 subst he
 subst hk
 clear hg
 subst hf
 obtain ⟨K, hK⟩ := (hc_eq true 0 0 0 0 i).rounds
 rw [if_pos hr] at hK
 have HK := Aside0.mk hK
 clear hK hr
 go_enter Try.func29, Try.ntmps29
 go_upto_region 4 with (first
  | ((with_reducible refine gate_dst (N := 4) rfl ?_); refine box_event ?hg (N := 4) ?hd (cs := #[.bool false, .int .i64 0, .int .i64 0, .int .i64 0, .int .i64 0, .int .i64 0]) (t := 23) ?hr ?_; (case hd => rfl); (case hg => rfl); (case hr => first | (go_simp; done) | (go_simp; rfl)); intro g4 hg w4 hbox hb; have HB4 := Aside0.mk hb; have G4 := Aside0.mk (Nat.le_of_eq hg.symm); have B4 := Aside0.mk hbox; clear hb hbox hg)
  | ((with_reducible refine gate_dst (N := 13) rfl ?_); refine box_event ?hg (N := 13) ?hd (cs := RdC A0 l0.length c0 a1 0) (t := 77) ?hr ?_; (case hd => rfl); (case hg => rfl); (case hr => first | (go_simp; done) | (go_simp; rfl)); intro gr hg w5 hbox hb; have HB5 := Aside0.mk (below_step HB4.out hb); have GR := Aside0.mk (show w.heap.size ≤ gr by rw [hg]; exact below_size HB4.out); have B45 := Aside0.mk (blk_below B4.out hb); have BR := Aside0.mk hbox; clear hb hbox hg HB4 B4)
  | ((with_reducible refine gate_dst (N := 15) rfl ?_); refine goesL_ (some 15) rfl rfl Try.func33 (by kernel_rfl) rfl #[.pointer (some ⟨gr, 0, none⟩)] rfl (by (try simp only [List.map_toArray, List.map_cons, List.map_nil]); first | done | rfl) ?_; (with_reducible refine (hr_oneG gr A0 c0 l0 a1 0 _ _ _ _ HG1.out HY.out HL.out (Kd.C_below HR0.out HB5.out) HC0.out BR.out).mono ?_); rintro x_ w6 ⟨rfl, hbx, hgr⟩; refine ⟨_, rfl, ?_⟩; have HB6 := Aside0.mk (pw_below_grown HB5.out (some gr) (below_size HB5.out) hgr (fun k_ e_ => by cases e_; exact GR.out)); have B46 := Aside0.mk (blk_grown B45.out hgr (fun e_ => blk_ne B45.out BR.out (by decide) (Option.some.inj e_))); have BR6 := Aside0.mk hbx; clear hbx hgr HB5 B45 BR)
  | ((with_reducible refine gate_dst (N := 9) rfl ?_); refine box_event ?hg (N := 9) ?hd (cs := #[.bool false, .int .i64 0, .int .i64 0, .int .i64 0, .int .i64 0, .int .i64 0]) (t := 23) ?hr ?_; (case hd => rfl); (case hg => rfl); (case hr => first | (go_simp; done) | (go_simp; rfl)); intro g9 hg w7 hbox hb; have ST0 := Aside0.mk (HpSt.mk (blk_below B46.out hb) hbox (blk_below BR6.out hb) (below_step HB6.out hb) G4.out (by rw [hg]; exact below_size HB6.out) GR.out (by rw [hg]; exact Nat.ne_of_lt (blk_lt B46.out))); clear hb hbox hg; obtain ⟨⟨u0, u1, u2, u3, u4, u5⟩, uf0, uf1, uf2, uf3, uf4, uf5⟩ := cells6 ST0.out.b9))
 have ST := Aside0.mk (show HpSt w ((((((w7.setCell ⟨g9, 0, none⟩ (.bool true)).setCell ⟨g9, 1, none⟩ (.int .i64 0)).setCell ⟨g9, 2, none⟩ (.int .i64 0)).setCell ⟨g9, 3, none⟩ (.int .i64 0)).setCell ⟨g9, 4, none⟩ (.int .i64 0)).setCell ⟨g9, 5, none⟩ (.int .i64 0)) A0 l0.length c0 g4 g9 gr p1 0 #[.bool true, .int .i64 0, .int .i64 0, .int .i64 0, .int .i64 0, .int .i64 0] from (HpSt.put (HpSt.put (HpSt.put (HpSt.put (HpSt.put (HpSt.put ST0.out 0 (.bool true) rfl) 1 (.int .i64 0) rfl) 2 (.int .i64 0) rfl) 3 (.int .i64 0) rfl) 4 (.int .i64 0) rfl) 5 (.int .i64 0) rfl))
 generalize ((((((w7.setCell ⟨g9, 0, none⟩ (.bool true)).setCell ⟨g9, 1, none⟩ (.int .i64 0)).setCell ⟨g9, 2, none⟩ (.int .i64 0)).setCell ⟨g9, 3, none⟩ (.int .i64 0)).setCell ⟨g9, 4, none⟩ (.int .i64 0)).setCell ⟨g9, 5, none⟩ (.int .i64 0)) = wq at ST ⊢
 clear ST0 u0 uf0 u1 uf1 u2 uf2 u3 uf3 u4 uf4 u5 uf5
 obtain ⟨⟨v0, v1, v2⟩, vf0, vf1, vf2⟩ := cells3 ST.out.br
 obtain ⟨⟨y0, y1, y2, y3, y4, y5⟩, yf0, yf1, yf2, yf3, yf4, yf5⟩ := cells6 ST.out.b9
 go_upto_region 9 with (first
  | ((with_reducible refine gate_dst (N := 47) rfl ?_); refine goesL_ (some 47) rfl rfl Try.func33 (by kernel_rfl) rfl #[.pointer (some ⟨gr, 0, none⟩)] rfl (by (try simp only [List.map_toArray, List.map_cons, List.map_nil]); first | done | rfl) ?_; (with_reducible refine (hr_oneG gr A0 c0 l0 p1 0 _ _ _ _ HGi.out HY.out HL.out (Kd.C_below HR0.out ST.out.bl) HC0.out ST.out.br).mono ?_); rintro x_ w47 ⟨rfl, hbx, hgr⟩; refine ⟨_, rfl, ?_⟩; have STn := Aside0.mk (ST.out.step hbx hgr); clear ST hbx hgr; have ST := STn; clear STn; obtain ⟨⟨x0, x1, x2, x3, x4, x5⟩, xf0, xf1, xf2, xf3, xf4, xf5⟩ := cells6 ST.out.b9))
 have STn := Aside0.mk (HpSt.put ST.out 5 (.int .i64 i) (cs2 := #[.bool true, .int .i64 0, .int .i64 0, .int .i64 0, .int .i64 0, .int .i64 i]) rfl)
 clear ST
 have ST := STn
 clear STn x0 xf0 x1 xf1 x2 xf2 x3 xf3 x4 xf4 x5 xf5
 clear v0 vf0 v1 vf1 v2 vf2
 clear y0 yf0 y1 yf1 y2 yf2 y3 yf3 y4 yf4 y5 yf5
 generalize (w47.setCell ⟨g9, 5, none⟩ (.int .i64 i)) = wr at ST ⊢
 obtain ⟨⟨v0, v1, v2⟩, vf0, vf1, vf2⟩ := cells3 ST.out.br
 obtain ⟨⟨y0, y1, y2, y3, y4, y5⟩, yf0, yf1, yf2, yf3, yf4, yf5⟩ := cells6 ST.out.b9
 go_upto_region 13 with ((go_at_call 19; (with_reducible refine (height_Check.calls K true 0 0 0 0 i 0 _ HK.out).mono ?_); rintro x_ ws ⟨rfl, hb⟩; have STn := Aside0.mk (HpSt.below ST.out hb); clear ST hb; have ST := STn; clear STn; obtain ⟨⟨s0, s1, s2⟩, sf0, sf1, sf2⟩ := cells3 ST.out.br))
 clear v0 vf0 v1 vf1 v2 vf2 y0 yf0 y1 yf1 y2 yf2 y3 yf3 y4 yf4 y5 yf5 s0 sf0 s1 sf1 s2 sf2
 have STd := Aside0.mk (HpSt.drew ST.out)
 clear ST
 have ST := STd
 clear STd
 refine start_ (n := 8) (S := fun w' => w'.cell? ⟨g9, 0, none⟩ = some (.bool true) ∧ w'.cell? ⟨g9, 1, none⟩ = some (.int .i64 0) ∧ w'.cell? ⟨g9, 2, none⟩ = some (.int .i64 0) ∧ w'.cell? ⟨g9, 3, none⟩ = some (.int .i64 0) ∧ w'.cell? ⟨g9, 4, none⟩ = some (.int .i64 0) ∧ w'.cell? ⟨g9, 5, none⟩ = some (.int .i64 i) ∧ w'.cell? ⟨gr, 1, none⟩ = some (.int .i64 pi)) (ds := []) #[false, false, false, false, false, false, false, false] (by kernel_rfl) rfl rfl ⟨(blk_cell ST.out.b9 0).trans rfl, (blk_cell ST.out.b9 1).trans rfl, (blk_cell ST.out.b9 2).trans rfl, (blk_cell ST.out.b9 3).trans rfl, (blk_cell ST.out.b9 4).trans rfl, (blk_cell ST.out.b9 5).trans rfl, (blk_cell ST.out.br 1).trans rfl⟩ (fun hHeld => ?_); refine with_tabW height_Parse.tab13 height_Parse.bits13 (fun HT_ HW_ => ?_)
 generalize ws.drew = wd at ST hHeld ⊢
 obtain ⟨⟨o0, o1, o2, o3, o4, o5⟩, of0, of1, of2, of3, of4, of5⟩ := cells6 ST.out.b4
 have n94 : g9 ≠ g4 := ST.out.d49.symm
 have nr4 : gr ≠ g4 := (blk_ne ST.out.br ST.out.b4 (by decide))
 refine pure_ (i := 1) (N := some 73) (v := ?_) (a' := ?_) #[false, true, false, false, false, false, false, false] rfl rfl (any_of HT_.out (by kernel_rfl)) (fun _ _ _ h => h) (Or.inl ⟨by rfl, ?_⟩) ?_ ?_
 rotate_left
 ·intro w'
  go_simp
  with_reducible rfl
 rotate_left
 ·simp only [Act.put, List.setIfInBounds_toArray, List.set_cons_zero, List.set_cons_succ, i64_w, i32_w]
  rfl
 refine pure_ (i := 2) (N := some 74) (v := ?_) (a' := ?_) #[false, true, true, false, false, false, false, false] rfl rfl (any_of HT_.out (by kernel_rfl)) (fun _ _ _ h => h) (Or.inl ⟨by rfl, ?_⟩) ?_ ?_
 rotate_left
 ·intro w'
  go_simp
  with_reducible rfl
 rotate_left
 ·simp only [Act.put, List.setIfInBounds_toArray, List.set_cons_zero, List.set_cons_succ, i64_w, i32_w]
  rfl
 refine pure_ (i := 3) (N := some 75) (v := ?_) (a' := ?_) #[false, true, true, true, false, false, false, false] rfl rfl (any_of HT_.out (by kernel_rfl)) (fun _ _ _ h => h) (Or.inl ⟨by rfl, ?_⟩) ?_ ?_
 rotate_left
 ·intro w'
  go_simp
  with_reducible rfl
 rotate_left
 ·simp only [Act.put, List.setIfInBounds_toArray, List.set_cons_zero, List.set_cons_succ, i64_w, i32_w]
  rfl
 refine take_ (i := 0) (N := some 72) (v := ?_) (a' := ?_) #[true, true, true, true, false, false, false, false] rfl rfl (take_ofW HT_.out HW_.out (by kernel_rfl)) (fun _ _ _ h => h) (Or.inl ⟨by rfl, ?_⟩) hHeld ?_ ?_
 rotate_left
 ·rintro w' ⟨s0, s1, s2, s3, s4, s5, s6⟩
  go_simp
  with_reducible rfl
 rotate_left
 ·simp only [Act.put, List.setIfInBounds_toArray, List.set_cons_zero, List.set_cons_succ, i64_w, i32_w]
  rfl
 refine take_ (i := 4) (N := some 76) (v := ?_) (a' := ?_) #[true, true, true, true, true, false, false, false] rfl rfl (take_ofW HT_.out HW_.out (by kernel_rfl)) (fun _ _ _ h => h) (Or.inl ⟨by rfl, ?_⟩) hHeld ?_ ?_
 rotate_left
 ·rintro w' ⟨s0, s1, s2, s3, s4, s5, s6⟩
  go_simp
  with_reducible rfl
 rotate_left
 ·simp only [Act.put, List.setIfInBounds_toArray, List.set_cons_zero, List.set_cons_succ, i64_w, i32_w]
  rfl
 refine one_ (i := 5) (N := none) #[true, true, true, true, true, true, false, false] rfl rfl (one_of HT_.out (by kernel_rfl)) (by decide) (fun K hK => ?_)
 refine skip_ (w1 := ?_) (by rfl) rfl ?_ ?_
 rotate_left
 ·go_simp
  rfl
 refine hK.out _ _ ?_ (fun hHeld2 => ?_)
 ·refine ⟨?_, ?_, ?_, ?_, ?_, ?_, ?_⟩
  ·(repeat (first | refine (cell_far n94 _).trans ?_ | refine (cell_far nr4 _).trans ?_)); exact hHeld.1
  ·(repeat (first | refine (cell_far n94 _).trans ?_ | refine (cell_far nr4 _).trans ?_)); exact hHeld.2.1
  ·(repeat (first | refine (cell_far n94 _).trans ?_ | refine (cell_far nr4 _).trans ?_)); exact hHeld.2.2.1
  ·(repeat (first | refine (cell_far n94 _).trans ?_ | refine (cell_far nr4 _).trans ?_)); exact hHeld.2.2.2.1
  ·(repeat (first | refine (cell_far n94 _).trans ?_ | refine (cell_far nr4 _).trans ?_)); exact hHeld.2.2.2.2.1
  ·(repeat (first | refine (cell_far n94 _).trans ?_ | refine (cell_far nr4 _).trans ?_)); exact hHeld.2.2.2.2.2.1
  ·(repeat (first | refine (cell_far n94 _).trans ?_ | refine (cell_far nr4 _).trans ?_)); exact hHeld.2.2.2.2.2.2
 clear hHeld
 have hHeld := hHeld2
 clear hHeld2
 clear hK K
 refine pure_ (i := 6) (N := some 5) (v := ?_) (a' := ?_) #[true, true, true, true, true, true, true, false] rfl rfl (any_of HT_.out (by kernel_rfl)) (fun _ _ _ h => h) (Or.inl ⟨by rfl, ?_⟩) ?_ ?_
 rotate_left
 ·intro w'
  go_simp
  with_reducible rfl
 rotate_left
 ·simp only [Act.put, List.setIfInBounds_toArray, List.set_cons_zero, List.set_cons_succ, i64_w, i32_w]
  rfl
 refine pure_ (i := 7) (N := some 6) (v := ?_) (a' := ?_) #[true, true, true, true, true, true, true, true] rfl rfl (any_of HT_.out (by kernel_rfl)) (fun _ _ _ h => h) (Or.inl ⟨by rfl, ?_⟩) ?_ ?_
 rotate_left
 ·intro w'
  go_simp
  with_reducible rfl
 rotate_left
 ·simp only [Act.put, List.setIfInBounds_toArray, List.set_cons_zero, List.set_cons_succ, i64_w, i32_w]
  rfl
 refine done_ (done_of HT_.out (by kernel_rfl)) ?_
 clear HT_ HW_
 try go_wp2
 refine bodyPost_ret (results_ctt rfl _ _ g4 23 #[.bool true, .int .i64 0, .int .i64 0, .int .i64 0, .int .i64 0, .int .i64 i] (0, 0) _ rfl (blk_put (blk_put (blk_put (blk_put (blk_put (blk_put ST.out.b4 0 (.bool true) rfl) 1 (.int .i64 0) rfl) 2 (.int .i64 0) rfl) 3 (.int .i64 0) rfl) 4 (.int .i64 0) rfl) 5 (.int .i64 i) (cs' := #[.bool true, .int .i64 0, .int .i64 0, .int .i64 0, .int .i64 0, .int .i64 i]) rfl) Try.underlying23 rfl (by kernel_rfl)) rfl ?_
 exact ⟨rfl, (below_set (below_set (below_set (below_set (below_set (below_set ST.out.bl ST.out.n4) ST.out.n4) ST.out.n4) ST.out.n4) ST.out.n4) ST.out.n4)⟩
theorem hp_k_e (A0 : Option Addr) (c0 : Nat) (l0 : List Int) (a1 : Int) (w : World) (k p1 e1 t pt et o po eo r pr er d pd ed i pi ei : Int) (HL : l0.length ≤ 1000000000000) (HY : Bytes l0) (HR0 : Kd.C (Kd.int .u8) w A0 l0.length l0) (HC0 : l0.length ≤ c0) (HG1 : rd1 l0 1 a1 0 = (k, p1, e1)) (he : e1 = 0) (hk : ¬ k = 0) (hg : ¬ 1 < k) (HGt : rd8 l0 p1 0 = (t, pt, et)) (HGo : rd1 l0 1 pt et = (o, po, eo)) (HGr : rd1 l0 1 po eo = (r, pr, er)) (HGd : rd8 l0 pr er = (d, pd, ed)) (HGi : rd1 l0 1 pd ed = (i, pi, ei)) (hf : ¬ ei = 0) :
  Calls Try.prog 29 #[.slice A0 l0.length c0, .int .i64 a1] w fun e w' => e = .returned (.tuple #[.agg #[.bool false, .int .i64 0, .int .i64 0, .int .i64 0, .int .i64 0, .int .i64 0], .int .i64 0, .int .i64 ei]) ∧ Below w.heap.size w w' := by
 have hu23 := Try.underlying23
 have hu67 := Try.underlying77
 replace HL := Aside0.mk HL
 replace HY := Aside0.mk HY
 replace HR0 := Aside0.mk HR0
 replace HC0 := Aside0.mk HC0
 replace HG1 := Aside0.mk HG1
 replace HGt := Aside0.mk HGt
 replace HGo := Aside0.mk HGo
 replace HGr := Aside0.mk HGr
 replace HGd := Aside0.mk HGd
 replace HGi := Aside0.mk HGi
 subst he
 have b2 : (k == 0) = false := beq_eq_false_iff_ne.mpr hk
 have b3 : decide (1 < k) = false := decide_eq_false hg
 clear hk hg
 have b4 : (ei == 0) = false := beq_eq_false_iff_ne.mpr hf
 have b5 : (ei != 0) = true := bne_iff_ne.mpr hf
 clear hf
 go_enter Try.func29, Try.ntmps29
 go_upto_region 4 with (first
  | ((with_reducible refine gate_dst (N := 4) rfl ?_); refine box_event ?hg (N := 4) ?hd (cs := #[.bool false, .int .i64 0, .int .i64 0, .int .i64 0, .int .i64 0, .int .i64 0]) (t := 23) ?hr ?_; (case hd => rfl); (case hg => rfl); (case hr => first | (go_simp; done) | (go_simp; rfl)); intro g4 hg w4 hbox hb; have HB4 := Aside0.mk hb; have G4 := Aside0.mk (Nat.le_of_eq hg.symm); have B4 := Aside0.mk hbox; clear hb hbox hg)
  | ((with_reducible refine gate_dst (N := 13) rfl ?_); refine box_event ?hg (N := 13) ?hd (cs := RdC A0 l0.length c0 a1 0) (t := 77) ?hr ?_; (case hd => rfl); (case hg => rfl); (case hr => first | (go_simp; done) | (go_simp; rfl)); intro gr hg w5 hbox hb; have HB5 := Aside0.mk (below_step HB4.out hb); have GR := Aside0.mk (show w.heap.size ≤ gr by rw [hg]; exact below_size HB4.out); have B45 := Aside0.mk (blk_below B4.out hb); have BR := Aside0.mk hbox; clear hb hbox hg HB4 B4)
  | ((with_reducible refine gate_dst (N := 15) rfl ?_); refine goesL_ (some 15) rfl rfl Try.func33 (by kernel_rfl) rfl #[.pointer (some ⟨gr, 0, none⟩)] rfl (by (try simp only [List.map_toArray, List.map_cons, List.map_nil]); first | done | rfl) ?_; (with_reducible refine (hr_oneG gr A0 c0 l0 a1 0 _ _ _ _ HG1.out HY.out HL.out (Kd.C_below HR0.out HB5.out) HC0.out BR.out).mono ?_); rintro x_ w6 ⟨rfl, hbx, hgr⟩; refine ⟨_, rfl, ?_⟩; have HB6 := Aside0.mk (pw_below_grown HB5.out (some gr) (below_size HB5.out) hgr (fun k_ e_ => by cases e_; exact GR.out)); have B46 := Aside0.mk (blk_grown B45.out hgr (fun e_ => blk_ne B45.out BR.out (by decide) (Option.some.inj e_))); have BR6 := Aside0.mk hbx; clear hbx hgr HB5 B45 BR)
  | ((with_reducible refine gate_dst (N := 9) rfl ?_); refine box_event ?hg (N := 9) ?hd (cs := #[.bool false, .int .i64 0, .int .i64 0, .int .i64 0, .int .i64 0, .int .i64 0]) (t := 23) ?hr ?_; (case hd => rfl); (case hg => rfl); (case hr => first | (go_simp; done) | (go_simp; rfl)); intro g9 hg w7 hbox hb; have ST0 := Aside0.mk (HpSt.mk (blk_below B46.out hb) hbox (blk_below BR6.out hb) (below_step HB6.out hb) G4.out (by rw [hg]; exact below_size HB6.out) GR.out (by rw [hg]; exact Nat.ne_of_lt (blk_lt B46.out))); clear hb hbox hg; obtain ⟨⟨u0, u1, u2, u3, u4, u5⟩, uf0, uf1, uf2, uf3, uf4, uf5⟩ := cells6 ST0.out.b9))
 have ST := Aside0.mk (show HpSt w ((((((w7.setCell ⟨g9, 0, none⟩ (.bool false)).setCell ⟨g9, 1, none⟩ (.int .i64 0)).setCell ⟨g9, 2, none⟩ (.int .i64 0)).setCell ⟨g9, 3, none⟩ (.int .i64 0)).setCell ⟨g9, 4, none⟩ (.int .i64 0)).setCell ⟨g9, 5, none⟩ (.int .i64 0)) A0 l0.length c0 g4 g9 gr p1 0 #[.bool false, .int .i64 0, .int .i64 0, .int .i64 0, .int .i64 0, .int .i64 0] from (HpSt.put (HpSt.put (HpSt.put (HpSt.put (HpSt.put (HpSt.put ST0.out 0 (.bool false) rfl) 1 (.int .i64 0) rfl) 2 (.int .i64 0) rfl) 3 (.int .i64 0) rfl) 4 (.int .i64 0) rfl) 5 (.int .i64 0) rfl))
 generalize ((((((w7.setCell ⟨g9, 0, none⟩ (.bool false)).setCell ⟨g9, 1, none⟩ (.int .i64 0)).setCell ⟨g9, 2, none⟩ (.int .i64 0)).setCell ⟨g9, 3, none⟩ (.int .i64 0)).setCell ⟨g9, 4, none⟩ (.int .i64 0)).setCell ⟨g9, 5, none⟩ (.int .i64 0)) = wq at ST ⊢
 clear ST0 u0 uf0 u1 uf1 u2 uf2 u3 uf3 u4 uf4 u5 uf5
 obtain ⟨⟨v0, v1, v2⟩, vf0, vf1, vf2⟩ := cells3 ST.out.br
 obtain ⟨⟨y0, y1, y2, y3, y4, y5⟩, yf0, yf1, yf2, yf3, yf4, yf5⟩ := cells6 ST.out.b9
 go_upto_region 9 with (first
  | ((with_reducible refine gate_dst (N := 35) rfl ?_); refine goesL_ (some 35) rfl rfl Try.func34 (by kernel_rfl) rfl #[.pointer (some ⟨gr, 0, none⟩)] rfl (by (try simp only [List.map_toArray, List.map_cons, List.map_nil]); first | done | rfl) ?_; (with_reducible refine (hr_eightG gr A0 c0 l0 p1 0 _ _ _ _ HGt.out HY.out HL.out (Kd.C_below HR0.out ST.out.bl) HC0.out ST.out.br).mono ?_); rintro x_ w35 ⟨rfl, hbx, hgr⟩; refine ⟨_, rfl, ?_⟩; have STn := Aside0.mk (ST.out.step hbx hgr); clear ST hbx hgr; have ST := STn; clear STn)
  | ((with_reducible refine gate_dst (N := 37) rfl ?_); refine goesL_ (some 37) rfl rfl Try.func33 (by kernel_rfl) rfl #[.pointer (some ⟨gr, 0, none⟩)] rfl (by (try simp only [List.map_toArray, List.map_cons, List.map_nil]); first | done | rfl) ?_; (with_reducible refine (hr_oneG gr A0 c0 l0 pt et _ _ _ _ HGo.out HY.out HL.out (Kd.C_below HR0.out ST.out.bl) HC0.out ST.out.br).mono ?_); rintro x_ w37 ⟨rfl, hbx, hgr⟩; refine ⟨_, rfl, ?_⟩; have STn := Aside0.mk (ST.out.step hbx hgr); clear ST hbx hgr; have ST := STn; clear STn)
  | ((with_reducible refine gate_dst (N := 39) rfl ?_); refine goesL_ (some 39) rfl rfl Try.func33 (by kernel_rfl) rfl #[.pointer (some ⟨gr, 0, none⟩)] rfl (by (try simp only [List.map_toArray, List.map_cons, List.map_nil]); first | done | rfl) ?_; (with_reducible refine (hr_oneG gr A0 c0 l0 po eo _ _ _ _ HGr.out HY.out HL.out (Kd.C_below HR0.out ST.out.bl) HC0.out ST.out.br).mono ?_); rintro x_ w39 ⟨rfl, hbx, hgr⟩; refine ⟨_, rfl, ?_⟩; have STn := Aside0.mk (ST.out.step hbx hgr); clear ST hbx hgr; have ST := STn; clear STn)
  | ((with_reducible refine gate_dst (N := 41) rfl ?_); refine goesL_ (some 41) rfl rfl Try.func34 (by kernel_rfl) rfl #[.pointer (some ⟨gr, 0, none⟩)] rfl (by (try simp only [List.map_toArray, List.map_cons, List.map_nil]); first | done | rfl) ?_; (with_reducible refine (hr_eightG gr A0 c0 l0 pr er _ _ _ _ HGd.out HY.out HL.out (Kd.C_below HR0.out ST.out.bl) HC0.out ST.out.br).mono ?_); rintro x_ w41 ⟨rfl, hbx, hgr⟩; refine ⟨_, rfl, ?_⟩; have STn := Aside0.mk (ST.out.step hbx hgr); clear ST hbx hgr; have ST := STn; clear STn; obtain ⟨⟨z0, z1, z2, z3, z4, z5⟩, zf0, zf1, zf2, zf3, zf4, zf5⟩ := cells6 ST.out.b9)
  | ((with_reducible refine gate_dst (N := 47) rfl ?_); clear z0 zf0 z1 zf1 z2 zf2 z3 zf3 z4 zf4 z5 zf5; have STp := Aside0.mk (HpSt.put (HpSt.put (HpSt.put (HpSt.put ST.out 1 (.int .i64 t) rfl) 2 (.int .i64 o) rfl) 3 (.int .i64 r) rfl) 4 (.int .i64 d) rfl); clear ST; have ST := STp; clear STp; refine goesL_ (some 47) rfl rfl Try.func33 (by kernel_rfl) rfl #[.pointer (some ⟨gr, 0, none⟩)] rfl (by (try simp only [List.map_toArray, List.map_cons, List.map_nil]); first | done | rfl) ?_; (with_reducible refine (hr_oneG gr A0 c0 l0 pd ed _ _ _ _ HGi.out HY.out HL.out (Kd.C_below HR0.out ST.out.bl) HC0.out ST.out.br).mono ?_); rintro x_ w47 ⟨rfl, hbx, hgr⟩; refine ⟨_, rfl, ?_⟩; have STn := Aside0.mk (ST.out.step hbx hgr); clear ST hbx hgr; have ST := STn; clear STn; obtain ⟨⟨x0, x1, x2, x3, x4, x5⟩, xf0, xf1, xf2, xf3, xf4, xf5⟩ := cells6 ST.out.b9))
 have STn := Aside0.mk (HpSt.put ST.out 5 (.int .i64 i) (cs2 := #[.bool false, .int .i64 t, .int .i64 o, .int .i64 r, .int .i64 d, .int .i64 i]) rfl)
 clear ST
 have ST := STn
 clear STn x0 xf0 x1 xf1 x2 xf2 x3 xf3 x4 xf4 x5 xf5
 clear v0 vf0 v1 vf1 v2 vf2
 clear y0 yf0 y1 yf1 y2 yf2 y3 yf3 y4 yf4 y5 yf5
 generalize (w47.setCell ⟨g9, 5, none⟩ (.int .i64 i)) = wr at ST ⊢
 obtain ⟨⟨v0, v1, v2⟩, vf0, vf1, vf2⟩ := cells3 ST.out.br
 obtain ⟨⟨y0, y1, y2, y3, y4, y5⟩, yf0, yf1, yf2, yf3, yf4, yf5⟩ := cells6 ST.out.b9
 go_upto_region 12 with (fail)
 have STd := Aside0.mk (HpSt.drew ST.out)
 clear ST
 have ST := STd
 clear STd
 refine start_ (n := 8) (S := fun w' => w'.cell? ⟨gr, 2, none⟩ = some (.int .i64 ei)) (ds := []) #[false, false, false, false, false, false, false, false] (by kernel_rfl) rfl rfl ((blk_cell ST.out.br 2).trans rfl) (fun hHeld => ?_); refine with_tabW height_Parse.tab12 height_Parse.bits12 (fun HT_ HW_ => ?_)
 generalize wr.drew = wd at ST hHeld ⊢
 obtain ⟨⟨o0, o1, o2, o3, o4, o5⟩, of0, of1, of2, of3, of4, of5⟩ := cells6 ST.out.b4
 have n94 : g9 ≠ g4 := ST.out.d49.symm
 have nr4 : gr ≠ g4 := (blk_ne ST.out.br ST.out.b4 (by decide))
 refine pure_ (i := 0) (N := some 67) (v := ?_) (a' := ?_) #[true, false, false, false, false, false, false, false] rfl rfl (any_of HT_.out (by kernel_rfl)) (fun _ _ _ h => h) (Or.inl ⟨by rfl, ?_⟩) ?_ ?_
 rotate_left
 ·intro w'
  go_simp
  with_reducible rfl
 rotate_left
 ·simp only [Act.put, List.setIfInBounds_toArray, List.set_cons_zero, List.set_cons_succ, i64_w, i32_w]
  rfl
 refine pure_ (i := 1) (N := some 68) (v := ?_) (a' := ?_) #[true, true, false, false, false, false, false, false] rfl rfl (any_of HT_.out (by kernel_rfl)) (fun _ _ _ h => h) (Or.inl ⟨by rfl, ?_⟩) ?_ ?_
 rotate_left
 ·intro w'
  go_simp
  with_reducible rfl
 rotate_left
 ·simp only [Act.put, List.setIfInBounds_toArray, List.set_cons_zero, List.set_cons_succ, i64_w, i32_w]
  rfl
 refine pure_ (i := 2) (N := some 69) (v := ?_) (a' := ?_) #[true, true, true, false, false, false, false, false] rfl rfl (any_of HT_.out (by kernel_rfl)) (fun _ _ _ h => h) (Or.inl ⟨by rfl, ?_⟩) ?_ ?_
 rotate_left
 ·intro w'
  go_simp
  with_reducible rfl
 rotate_left
 ·simp only [Act.put, List.setIfInBounds_toArray, List.set_cons_zero, List.set_cons_succ, i64_w, i32_w]
  rfl
 refine pure_ (i := 3) (N := some 70) (v := ?_) (a' := ?_) #[true, true, true, true, false, false, false, false] rfl rfl (any_of HT_.out (by kernel_rfl)) (fun _ _ _ h => h) (Or.inl ⟨by rfl, ?_⟩) ?_ ?_
 rotate_left
 ·intro w'
  go_simp
  with_reducible rfl
 rotate_left
 ·simp only [Act.put, List.setIfInBounds_toArray, List.set_cons_zero, List.set_cons_succ, i64_w, i32_w]
  rfl
 refine take_ (i := 4) (N := some 71) (v := ?_) (a' := ?_) #[true, true, true, true, true, false, false, false] rfl rfl (take_ofW HT_.out HW_.out (by kernel_rfl)) (fun _ _ _ h => h) (Or.inl ⟨by rfl, ?_⟩) hHeld ?_ ?_
 rotate_left
 ·intro w' s0
  go_simp
  with_reducible rfl
 rotate_left
 ·simp only [Act.put, List.setIfInBounds_toArray, List.set_cons_zero, List.set_cons_succ, i64_w, i32_w]
  rfl
 refine one_ (i := 5) (N := none) #[true, true, true, true, true, true, false, false] rfl rfl (one_of HT_.out (by kernel_rfl)) (by decide) (fun K hK => ?_)
 refine skip_ (w1 := ?_) (by rfl) rfl ?_ ?_
 rotate_left
 ·go_simp
  rfl
 refine hK.out _ _ ?_ (fun hHeld2 => ?_)
 ·(repeat (first | refine (cell_far n94 _).trans ?_ | refine (cell_far nr4 _).trans ?_)); exact hHeld
 clear hHeld
 have hHeld := hHeld2
 clear hHeld2
 clear hK K
 refine pure_ (i := 6) (N := some 5) (v := ?_) (a' := ?_) #[true, true, true, true, true, true, true, false] rfl rfl (any_of HT_.out (by kernel_rfl)) (fun _ _ _ h => h) (Or.inl ⟨by rfl, ?_⟩) ?_ ?_
 rotate_left
 ·intro w'
  go_simp
  with_reducible rfl
 rotate_left
 ·simp only [Act.put, List.setIfInBounds_toArray, List.set_cons_zero, List.set_cons_succ, i64_w, i32_w]
  rfl
 refine pure_ (i := 7) (N := some 6) (v := ?_) (a' := ?_) #[true, true, true, true, true, true, true, true] rfl rfl (any_of HT_.out (by kernel_rfl)) (fun _ _ _ h => h) (Or.inl ⟨by rfl, ?_⟩) ?_ ?_
 rotate_left
 ·intro w'
  go_simp
  with_reducible rfl
 rotate_left
 ·simp only [Act.put, List.setIfInBounds_toArray, List.set_cons_zero, List.set_cons_succ, i64_w, i32_w]
  rfl
 refine done_ (done_of HT_.out (by kernel_rfl)) ?_
 clear HT_ HW_
 try go_wp2
 refine bodyPost_ret (results_ctt rfl _ _ g4 23 #[.bool false, .int .i64 0, .int .i64 0, .int .i64 0, .int .i64 0, .int .i64 0] (0, 0) _ rfl (blk_put (blk_put (blk_put (blk_put (blk_put (blk_put ST.out.b4 0 (.bool false) rfl) 1 (.int .i64 0) rfl) 2 (.int .i64 0) rfl) 3 (.int .i64 0) rfl) 4 (.int .i64 0) rfl) 5 (.int .i64 0) (cs' := #[.bool false, .int .i64 0, .int .i64 0, .int .i64 0, .int .i64 0, .int .i64 0]) rfl) Try.underlying23 rfl (by kernel_rfl)) rfl ?_
 exact ⟨rfl, (below_set (below_set (below_set (below_set (below_set (below_set ST.out.bl ST.out.n4) ST.out.n4) ST.out.n4) ST.out.n4) ST.out.n4) ST.out.n4)⟩
theorem hp_k_no (A0 : Option Addr) (c0 : Nat) (l0 : List Int) (a1 : Int) (w : World) (k p1 e1 t pt et o po eo r pr er d pd ed i pi ei : Int) (HL : l0.length ≤ 1000000000000) (HY : Bytes l0) (HR0 : Kd.C (Kd.int .u8) w A0 l0.length l0) (HC0 : l0.length ≤ c0) (HG1 : rd1 l0 1 a1 0 = (k, p1, e1)) (he : e1 = 0) (hk : ¬ k = 0) (hg : ¬ 1 < k) (HGt : rd8 l0 p1 0 = (t, pt, et)) (HGo : rd1 l0 1 pt et = (o, po, eo)) (HGr : rd1 l0 1 po eo = (r, pr, er)) (HGd : rd8 l0 pr er = (d, pd, ed)) (HGi : rd1 l0 1 pd ed = (i, pi, ei)) (hf : ei = 0) (hr : ¬ RH false t o r d i) :
  Calls Try.prog 29 #[.slice A0 l0.length c0, .int .i64 a1] w fun e w' => e = .returned (.tuple #[.agg #[.bool false, .int .i64 0, .int .i64 0, .int .i64 0, .int .i64 0, .int .i64 0], .int .i64 0, .int .i64 4]) ∧ Below w.heap.size w w' := by
 have hu23 := Try.underlying23
 have hu67 := Try.underlying77
 replace HL := Aside0.mk HL
 replace HY := Aside0.mk HY
 replace HR0 := Aside0.mk HR0
 replace HC0 := Aside0.mk HC0
 replace HG1 := Aside0.mk HG1
 replace HGt := Aside0.mk HGt
 replace HGo := Aside0.mk HGo
 replace HGr := Aside0.mk HGr
 replace HGd := Aside0.mk HGd
 replace HGi := Aside0.mk HGi
 subst he
 have b2 : (k == 0) = false := beq_eq_false_iff_ne.mpr hk
 have b3 : decide (1 < k) = false := decide_eq_false hg
 clear hk hg
 subst hf
 obtain ⟨K, hK⟩ := (hc_eq false t o r d i).rounds
 rw [if_neg hr] at hK
 have HK := Aside0.mk hK
 clear hK hr
 go_enter Try.func29, Try.ntmps29
 go_upto_region 4 with (first
  | ((with_reducible refine gate_dst (N := 4) rfl ?_); refine box_event ?hg (N := 4) ?hd (cs := #[.bool false, .int .i64 0, .int .i64 0, .int .i64 0, .int .i64 0, .int .i64 0]) (t := 23) ?hr ?_; (case hd => rfl); (case hg => rfl); (case hr => first | (go_simp; done) | (go_simp; rfl)); intro g4 hg w4 hbox hb; have HB4 := Aside0.mk hb; have G4 := Aside0.mk (Nat.le_of_eq hg.symm); have B4 := Aside0.mk hbox; clear hb hbox hg)
  | ((with_reducible refine gate_dst (N := 13) rfl ?_); refine box_event ?hg (N := 13) ?hd (cs := RdC A0 l0.length c0 a1 0) (t := 77) ?hr ?_; (case hd => rfl); (case hg => rfl); (case hr => first | (go_simp; done) | (go_simp; rfl)); intro gr hg w5 hbox hb; have HB5 := Aside0.mk (below_step HB4.out hb); have GR := Aside0.mk (show w.heap.size ≤ gr by rw [hg]; exact below_size HB4.out); have B45 := Aside0.mk (blk_below B4.out hb); have BR := Aside0.mk hbox; clear hb hbox hg HB4 B4)
  | ((with_reducible refine gate_dst (N := 15) rfl ?_); refine goesL_ (some 15) rfl rfl Try.func33 (by kernel_rfl) rfl #[.pointer (some ⟨gr, 0, none⟩)] rfl (by (try simp only [List.map_toArray, List.map_cons, List.map_nil]); first | done | rfl) ?_; (with_reducible refine (hr_oneG gr A0 c0 l0 a1 0 _ _ _ _ HG1.out HY.out HL.out (Kd.C_below HR0.out HB5.out) HC0.out BR.out).mono ?_); rintro x_ w6 ⟨rfl, hbx, hgr⟩; refine ⟨_, rfl, ?_⟩; have HB6 := Aside0.mk (pw_below_grown HB5.out (some gr) (below_size HB5.out) hgr (fun k_ e_ => by cases e_; exact GR.out)); have B46 := Aside0.mk (blk_grown B45.out hgr (fun e_ => blk_ne B45.out BR.out (by decide) (Option.some.inj e_))); have BR6 := Aside0.mk hbx; clear hbx hgr HB5 B45 BR)
  | ((with_reducible refine gate_dst (N := 9) rfl ?_); refine box_event ?hg (N := 9) ?hd (cs := #[.bool false, .int .i64 0, .int .i64 0, .int .i64 0, .int .i64 0, .int .i64 0]) (t := 23) ?hr ?_; (case hd => rfl); (case hg => rfl); (case hr => first | (go_simp; done) | (go_simp; rfl)); intro g9 hg w7 hbox hb; have ST0 := Aside0.mk (HpSt.mk (blk_below B46.out hb) hbox (blk_below BR6.out hb) (below_step HB6.out hb) G4.out (by rw [hg]; exact below_size HB6.out) GR.out (by rw [hg]; exact Nat.ne_of_lt (blk_lt B46.out))); clear hb hbox hg; obtain ⟨⟨u0, u1, u2, u3, u4, u5⟩, uf0, uf1, uf2, uf3, uf4, uf5⟩ := cells6 ST0.out.b9))
 have ST := Aside0.mk (show HpSt w ((((((w7.setCell ⟨g9, 0, none⟩ (.bool false)).setCell ⟨g9, 1, none⟩ (.int .i64 0)).setCell ⟨g9, 2, none⟩ (.int .i64 0)).setCell ⟨g9, 3, none⟩ (.int .i64 0)).setCell ⟨g9, 4, none⟩ (.int .i64 0)).setCell ⟨g9, 5, none⟩ (.int .i64 0)) A0 l0.length c0 g4 g9 gr p1 0 #[.bool false, .int .i64 0, .int .i64 0, .int .i64 0, .int .i64 0, .int .i64 0] from (HpSt.put (HpSt.put (HpSt.put (HpSt.put (HpSt.put (HpSt.put ST0.out 0 (.bool false) rfl) 1 (.int .i64 0) rfl) 2 (.int .i64 0) rfl) 3 (.int .i64 0) rfl) 4 (.int .i64 0) rfl) 5 (.int .i64 0) rfl))
 generalize ((((((w7.setCell ⟨g9, 0, none⟩ (.bool false)).setCell ⟨g9, 1, none⟩ (.int .i64 0)).setCell ⟨g9, 2, none⟩ (.int .i64 0)).setCell ⟨g9, 3, none⟩ (.int .i64 0)).setCell ⟨g9, 4, none⟩ (.int .i64 0)).setCell ⟨g9, 5, none⟩ (.int .i64 0)) = wq at ST ⊢
 clear ST0 u0 uf0 u1 uf1 u2 uf2 u3 uf3 u4 uf4 u5 uf5
 obtain ⟨⟨v0, v1, v2⟩, vf0, vf1, vf2⟩ := cells3 ST.out.br
 obtain ⟨⟨y0, y1, y2, y3, y4, y5⟩, yf0, yf1, yf2, yf3, yf4, yf5⟩ := cells6 ST.out.b9
 go_upto_region 9 with (first
  | ((with_reducible refine gate_dst (N := 35) rfl ?_); refine goesL_ (some 35) rfl rfl Try.func34 (by kernel_rfl) rfl #[.pointer (some ⟨gr, 0, none⟩)] rfl (by (try simp only [List.map_toArray, List.map_cons, List.map_nil]); first | done | rfl) ?_; (with_reducible refine (hr_eightG gr A0 c0 l0 p1 0 _ _ _ _ HGt.out HY.out HL.out (Kd.C_below HR0.out ST.out.bl) HC0.out ST.out.br).mono ?_); rintro x_ w35 ⟨rfl, hbx, hgr⟩; refine ⟨_, rfl, ?_⟩; have STn := Aside0.mk (ST.out.step hbx hgr); clear ST hbx hgr; have ST := STn; clear STn)
  | ((with_reducible refine gate_dst (N := 37) rfl ?_); refine goesL_ (some 37) rfl rfl Try.func33 (by kernel_rfl) rfl #[.pointer (some ⟨gr, 0, none⟩)] rfl (by (try simp only [List.map_toArray, List.map_cons, List.map_nil]); first | done | rfl) ?_; (with_reducible refine (hr_oneG gr A0 c0 l0 pt et _ _ _ _ HGo.out HY.out HL.out (Kd.C_below HR0.out ST.out.bl) HC0.out ST.out.br).mono ?_); rintro x_ w37 ⟨rfl, hbx, hgr⟩; refine ⟨_, rfl, ?_⟩; have STn := Aside0.mk (ST.out.step hbx hgr); clear ST hbx hgr; have ST := STn; clear STn)
  | ((with_reducible refine gate_dst (N := 39) rfl ?_); refine goesL_ (some 39) rfl rfl Try.func33 (by kernel_rfl) rfl #[.pointer (some ⟨gr, 0, none⟩)] rfl (by (try simp only [List.map_toArray, List.map_cons, List.map_nil]); first | done | rfl) ?_; (with_reducible refine (hr_oneG gr A0 c0 l0 po eo _ _ _ _ HGr.out HY.out HL.out (Kd.C_below HR0.out ST.out.bl) HC0.out ST.out.br).mono ?_); rintro x_ w39 ⟨rfl, hbx, hgr⟩; refine ⟨_, rfl, ?_⟩; have STn := Aside0.mk (ST.out.step hbx hgr); clear ST hbx hgr; have ST := STn; clear STn)
  | ((with_reducible refine gate_dst (N := 41) rfl ?_); refine goesL_ (some 41) rfl rfl Try.func34 (by kernel_rfl) rfl #[.pointer (some ⟨gr, 0, none⟩)] rfl (by (try simp only [List.map_toArray, List.map_cons, List.map_nil]); first | done | rfl) ?_; (with_reducible refine (hr_eightG gr A0 c0 l0 pr er _ _ _ _ HGd.out HY.out HL.out (Kd.C_below HR0.out ST.out.bl) HC0.out ST.out.br).mono ?_); rintro x_ w41 ⟨rfl, hbx, hgr⟩; refine ⟨_, rfl, ?_⟩; have STn := Aside0.mk (ST.out.step hbx hgr); clear ST hbx hgr; have ST := STn; clear STn; obtain ⟨⟨z0, z1, z2, z3, z4, z5⟩, zf0, zf1, zf2, zf3, zf4, zf5⟩ := cells6 ST.out.b9)
  | ((with_reducible refine gate_dst (N := 47) rfl ?_); clear z0 zf0 z1 zf1 z2 zf2 z3 zf3 z4 zf4 z5 zf5; have STp := Aside0.mk (HpSt.put (HpSt.put (HpSt.put (HpSt.put ST.out 1 (.int .i64 t) rfl) 2 (.int .i64 o) rfl) 3 (.int .i64 r) rfl) 4 (.int .i64 d) rfl); clear ST; have ST := STp; clear STp; refine goesL_ (some 47) rfl rfl Try.func33 (by kernel_rfl) rfl #[.pointer (some ⟨gr, 0, none⟩)] rfl (by (try simp only [List.map_toArray, List.map_cons, List.map_nil]); first | done | rfl) ?_; (with_reducible refine (hr_oneG gr A0 c0 l0 pd ed _ _ _ _ HGi.out HY.out HL.out (Kd.C_below HR0.out ST.out.bl) HC0.out ST.out.br).mono ?_); rintro x_ w47 ⟨rfl, hbx, hgr⟩; refine ⟨_, rfl, ?_⟩; have STn := Aside0.mk (ST.out.step hbx hgr); clear ST hbx hgr; have ST := STn; clear STn; obtain ⟨⟨x0, x1, x2, x3, x4, x5⟩, xf0, xf1, xf2, xf3, xf4, xf5⟩ := cells6 ST.out.b9))
 have STn := Aside0.mk (HpSt.put ST.out 5 (.int .i64 i) (cs2 := #[.bool false, .int .i64 t, .int .i64 o, .int .i64 r, .int .i64 d, .int .i64 i]) rfl)
 clear ST
 have ST := STn
 clear STn x0 xf0 x1 xf1 x2 xf2 x3 xf3 x4 xf4 x5 xf5
 clear v0 vf0 v1 vf1 v2 vf2
 clear y0 yf0 y1 yf1 y2 yf2 y3 yf3 y4 yf4 y5 yf5
 generalize (w47.setCell ⟨g9, 5, none⟩ (.int .i64 i)) = wr at ST ⊢
 obtain ⟨⟨v0, v1, v2⟩, vf0, vf1, vf2⟩ := cells3 ST.out.br
 obtain ⟨⟨y0, y1, y2, y3, y4, y5⟩, yf0, yf1, yf2, yf3, yf4, yf5⟩ := cells6 ST.out.b9
 go_upto_region 12 with ((go_at_call 19; (with_reducible refine (height_Check.calls K false t o r d i 1 _ HK.out).mono ?_); rintro x_ ws ⟨rfl, hb⟩; have STn := Aside0.mk (HpSt.below ST.out hb); clear ST hb; have ST := STn; clear STn; obtain ⟨⟨s0, s1, s2⟩, sf0, sf1, sf2⟩ := cells3 ST.out.br))
 clear v0 vf0 v1 vf1 v2 vf2 y0 yf0 y1 yf1 y2 yf2 y3 yf3 y4 yf4 y5 yf5 s0 sf0 s1 sf1 s2 sf2
 have STn := Aside0.mk (HpSt.err ST.out 4)
 clear ST
 have ST := STn
 clear STn
 generalize (ws.setCell ⟨gr, 2, none⟩ (.int .i64 4)) = wt at ST ⊢
 have STd := Aside0.mk (HpSt.drew ST.out)
 clear ST
 have ST := STd
 clear STd
 refine start_ (n := 8) (S := fun w' => w'.cell? ⟨gr, 2, none⟩ = some (.int .i64 4)) (ds := []) #[false, false, false, false, false, false, false, false] (by kernel_rfl) rfl rfl ((blk_cell ST.out.br 2).trans rfl) (fun hHeld => ?_); refine with_tabW height_Parse.tab12 height_Parse.bits12 (fun HT_ HW_ => ?_)
 generalize wt.drew = wd at ST hHeld ⊢
 obtain ⟨⟨o0, o1, o2, o3, o4, o5⟩, of0, of1, of2, of3, of4, of5⟩ := cells6 ST.out.b4
 have n94 : g9 ≠ g4 := ST.out.d49.symm
 have nr4 : gr ≠ g4 := (blk_ne ST.out.br ST.out.b4 (by decide))
 refine pure_ (i := 0) (N := some 67) (v := ?_) (a' := ?_) #[true, false, false, false, false, false, false, false] rfl rfl (any_of HT_.out (by kernel_rfl)) (fun _ _ _ h => h) (Or.inl ⟨by rfl, ?_⟩) ?_ ?_
 rotate_left
 ·intro w'
  go_simp
  with_reducible rfl
 rotate_left
 ·simp only [Act.put, List.setIfInBounds_toArray, List.set_cons_zero, List.set_cons_succ, i64_w, i32_w]
  rfl
 refine pure_ (i := 1) (N := some 68) (v := ?_) (a' := ?_) #[true, true, false, false, false, false, false, false] rfl rfl (any_of HT_.out (by kernel_rfl)) (fun _ _ _ h => h) (Or.inl ⟨by rfl, ?_⟩) ?_ ?_
 rotate_left
 ·intro w'
  go_simp
  with_reducible rfl
 rotate_left
 ·simp only [Act.put, List.setIfInBounds_toArray, List.set_cons_zero, List.set_cons_succ, i64_w, i32_w]
  rfl
 refine pure_ (i := 2) (N := some 69) (v := ?_) (a' := ?_) #[true, true, true, false, false, false, false, false] rfl rfl (any_of HT_.out (by kernel_rfl)) (fun _ _ _ h => h) (Or.inl ⟨by rfl, ?_⟩) ?_ ?_
 rotate_left
 ·intro w'
  go_simp
  with_reducible rfl
 rotate_left
 ·simp only [Act.put, List.setIfInBounds_toArray, List.set_cons_zero, List.set_cons_succ, i64_w, i32_w]
  rfl
 refine pure_ (i := 3) (N := some 70) (v := ?_) (a' := ?_) #[true, true, true, true, false, false, false, false] rfl rfl (any_of HT_.out (by kernel_rfl)) (fun _ _ _ h => h) (Or.inl ⟨by rfl, ?_⟩) ?_ ?_
 rotate_left
 ·intro w'
  go_simp
  with_reducible rfl
 rotate_left
 ·simp only [Act.put, List.setIfInBounds_toArray, List.set_cons_zero, List.set_cons_succ, i64_w, i32_w]
  rfl
 refine take_ (i := 4) (N := some 71) (v := ?_) (a' := ?_) #[true, true, true, true, true, false, false, false] rfl rfl (take_ofW HT_.out HW_.out (by kernel_rfl)) (fun _ _ _ h => h) (Or.inl ⟨by rfl, ?_⟩) hHeld ?_ ?_
 rotate_left
 ·intro w' s0
  go_simp
  with_reducible rfl
 rotate_left
 ·simp only [Act.put, List.setIfInBounds_toArray, List.set_cons_zero, List.set_cons_succ, i64_w, i32_w]
  rfl
 refine one_ (i := 5) (N := none) #[true, true, true, true, true, true, false, false] rfl rfl (one_of HT_.out (by kernel_rfl)) (by decide) (fun K hK => ?_)
 refine skip_ (w1 := ?_) (by rfl) rfl ?_ ?_
 rotate_left
 ·go_simp
  rfl
 refine hK.out _ _ ?_ (fun hHeld2 => ?_)
 ·(repeat (first | refine (cell_far n94 _).trans ?_ | refine (cell_far nr4 _).trans ?_)); exact hHeld
 clear hHeld
 have hHeld := hHeld2
 clear hHeld2
 clear hK K
 refine pure_ (i := 6) (N := some 5) (v := ?_) (a' := ?_) #[true, true, true, true, true, true, true, false] rfl rfl (any_of HT_.out (by kernel_rfl)) (fun _ _ _ h => h) (Or.inl ⟨by rfl, ?_⟩) ?_ ?_
 rotate_left
 ·intro w'
  go_simp
  with_reducible rfl
 rotate_left
 ·simp only [Act.put, List.setIfInBounds_toArray, List.set_cons_zero, List.set_cons_succ, i64_w, i32_w]
  rfl
 refine pure_ (i := 7) (N := some 6) (v := ?_) (a' := ?_) #[true, true, true, true, true, true, true, true] rfl rfl (any_of HT_.out (by kernel_rfl)) (fun _ _ _ h => h) (Or.inl ⟨by rfl, ?_⟩) ?_ ?_
 rotate_left
 ·intro w'
  go_simp
  with_reducible rfl
 rotate_left
 ·simp only [Act.put, List.setIfInBounds_toArray, List.set_cons_zero, List.set_cons_succ, i64_w, i32_w]
  rfl
 refine done_ (done_of HT_.out (by kernel_rfl)) ?_
 clear HT_ HW_
 try go_wp2
 refine bodyPost_ret (results_ctt rfl _ _ g4 23 #[.bool false, .int .i64 0, .int .i64 0, .int .i64 0, .int .i64 0, .int .i64 0] (0, 0) _ rfl (blk_put (blk_put (blk_put (blk_put (blk_put (blk_put ST.out.b4 0 (.bool false) rfl) 1 (.int .i64 0) rfl) 2 (.int .i64 0) rfl) 3 (.int .i64 0) rfl) 4 (.int .i64 0) rfl) 5 (.int .i64 0) (cs' := #[.bool false, .int .i64 0, .int .i64 0, .int .i64 0, .int .i64 0, .int .i64 0]) rfl) Try.underlying23 rfl (by kernel_rfl)) rfl ?_
 exact ⟨rfl, (below_set (below_set (below_set (below_set (below_set (below_set ST.out.bl ST.out.n4) ST.out.n4) ST.out.n4) ST.out.n4) ST.out.n4) ST.out.n4)⟩
theorem hp_k_yes (A0 : Option Addr) (c0 : Nat) (l0 : List Int) (a1 : Int) (w : World) (k p1 e1 t pt et o po eo r pr er d pd ed i pi ei : Int) (HL : l0.length ≤ 1000000000000) (HY : Bytes l0) (HR0 : Kd.C (Kd.int .u8) w A0 l0.length l0) (HC0 : l0.length ≤ c0) (HG1 : rd1 l0 1 a1 0 = (k, p1, e1)) (he : e1 = 0) (hk : ¬ k = 0) (hg : ¬ 1 < k) (HGt : rd8 l0 p1 0 = (t, pt, et)) (HGo : rd1 l0 1 pt et = (o, po, eo)) (HGr : rd1 l0 1 po eo = (r, pr, er)) (HGd : rd8 l0 pr er = (d, pd, ed)) (HGi : rd1 l0 1 pd ed = (i, pi, ei)) (hf : ei = 0) (hr : RH false t o r d i) :
  Calls Try.prog 29 #[.slice A0 l0.length c0, .int .i64 a1] w fun e w' => e = .returned (.tuple #[.agg #[.bool false, .int .i64 t, .int .i64 o, .int .i64 r, .int .i64 d, .int .i64 i], .int .i64 pi, .int .i64 0]) ∧ Below w.heap.size w w' := by
 have hu23 := Try.underlying23
 have hu67 := Try.underlying77
 replace HL := Aside0.mk HL
 replace HY := Aside0.mk HY
 replace HR0 := Aside0.mk HR0
 replace HC0 := Aside0.mk HC0
 replace HG1 := Aside0.mk HG1
 replace HGt := Aside0.mk HGt
 replace HGo := Aside0.mk HGo
 replace HGr := Aside0.mk HGr
 replace HGd := Aside0.mk HGd
 replace HGi := Aside0.mk HGi
 subst he
 have b2 : (k == 0) = false := beq_eq_false_iff_ne.mpr hk
 have b3 : decide (1 < k) = false := decide_eq_false hg
 clear hk hg
 subst hf
 obtain ⟨K, hK⟩ := (hc_eq false t o r d i).rounds
 rw [if_pos hr] at hK
 have HK := Aside0.mk hK
 clear hK hr
 go_enter Try.func29, Try.ntmps29
 go_upto_region 4 with (first
  | ((with_reducible refine gate_dst (N := 4) rfl ?_); refine box_event ?hg (N := 4) ?hd (cs := #[.bool false, .int .i64 0, .int .i64 0, .int .i64 0, .int .i64 0, .int .i64 0]) (t := 23) ?hr ?_; (case hd => rfl); (case hg => rfl); (case hr => first | (go_simp; done) | (go_simp; rfl)); intro g4 hg w4 hbox hb; have HB4 := Aside0.mk hb; have G4 := Aside0.mk (Nat.le_of_eq hg.symm); have B4 := Aside0.mk hbox; clear hb hbox hg)
  | ((with_reducible refine gate_dst (N := 13) rfl ?_); refine box_event ?hg (N := 13) ?hd (cs := RdC A0 l0.length c0 a1 0) (t := 77) ?hr ?_; (case hd => rfl); (case hg => rfl); (case hr => first | (go_simp; done) | (go_simp; rfl)); intro gr hg w5 hbox hb; have HB5 := Aside0.mk (below_step HB4.out hb); have GR := Aside0.mk (show w.heap.size ≤ gr by rw [hg]; exact below_size HB4.out); have B45 := Aside0.mk (blk_below B4.out hb); have BR := Aside0.mk hbox; clear hb hbox hg HB4 B4)
  | ((with_reducible refine gate_dst (N := 15) rfl ?_); refine goesL_ (some 15) rfl rfl Try.func33 (by kernel_rfl) rfl #[.pointer (some ⟨gr, 0, none⟩)] rfl (by (try simp only [List.map_toArray, List.map_cons, List.map_nil]); first | done | rfl) ?_; (with_reducible refine (hr_oneG gr A0 c0 l0 a1 0 _ _ _ _ HG1.out HY.out HL.out (Kd.C_below HR0.out HB5.out) HC0.out BR.out).mono ?_); rintro x_ w6 ⟨rfl, hbx, hgr⟩; refine ⟨_, rfl, ?_⟩; have HB6 := Aside0.mk (pw_below_grown HB5.out (some gr) (below_size HB5.out) hgr (fun k_ e_ => by cases e_; exact GR.out)); have B46 := Aside0.mk (blk_grown B45.out hgr (fun e_ => blk_ne B45.out BR.out (by decide) (Option.some.inj e_))); have BR6 := Aside0.mk hbx; clear hbx hgr HB5 B45 BR)
  | ((with_reducible refine gate_dst (N := 9) rfl ?_); refine box_event ?hg (N := 9) ?hd (cs := #[.bool false, .int .i64 0, .int .i64 0, .int .i64 0, .int .i64 0, .int .i64 0]) (t := 23) ?hr ?_; (case hd => rfl); (case hg => rfl); (case hr => first | (go_simp; done) | (go_simp; rfl)); intro g9 hg w7 hbox hb; have ST0 := Aside0.mk (HpSt.mk (blk_below B46.out hb) hbox (blk_below BR6.out hb) (below_step HB6.out hb) G4.out (by rw [hg]; exact below_size HB6.out) GR.out (by rw [hg]; exact Nat.ne_of_lt (blk_lt B46.out))); clear hb hbox hg; obtain ⟨⟨u0, u1, u2, u3, u4, u5⟩, uf0, uf1, uf2, uf3, uf4, uf5⟩ := cells6 ST0.out.b9))
 have ST := Aside0.mk (show HpSt w ((((((w7.setCell ⟨g9, 0, none⟩ (.bool false)).setCell ⟨g9, 1, none⟩ (.int .i64 0)).setCell ⟨g9, 2, none⟩ (.int .i64 0)).setCell ⟨g9, 3, none⟩ (.int .i64 0)).setCell ⟨g9, 4, none⟩ (.int .i64 0)).setCell ⟨g9, 5, none⟩ (.int .i64 0)) A0 l0.length c0 g4 g9 gr p1 0 #[.bool false, .int .i64 0, .int .i64 0, .int .i64 0, .int .i64 0, .int .i64 0] from (HpSt.put (HpSt.put (HpSt.put (HpSt.put (HpSt.put (HpSt.put ST0.out 0 (.bool false) rfl) 1 (.int .i64 0) rfl) 2 (.int .i64 0) rfl) 3 (.int .i64 0) rfl) 4 (.int .i64 0) rfl) 5 (.int .i64 0) rfl))
 generalize ((((((w7.setCell ⟨g9, 0, none⟩ (.bool false)).setCell ⟨g9, 1, none⟩ (.int .i64 0)).setCell ⟨g9, 2, none⟩ (.int .i64 0)).setCell ⟨g9, 3, none⟩ (.int .i64 0)).setCell ⟨g9, 4, none⟩ (.int .i64 0)).setCell ⟨g9, 5, none⟩ (.int .i64 0)) = wq at ST ⊢
 clear ST0 u0 uf0 u1 uf1 u2 uf2 u3 uf3 u4 uf4 u5 uf5
 obtain ⟨⟨v0, v1, v2⟩, vf0, vf1, vf2⟩ := cells3 ST.out.br
 obtain ⟨⟨y0, y1, y2, y3, y4, y5⟩, yf0, yf1, yf2, yf3, yf4, yf5⟩ := cells6 ST.out.b9
 go_upto_region 9 with (first
  | ((with_reducible refine gate_dst (N := 35) rfl ?_); refine goesL_ (some 35) rfl rfl Try.func34 (by kernel_rfl) rfl #[.pointer (some ⟨gr, 0, none⟩)] rfl (by (try simp only [List.map_toArray, List.map_cons, List.map_nil]); first | done | rfl) ?_; (with_reducible refine (hr_eightG gr A0 c0 l0 p1 0 _ _ _ _ HGt.out HY.out HL.out (Kd.C_below HR0.out ST.out.bl) HC0.out ST.out.br).mono ?_); rintro x_ w35 ⟨rfl, hbx, hgr⟩; refine ⟨_, rfl, ?_⟩; have STn := Aside0.mk (ST.out.step hbx hgr); clear ST hbx hgr; have ST := STn; clear STn)
  | ((with_reducible refine gate_dst (N := 37) rfl ?_); refine goesL_ (some 37) rfl rfl Try.func33 (by kernel_rfl) rfl #[.pointer (some ⟨gr, 0, none⟩)] rfl (by (try simp only [List.map_toArray, List.map_cons, List.map_nil]); first | done | rfl) ?_; (with_reducible refine (hr_oneG gr A0 c0 l0 pt et _ _ _ _ HGo.out HY.out HL.out (Kd.C_below HR0.out ST.out.bl) HC0.out ST.out.br).mono ?_); rintro x_ w37 ⟨rfl, hbx, hgr⟩; refine ⟨_, rfl, ?_⟩; have STn := Aside0.mk (ST.out.step hbx hgr); clear ST hbx hgr; have ST := STn; clear STn)
  | ((with_reducible refine gate_dst (N := 39) rfl ?_); refine goesL_ (some 39) rfl rfl Try.func33 (by kernel_rfl) rfl #[.pointer (some ⟨gr, 0, none⟩)] rfl (by (try simp only [List.map_toArray, List.map_cons, List.map_nil]); first | done | rfl) ?_; (with_reducible refine (hr_oneG gr A0 c0 l0 po eo _ _ _ _ HGr.out HY.out HL.out (Kd.C_below HR0.out ST.out.bl) HC0.out ST.out.br).mono ?_); rintro x_ w39 ⟨rfl, hbx, hgr⟩; refine ⟨_, rfl, ?_⟩; have STn := Aside0.mk (ST.out.step hbx hgr); clear ST hbx hgr; have ST := STn; clear STn)
  | ((with_reducible refine gate_dst (N := 41) rfl ?_); refine goesL_ (some 41) rfl rfl Try.func34 (by kernel_rfl) rfl #[.pointer (some ⟨gr, 0, none⟩)] rfl (by (try simp only [List.map_toArray, List.map_cons, List.map_nil]); first | done | rfl) ?_; (with_reducible refine (hr_eightG gr A0 c0 l0 pr er _ _ _ _ HGd.out HY.out HL.out (Kd.C_below HR0.out ST.out.bl) HC0.out ST.out.br).mono ?_); rintro x_ w41 ⟨rfl, hbx, hgr⟩; refine ⟨_, rfl, ?_⟩; have STn := Aside0.mk (ST.out.step hbx hgr); clear ST hbx hgr; have ST := STn; clear STn; obtain ⟨⟨z0, z1, z2, z3, z4, z5⟩, zf0, zf1, zf2, zf3, zf4, zf5⟩ := cells6 ST.out.b9)
  | ((with_reducible refine gate_dst (N := 47) rfl ?_); clear z0 zf0 z1 zf1 z2 zf2 z3 zf3 z4 zf4 z5 zf5; have STp := Aside0.mk (HpSt.put (HpSt.put (HpSt.put (HpSt.put ST.out 1 (.int .i64 t) rfl) 2 (.int .i64 o) rfl) 3 (.int .i64 r) rfl) 4 (.int .i64 d) rfl); clear ST; have ST := STp; clear STp; refine goesL_ (some 47) rfl rfl Try.func33 (by kernel_rfl) rfl #[.pointer (some ⟨gr, 0, none⟩)] rfl (by (try simp only [List.map_toArray, List.map_cons, List.map_nil]); first | done | rfl) ?_; (with_reducible refine (hr_oneG gr A0 c0 l0 pd ed _ _ _ _ HGi.out HY.out HL.out (Kd.C_below HR0.out ST.out.bl) HC0.out ST.out.br).mono ?_); rintro x_ w47 ⟨rfl, hbx, hgr⟩; refine ⟨_, rfl, ?_⟩; have STn := Aside0.mk (ST.out.step hbx hgr); clear ST hbx hgr; have ST := STn; clear STn; obtain ⟨⟨x0, x1, x2, x3, x4, x5⟩, xf0, xf1, xf2, xf3, xf4, xf5⟩ := cells6 ST.out.b9))
 have STn := Aside0.mk (HpSt.put ST.out 5 (.int .i64 i) (cs2 := #[.bool false, .int .i64 t, .int .i64 o, .int .i64 r, .int .i64 d, .int .i64 i]) rfl)
 clear ST
 have ST := STn
 clear STn x0 xf0 x1 xf1 x2 xf2 x3 xf3 x4 xf4 x5 xf5
 clear v0 vf0 v1 vf1 v2 vf2
 clear y0 yf0 y1 yf1 y2 yf2 y3 yf3 y4 yf4 y5 yf5
 generalize (w47.setCell ⟨g9, 5, none⟩ (.int .i64 i)) = wr at ST ⊢
 obtain ⟨⟨v0, v1, v2⟩, vf0, vf1, vf2⟩ := cells3 ST.out.br
 obtain ⟨⟨y0, y1, y2, y3, y4, y5⟩, yf0, yf1, yf2, yf3, yf4, yf5⟩ := cells6 ST.out.b9
 go_upto_region 13 with ((go_at_call 19; (with_reducible refine (height_Check.calls K false t o r d i 0 _ HK.out).mono ?_); rintro x_ ws ⟨rfl, hb⟩; have STn := Aside0.mk (HpSt.below ST.out hb); clear ST hb; have ST := STn; clear STn; obtain ⟨⟨s0, s1, s2⟩, sf0, sf1, sf2⟩ := cells3 ST.out.br))
 clear v0 vf0 v1 vf1 v2 vf2 y0 yf0 y1 yf1 y2 yf2 y3 yf3 y4 yf4 y5 yf5 s0 sf0 s1 sf1 s2 sf2
 have STd := Aside0.mk (HpSt.drew ST.out)
 clear ST
 have ST := STd
 clear STd
 refine start_ (n := 8) (S := fun w' => w'.cell? ⟨g9, 0, none⟩ = some (.bool false) ∧ w'.cell? ⟨g9, 1, none⟩ = some (.int .i64 t) ∧ w'.cell? ⟨g9, 2, none⟩ = some (.int .i64 o) ∧ w'.cell? ⟨g9, 3, none⟩ = some (.int .i64 r) ∧ w'.cell? ⟨g9, 4, none⟩ = some (.int .i64 d) ∧ w'.cell? ⟨g9, 5, none⟩ = some (.int .i64 i) ∧ w'.cell? ⟨gr, 1, none⟩ = some (.int .i64 pi)) (ds := []) #[false, false, false, false, false, false, false, false] (by kernel_rfl) rfl rfl ⟨(blk_cell ST.out.b9 0).trans rfl, (blk_cell ST.out.b9 1).trans rfl, (blk_cell ST.out.b9 2).trans rfl, (blk_cell ST.out.b9 3).trans rfl, (blk_cell ST.out.b9 4).trans rfl, (blk_cell ST.out.b9 5).trans rfl, (blk_cell ST.out.br 1).trans rfl⟩ (fun hHeld => ?_); refine with_tabW height_Parse.tab13 height_Parse.bits13 (fun HT_ HW_ => ?_)
 generalize ws.drew = wd at ST hHeld ⊢
 obtain ⟨⟨o0, o1, o2, o3, o4, o5⟩, of0, of1, of2, of3, of4, of5⟩ := cells6 ST.out.b4
 have n94 : g9 ≠ g4 := ST.out.d49.symm
 have nr4 : gr ≠ g4 := (blk_ne ST.out.br ST.out.b4 (by decide))
 refine pure_ (i := 1) (N := some 73) (v := ?_) (a' := ?_) #[false, true, false, false, false, false, false, false] rfl rfl (any_of HT_.out (by kernel_rfl)) (fun _ _ _ h => h) (Or.inl ⟨by rfl, ?_⟩) ?_ ?_
 rotate_left
 ·intro w'
  go_simp
  with_reducible rfl
 rotate_left
 ·simp only [Act.put, List.setIfInBounds_toArray, List.set_cons_zero, List.set_cons_succ, i64_w, i32_w]
  rfl
 refine pure_ (i := 2) (N := some 74) (v := ?_) (a' := ?_) #[false, true, true, false, false, false, false, false] rfl rfl (any_of HT_.out (by kernel_rfl)) (fun _ _ _ h => h) (Or.inl ⟨by rfl, ?_⟩) ?_ ?_
 rotate_left
 ·intro w'
  go_simp
  with_reducible rfl
 rotate_left
 ·simp only [Act.put, List.setIfInBounds_toArray, List.set_cons_zero, List.set_cons_succ, i64_w, i32_w]
  rfl
 refine pure_ (i := 3) (N := some 75) (v := ?_) (a' := ?_) #[false, true, true, true, false, false, false, false] rfl rfl (any_of HT_.out (by kernel_rfl)) (fun _ _ _ h => h) (Or.inl ⟨by rfl, ?_⟩) ?_ ?_
 rotate_left
 ·intro w'
  go_simp
  with_reducible rfl
 rotate_left
 ·simp only [Act.put, List.setIfInBounds_toArray, List.set_cons_zero, List.set_cons_succ, i64_w, i32_w]
  rfl
 refine take_ (i := 0) (N := some 72) (v := ?_) (a' := ?_) #[true, true, true, true, false, false, false, false] rfl rfl (take_ofW HT_.out HW_.out (by kernel_rfl)) (fun _ _ _ h => h) (Or.inl ⟨by rfl, ?_⟩) hHeld ?_ ?_
 rotate_left
 ·rintro w' ⟨s0, s1, s2, s3, s4, s5, s6⟩
  go_simp
  with_reducible rfl
 rotate_left
 ·simp only [Act.put, List.setIfInBounds_toArray, List.set_cons_zero, List.set_cons_succ, i64_w, i32_w]
  rfl
 refine take_ (i := 4) (N := some 76) (v := ?_) (a' := ?_) #[true, true, true, true, true, false, false, false] rfl rfl (take_ofW HT_.out HW_.out (by kernel_rfl)) (fun _ _ _ h => h) (Or.inl ⟨by rfl, ?_⟩) hHeld ?_ ?_
 rotate_left
 ·rintro w' ⟨s0, s1, s2, s3, s4, s5, s6⟩
  go_simp
  with_reducible rfl
 rotate_left
 ·simp only [Act.put, List.setIfInBounds_toArray, List.set_cons_zero, List.set_cons_succ, i64_w, i32_w]
  rfl
 refine one_ (i := 5) (N := none) #[true, true, true, true, true, true, false, false] rfl rfl (one_of HT_.out (by kernel_rfl)) (by decide) (fun K hK => ?_)
 refine skip_ (w1 := ?_) (by rfl) rfl ?_ ?_
 rotate_left
 ·go_simp
  rfl
 refine hK.out _ _ ?_ (fun hHeld2 => ?_)
 ·refine ⟨?_, ?_, ?_, ?_, ?_, ?_, ?_⟩
  ·(repeat (first | refine (cell_far n94 _).trans ?_ | refine (cell_far nr4 _).trans ?_)); exact hHeld.1
  ·(repeat (first | refine (cell_far n94 _).trans ?_ | refine (cell_far nr4 _).trans ?_)); exact hHeld.2.1
  ·(repeat (first | refine (cell_far n94 _).trans ?_ | refine (cell_far nr4 _).trans ?_)); exact hHeld.2.2.1
  ·(repeat (first | refine (cell_far n94 _).trans ?_ | refine (cell_far nr4 _).trans ?_)); exact hHeld.2.2.2.1
  ·(repeat (first | refine (cell_far n94 _).trans ?_ | refine (cell_far nr4 _).trans ?_)); exact hHeld.2.2.2.2.1
  ·(repeat (first | refine (cell_far n94 _).trans ?_ | refine (cell_far nr4 _).trans ?_)); exact hHeld.2.2.2.2.2.1
  ·(repeat (first | refine (cell_far n94 _).trans ?_ | refine (cell_far nr4 _).trans ?_)); exact hHeld.2.2.2.2.2.2
 clear hHeld
 have hHeld := hHeld2
 clear hHeld2
 clear hK K
 refine pure_ (i := 6) (N := some 5) (v := ?_) (a' := ?_) #[true, true, true, true, true, true, true, false] rfl rfl (any_of HT_.out (by kernel_rfl)) (fun _ _ _ h => h) (Or.inl ⟨by rfl, ?_⟩) ?_ ?_
 rotate_left
 ·intro w'
  go_simp
  with_reducible rfl
 rotate_left
 ·simp only [Act.put, List.setIfInBounds_toArray, List.set_cons_zero, List.set_cons_succ, i64_w, i32_w]
  rfl
 refine pure_ (i := 7) (N := some 6) (v := ?_) (a' := ?_) #[true, true, true, true, true, true, true, true] rfl rfl (any_of HT_.out (by kernel_rfl)) (fun _ _ _ h => h) (Or.inl ⟨by rfl, ?_⟩) ?_ ?_
 rotate_left
 ·intro w'
  go_simp
  with_reducible rfl
 rotate_left
 ·simp only [Act.put, List.setIfInBounds_toArray, List.set_cons_zero, List.set_cons_succ, i64_w, i32_w]
  rfl
 refine done_ (done_of HT_.out (by kernel_rfl)) ?_
 clear HT_ HW_
 try go_wp2
 refine bodyPost_ret (results_ctt rfl _ _ g4 23 #[.bool false, .int .i64 t, .int .i64 o, .int .i64 r, .int .i64 d, .int .i64 i] (0, 0) _ rfl (blk_put (blk_put (blk_put (blk_put (blk_put (blk_put ST.out.b4 0 (.bool false) rfl) 1 (.int .i64 t) rfl) 2 (.int .i64 o) rfl) 3 (.int .i64 r) rfl) 4 (.int .i64 d) rfl) 5 (.int .i64 i) (cs' := #[.bool false, .int .i64 t, .int .i64 o, .int .i64 r, .int .i64 d, .int .i64 i]) rfl) Try.underlying23 rfl (by kernel_rfl)) rfl ?_
 exact ⟨rfl, (below_set (below_set (below_set (below_set (below_set (below_set ST.out.bl ST.out.n4) ST.out.n4) ST.out.n4) ST.out.n4) ST.out.n4) ST.out.n4)⟩
theorem rdStep_bad {G : Int × Int × Int} {a v p e : Int} (h : rdStep G a 0 = (v, p, e)) (he : ¬ e = 0) : v = 0 := by
 unfold rdStep at h
 rw [if_pos rfl] at h
 split at h
 ·simp only [Prod.mk.injEq] at h
  exact absurd h.2.2.symm he
 ·simp only [Prod.mk.injEq] at h
  exact h.1.symm
theorem rdStep_stay {G : Int × Int × Int} {a e0 v p e : Int} (h0 : ¬ e0 = 0) (h : rdStep G a e0 = (v, p, e)) : e = e0 := by
 unfold rdStep at h
 rw [if_neg h0] at h
 simp only [Prod.mk.injEq] at h
 exact h.2.2.symm
theorem height_Parse.calls (A0 : Option Addr) (c0 : Nat) (l0 : List Int) (a1 : Int) (r1 : Bool) (r2 r3 r4 r5 r6 r7 r8 : Int) (w : World) (hr0 : Kd.C (Kd.int .u8) w A0 l0.length l0) (hc0 : l0.length ≤ c0) (h : height_Parse.f l0 a1 = some (r1, r2, r3, r4, r5, r6, r7, r8)) :
  Calls Try.prog 29 #[.slice A0 l0.length c0, .int .i64 a1] w fun e w' => e = .returned (.tuple #[.agg #[.bool r1, .int .i64 r2, .int .i64 r3, .int .i64 r4, .int .i64 r5, .int .i64 r6], .int .i64 r7, .int .i64 r8]) ∧ Below w.heap.size w w' := by
 obtain ⟨hL, hB, hP⟩ : l0.length ≤ 1000000000000 ∧ Bytes l0 ∧ hpGo l0 a1 = (r1, r2, r3, r4, r5, r6, r7, r8) := by
  unfold height_Parse.f at h
  split at h
  ·rename_i hc
   exact ⟨hc.1, hc.2, Option.some.inj h⟩
  ·exact absurd h (by simp)
 clear h
 obtain ⟨k, p1, e1, hk1⟩ : ∃ k p1 e1, rd1 l0 1 a1 0 = (k, p1, e1) := ⟨_, _, _, rfl⟩
 unfold hpGo at hP
 simp only [hk1] at hP
 by_cases he : e1 = 0
 ·by_cases hk : k = 0
  ·rw [if_pos hk] at hP
   have hz : hpErr k e1 = 0 := by unfold hpErr; rw [if_pos he, if_neg (by omega)]
   rw [hz] at hP
   obtain ⟨i, pi, ei, hi⟩ : ∃ i pi ei, rd1 l0 1 p1 0 = (i, pi, ei) := ⟨_, _, _, rfl⟩
   simp only [hi, hpFin] at hP
   by_cases hf : ei = 0
   ·rw [if_pos hf] at hP
    by_cases hr : RH true 0 0 0 0 i
    ·rw [if_pos hr] at hP
     simp only [Prod.mk.injEq] at hP
     obtain ⟨rfl, rfl, rfl, rfl, rfl, rfl, rfl, rfl⟩ := hP
     exact hp_n_yes A0 c0 l0 a1 w k p1 e1 i pi ei hL hB hr0 hc0 hk1 he hk (by omega) hi hf hr
    ·rw [if_neg hr] at hP
     simp only [hpNo, Prod.mk.injEq] at hP
     obtain ⟨rfl, rfl, rfl, rfl, rfl, rfl, rfl, rfl⟩ := hP
     exact hp_n_no A0 c0 l0 a1 w k p1 e1 i pi ei hL hB hr0 hc0 hk1 he hk (by omega) hi hf hr
   ·rw [if_neg hf] at hP
    simp only [hpNo, Prod.mk.injEq] at hP
    obtain ⟨rfl, rfl, rfl, rfl, rfl, rfl, rfl, rfl⟩ := hP
    exact hp_n_e A0 c0 l0 a1 w k p1 e1 i pi _ hL hB hr0 hc0 hk1 he hk (by omega) hi hf
  ·rw [if_neg hk] at hP
   by_cases hg : 1 < k
   ·have hz : hpErr k e1 = 4 := by unfold hpErr; rw [if_pos he, if_pos hg]
    rw [hz] at hP
    obtain ⟨t, pt, et, ht⟩ : ∃ t pt et, rd8 l0 p1 4 = (t, pt, et) := ⟨_, _, _, rfl⟩
    obtain ⟨o, po, eo, ho⟩ : ∃ o po eo, rd1 l0 1 pt et = (o, po, eo) := ⟨_, _, _, rfl⟩
    obtain ⟨r, pr, er, hr⟩ : ∃ r pr er, rd1 l0 1 po eo = (r, pr, er) := ⟨_, _, _, rfl⟩
    obtain ⟨d, pd, ed, hd⟩ : ∃ d pd ed, rd8 l0 pr er = (d, pd, ed) := ⟨_, _, _, rfl⟩
    obtain ⟨i, pi, ei, hi⟩ : ∃ i pi ei, rd1 l0 1 pd ed = (i, pi, ei) := ⟨_, _, _, rfl⟩
    simp only [ht, ho, hr, hd, hi, hpFin] at hP
    have h1 : et = 4 := rdStep_stay (by decide) ht
    have h2 : eo = et := rdStep_stay (by omega) ho
    have h3 : er = eo := rdStep_stay (by omega) hr
    have h4 : ed = er := rdStep_stay (by omega) hd
    have h5 : ei = ed := rdStep_stay (by omega) hi
    have hf : ¬ ei = 0 := by omega
    rw [if_neg hf] at hP
    simp only [hpNo, Prod.mk.injEq] at hP
    obtain ⟨rfl, rfl, rfl, rfl, rfl, rfl, rfl, rfl⟩ := hP
    exact hp_gt A0 c0 l0 a1 w k p1 e1 t pt et o po eo r pr er d pd ed i pi _ hL hB hr0 hc0 hk1 he hk hg ht ho hr hd hi hf
   ·have hz : hpErr k e1 = 0 := by unfold hpErr; rw [if_pos he, if_neg hg]
    rw [hz] at hP
    obtain ⟨t, pt, et, ht⟩ : ∃ t pt et, rd8 l0 p1 0 = (t, pt, et) := ⟨_, _, _, rfl⟩
    obtain ⟨o, po, eo, ho⟩ : ∃ o po eo, rd1 l0 1 pt et = (o, po, eo) := ⟨_, _, _, rfl⟩
    obtain ⟨r, pr, er, hr⟩ : ∃ r pr er, rd1 l0 1 po eo = (r, pr, er) := ⟨_, _, _, rfl⟩
    obtain ⟨d, pd, ed, hd⟩ : ∃ d pd ed, rd8 l0 pr er = (d, pd, ed) := ⟨_, _, _, rfl⟩
    obtain ⟨i, pi, ei, hi⟩ : ∃ i pi ei, rd1 l0 1 pd ed = (i, pi, ei) := ⟨_, _, _, rfl⟩
    simp only [ht, ho, hr, hd, hi, hpFin] at hP
    by_cases hf : ei = 0
    ·rw [if_pos hf] at hP
     by_cases hrh : RH false t o r d i
     ·rw [if_pos hrh] at hP
      simp only [Prod.mk.injEq] at hP
      obtain ⟨rfl, rfl, rfl, rfl, rfl, rfl, rfl, rfl⟩ := hP
      exact hp_k_yes A0 c0 l0 a1 w k p1 e1 _ pt et _ po eo _ pr er _ pd ed _ _ ei hL hB hr0 hc0 hk1 he hk hg ht ho hr hd hi hf hrh
     ·rw [if_neg hrh] at hP
      simp only [hpNo, Prod.mk.injEq] at hP
      obtain ⟨rfl, rfl, rfl, rfl, rfl, rfl, rfl, rfl⟩ := hP
      exact hp_k_no A0 c0 l0 a1 w k p1 e1 t pt et o po eo r pr er d pd ed i pi ei hL hB hr0 hc0 hk1 he hk hg ht ho hr hd hi hf hrh
    ·rw [if_neg hf] at hP
     simp only [hpNo, Prod.mk.injEq] at hP
     obtain ⟨rfl, rfl, rfl, rfl, rfl, rfl, rfl, rfl⟩ := hP
     exact hp_k_e A0 c0 l0 a1 w k p1 e1 t pt et o po eo r pr er d pd ed i pi _ hL hB hr0 hc0 hk1 he hk hg ht ho hr hd hi hf
 ·have hk : k = 0 := rdStep_bad hk1 he
  rw [if_pos hk] at hP
  have hz : hpErr k e1 = e1 := by unfold hpErr; rw [if_neg he]
  rw [hz] at hP
  obtain ⟨i, pi, ei, hi⟩ : ∃ i pi ei, rd1 l0 1 p1 e1 = (i, pi, ei) := ⟨_, _, _, rfl⟩
  have h5 : ei = e1 := rdStep_stay he hi
  have hf : ¬ ei = 0 := by omega
  simp only [hi, hpFin] at hP
  rw [if_neg hf] at hP
  simp only [hpNo, Prod.mk.injEq] at hP
  obtain ⟨rfl, rfl, rfl, rfl, rfl, rfl, rfl, rfl⟩ := hP
  exact hp_bad A0 c0 l0 a1 w k p1 e1 i pi _ hL hB hr0 hc0 hk1 hk he hi hf
theorem grown_new {w w1 : World} {g g2 i : Nat} {u : Value} (h : w.grownBy w1 (some g)) (h2 : w.heap.size ≤ g2) : w.grownBy (w1.setCell ⟨g2, i, none⟩ u) (some g) :=
 ⟨h.os, h.tape, h.output, by simpa [World.setCell] using h.size, fun k hk hn => (Below.heap_setCell w1 ⟨g2, i, none⟩ u k (fun e => by simp only at e; omega)).trans (h.block k hk hn)⟩
def rdN (l : List Int) (n at_ e : Int) : Int × Int × Int := if n = 8 then rd8 l at_ e else rd1 l n at_ e
theorem or_numE (g : Nat) (A : Option Addr) (n c : Nat) (at_ e sz : Int) (w : World) (he : ¬ e = 0) (hb : w.heap[g]? = some (.cells (RdC A n c at_ e) 51 (0, 0))) :
  Calls Try.prog 23 #[.pointer (some ⟨g, 0, none⟩), .int .i64 sz] w fun x w' => x = .returned (.int .i64 0) ∧ w' = w := by
 have h1 : w.cell? ⟨g, 2, none⟩ = some (.int .i64 e) := (blk_cell hb 2).trans rfl
 have b0 : (e != 0) = true := bne_iff_ne.mpr he
 clear hb he
 go_enter Try.func23, Try.ntmps23
 go_wp2
 go_ret
 exact ⟨rfl, rfl⟩
def or_num8.T5 : Bool × List (List Nat × List Nat) := (true, [([], []), ([0], [0]), ([1], [1]), ([2], [2]), ([], []), ([4], [4]), ([5], [5]), ([6], [6]), ([3, 7], [3, 7]), ([8], [8]), ([9], [9]), ([9], [9]), ([9], [9]), ([10, 8, 0, 1, 2, 3, 4, 5, 6, 7, 8, 9, 10], [10]), ([11, 13, 0, 1, 2, 3, 4, 5, 6, 7, 8, 9, 10, 11, 13], [11]), ([12, 14, 0, 1, 2, 3, 4, 5, 6, 7, 8, 9, 10, 11, 12, 13, 14], [12])])
def or_num8.B5 : List Nat := [0, 1, 3, 7, 0, 16, 48, 112, 255, 511, 1023, 1023, 1023, 2047, 12287, 32767]
theorem or_num8.tab5 : rtab .any (opsOf Try.f23 5) = or_num8.T5 := by kernel_rfl
theorem or_num8.bits5 : waitsOk or_num8.T5.2 or_num8.B5 = true := by kernel_rfl
theorem or_num8 (g : Nat) (A : Option Addr) (c : Nat) (l : List Int) (at_ e s1 s2 s3 : Int) (w : World) (he : e = 0) (hG : getIntSpec l at_ = (s1, s2, s3)) (hs : s3 = 0) (hB : Bytes l) (hl : l.length ≤ 1000000000000) (hr : Kd.C (Kd.int .u8) w A l.length l) (hc : l.length ≤ c) (hb : w.heap[g]? = some (.cells (RdC A l.length c at_ e) 51 (0, 0))) :
  Calls Try.prog 23 #[.pointer (some ⟨g, 0, none⟩), .int .i64 8] w fun x w' => x = .returned (.int .i64 s1) ∧ w'.heap[g]? = some (.cells (RdC A l.length c s2 0) 51 (0, 0)) ∧ w.grownBy w' (some g) := by
 subst he
 have h2 : w.cell? ⟨g, 2, none⟩ = some (.int .i64 0) := (blk_cell hb 2).trans rfl
 have HBB := Aside0.mk hb
 have HG := Aside0.mk (show wire_GetInt.f l at_ = some (s1, s2, s3) by rw [wire_GetInt_eq _ _ hB hl, hG])
 have HR := Aside0.mk hr
 have HC := Aside0.mk hc
 subst hs
 skip
 clear hG hb hr hc hB hl
 go_enter Try.func23, Try.ntmps23
 go_upto_region 5 with (fail)
 clear h2
 refine start_ (n := 16) (S := fun w' => w'.cell? ⟨g, 0, none⟩ = some (.slice A l.length c) ∧ w'.cell? ⟨g, 1, none⟩ = some (.int .i64 at_)) (ds := []) #[false, false, false, false, false, false, false, false, false, false, false, false, false, false, false, false] (by kernel_rfl) rfl rfl ⟨(blk_cell HBB.out 0).trans rfl, (blk_cell HBB.out 1).trans rfl⟩ (fun hHeld => ?_); refine with_tabW or_num8.tab5 or_num8.bits5 (fun HT_ HW_ => ?_)
 refine pure_ (i := 0) (N := some 16) (v := ?_) (a' := ?_) #[true, false, false, false, false, false, false, false, false, false, false, false, false, false, false, false] rfl rfl (any_of HT_.out (by kernel_rfl)) (fun _ _ _ h => h) (Or.inl ⟨by rfl, ?_⟩) ?_ ?_
 rotate_left
 ·intro w'
  go_simp
  with_reducible rfl
 rotate_left
 ·simp only [Act.put, List.setIfInBounds_toArray, List.set_cons_zero, List.set_cons_succ, i64_w, i32_w]
  rfl
 refine pure_ (i := 1) (N := some 17) (v := ?_) (a' := ?_) #[true, true, false, false, false, false, false, false, false, false, false, false, false, false, false, false] rfl rfl (any_of HT_.out (by kernel_rfl)) (fun _ _ _ h => h) (Or.inl ⟨by rfl, ?_⟩) ?_ ?_
 rotate_left
 ·intro w'
  go_simp
  with_reducible rfl
 rotate_left
 ·simp only [Act.put, List.setIfInBounds_toArray, List.set_cons_zero, List.set_cons_succ, i64_w, i32_w]
  rfl
 refine pure_ (i := 2) (N := some 18) (v := ?_) (a' := ?_) #[true, true, true, false, false, false, false, false, false, false, false, false, false, false, false, false] rfl rfl (any_of HT_.out (by kernel_rfl)) (fun _ _ _ h => h) (Or.inl ⟨by rfl, ?_⟩) ?_ ?_
 rotate_left
 ·intro w'
  go_simp
  with_reducible rfl
 rotate_left
 ·simp only [Act.put, List.setIfInBounds_toArray, List.set_cons_zero, List.set_cons_succ, i64_w, i32_w]
  rfl
 refine pure_ (i := 4) (N := some 20) (v := ?_) (a' := ?_) #[true, true, true, false, true, false, false, false, false, false, false, false, false, false, false, false] rfl rfl (any_of HT_.out (by kernel_rfl)) (fun _ _ _ h => h) (Or.inl ⟨by rfl, ?_⟩) ?_ ?_
 rotate_left
 ·intro w'
  go_simp
  with_reducible rfl
 rotate_left
 ·simp only [Act.put, List.setIfInBounds_toArray, List.set_cons_zero, List.set_cons_succ, i64_w, i32_w]
  rfl
 refine pure_ (i := 5) (N := some 21) (v := ?_) (a' := ?_) #[true, true, true, false, true, true, false, false, false, false, false, false, false, false, false, false] rfl rfl (any_of HT_.out (by kernel_rfl)) (fun _ _ _ h => h) (Or.inl ⟨by rfl, ?_⟩) ?_ ?_
 rotate_left
 ·intro w'
  go_simp
  with_reducible rfl
 rotate_left
 ·simp only [Act.put, List.setIfInBounds_toArray, List.set_cons_zero, List.set_cons_succ, i64_w, i32_w]
  rfl
 refine pure_ (i := 6) (N := some 22) (v := ?_) (a' := ?_) #[true, true, true, false, true, true, true, false, false, false, false, false, false, false, false, false] rfl rfl (any_of HT_.out (by kernel_rfl)) (fun _ _ _ h => h) (Or.inl ⟨by rfl, ?_⟩) ?_ ?_
 rotate_left
 ·intro w'
  go_simp
  with_reducible rfl
 rotate_left
 ·simp only [Act.put, List.setIfInBounds_toArray, List.set_cons_zero, List.set_cons_succ, i64_w, i32_w]
  rfl
 refine take_ (i := 3) (N := some 19) (v := ?_) (a' := ?_) #[true, true, true, true, true, true, true, false, false, false, false, false, false, false, false, false] rfl rfl (take_ofW HT_.out HW_.out (by kernel_rfl)) (fun _ _ _ h => h) (Or.inl ⟨by rfl, ?_⟩) hHeld ?_ ?_
 rotate_left
 ·rintro w' ⟨s0, s1⟩
  go_simp
  with_reducible rfl
 rotate_left
 ·simp only [Act.put, List.setIfInBounds_toArray, List.set_cons_zero, List.set_cons_succ, i64_w, i32_w]
  rfl
 refine take_ (i := 7) (N := some 23) (v := ?_) (a' := ?_) #[true, true, true, true, true, true, true, true, false, false, false, false, false, false, false, false] rfl rfl (take_ofW HT_.out HW_.out (by kernel_rfl)) (fun _ _ _ h => h) (Or.inl ⟨by rfl, ?_⟩) hHeld ?_ ?_
 rotate_left
 ·rintro w' ⟨s0, s1⟩
  go_simp
  with_reducible rfl
 rotate_left
 ·simp only [Act.put, List.setIfInBounds_toArray, List.set_cons_zero, List.set_cons_succ, i64_w, i32_w]
  rfl
 refine one_ (i := 8) (N := some 24) #[true, true, true, true, true, true, true, true, true, false, false, false, false, false, false, false] rfl rfl (one_of HT_.out (by kernel_rfl)) (by decide) (fun K hK => ?_)
 refine goes_ Try.func27 (by kernel_rfl) rfl #[.slice A l.length c, .int .i64 at_] (by rfl) rfl rfl (by simp only [List.map_toArray, List.map_cons, List.map_nil]; rfl) ?_
 with_reducible refine (wire_GetInt.calls A c l at_ _ _ _ _ (Kd.C_below HR.out (below_drew (Below.refl _ _))) HC.out HG.out).mono ?_
 rintro e w7 ⟨rfl, hb7⟩
 refine ⟨_, rfl, ?_⟩
 have HB7 := Aside0.mk hb7
 have BX7 := Aside0.mk (blk_below (w := w.drew) HBB.out hb7)
 clear hb7
 refine hK.out _ _ ⟨(blk_cell BX7.out 0).trans rfl, (blk_cell BX7.out 1).trans rfl⟩ (fun hHeld => ?_)
 clear hK K
 refine norm_ (a' := ?_) ?_ ?_
 rotate_left
 ·show Act.put _ (some 24) _ = _
  simp only [Act.put, List.setIfInBounds_toArray, List.set_cons_zero, List.set_cons_succ, i64_w, i32_w]
  rfl
 refine pure_ (i := 9) (N := some 15) (v := ?_) (a' := ?_) #[true, true, true, true, true, true, true, true, true, true, false, false, false, false, false, false] rfl rfl (any_of HT_.out (by kernel_rfl)) (fun _ _ _ h => h) (Or.inl ⟨by rfl, ?_⟩) ?_ ?_
 rotate_left
 ·intro w'
  go_simp
  with_reducible rfl
 rotate_left
 ·simp only [Act.put, List.setIfInBounds_toArray, List.set_cons_zero, List.set_cons_succ, i64_w, i32_w]
  rfl
 refine pure_ (i := 10) (N := some 25) (v := ?_) (a' := ?_) #[true, true, true, true, true, true, true, true, true, true, true, false, false, false, false, false] rfl rfl (any_of HT_.out (by kernel_rfl)) (fun _ _ _ h => h) (Or.inl ⟨by rfl, ?_⟩) ?_ ?_
 rotate_left
 ·intro w'
  go_simp
  with_reducible rfl
 rotate_left
 ·simp only [Act.put, List.setIfInBounds_toArray, List.set_cons_zero, List.set_cons_succ, i64_w, i32_w]
  rfl
 refine pure_ (i := 11) (N := some 26) (v := ?_) (a' := ?_) #[true, true, true, true, true, true, true, true, true, true, true, true, false, false, false, false] rfl rfl (any_of HT_.out (by kernel_rfl)) (fun _ _ _ h => h) (Or.inl ⟨by rfl, ?_⟩) ?_ ?_
 rotate_left
 ·intro w'
  go_simp
  with_reducible rfl
 rotate_left
 ·simp only [Act.put, List.setIfInBounds_toArray, List.set_cons_zero, List.set_cons_succ, i64_w, i32_w]
  rfl
 refine pure_ (i := 12) (N := some 27) (v := ?_) (a' := ?_) #[true, true, true, true, true, true, true, true, true, true, true, true, true, false, false, false] rfl rfl (any_of HT_.out (by kernel_rfl)) (fun _ _ _ h => h) (Or.inl ⟨by rfl, ?_⟩) ?_ ?_
 rotate_left
 ·intro w'
  go_simp
  with_reducible rfl
 rotate_left
 ·simp only [Act.put, List.setIfInBounds_toArray, List.set_cons_zero, List.set_cons_succ, i64_w, i32_w]
  rfl
 refine pure_ (i := 13) (N := some 5) (v := ?_) (a' := ?_) #[true, true, true, true, true, true, true, true, true, true, true, true, true, true, false, false] rfl rfl (any_of HT_.out (by kernel_rfl)) (fun _ _ _ h => h) (Or.inl ⟨by rfl, ?_⟩) ?_ ?_
 rotate_left
 ·intro w'
  go_simp
  with_reducible rfl
 rotate_left
 ·simp only [Act.put, List.setIfInBounds_toArray, List.set_cons_zero, List.set_cons_succ, i64_w, i32_w]
  rfl
 refine pure_ (i := 14) (N := some 6) (v := ?_) (a' := ?_) #[true, true, true, true, true, true, true, true, true, true, true, true, true, true, true, false] rfl rfl (any_of HT_.out (by kernel_rfl)) (fun _ _ _ h => h) (Or.inl ⟨by rfl, ?_⟩) ?_ ?_
 rotate_left
 ·intro w'
  go_simp
  with_reducible rfl
 rotate_left
 ·simp only [Act.put, List.setIfInBounds_toArray, List.set_cons_zero, List.set_cons_succ, i64_w, i32_w]
  rfl
 refine pure_ (i := 15) (N := some 7) (v := ?_) (a' := ?_) #[true, true, true, true, true, true, true, true, true, true, true, true, true, true, true, true] rfl rfl (any_of HT_.out (by kernel_rfl)) (fun _ _ _ h => h) (Or.inl ⟨by rfl, ?_⟩) ?_ ?_
 rotate_left
 ·intro w'
  go_simp
  with_reducible rfl
 rotate_left
 ·simp only [Act.put, List.setIfInBounds_toArray, List.set_cons_zero, List.set_cons_succ, i64_w, i32_w]
  rfl
 refine done_ (done_of HT_.out (by kernel_rfl)) ?_
 clear HT_ HW_ hHeld
 have k1 : w7.cell? ⟨g, 1, none⟩ = some (.int .i64 at_) := (blk_cell BX7.out 1).trans rfl
 have kf := blk_frozen BX7.out 1
 go_wp2
 go_ret
 exact ⟨rfl, blk_put BX7.out 1 _ rfl, grown_below (below_step (below_drew (Below.refl _ _)) HB7.out) (grown_set BX7.out _ _)⟩
def or_num8x.T5 : Bool × List (List Nat × List Nat) := (true, [([], []), ([0], [0]), ([1], [1]), ([2], [2]), ([], []), ([4], [4]), ([5], [5]), ([6], [6]), ([3, 7], [3, 7]), ([8], [8]), ([9], [9]), ([9], [9]), ([9], [9]), ([10, 8, 0, 1, 2, 3, 4, 5, 6, 7, 8, 9, 10], [10]), ([11, 13, 0, 1, 2, 3, 4, 5, 6, 7, 8, 9, 10, 11, 13], [11]), ([12, 14, 0, 1, 2, 3, 4, 5, 6, 7, 8, 9, 10, 11, 12, 13, 14], [12])])
def or_num8x.B5 : List Nat := [0, 1, 3, 7, 0, 16, 48, 112, 255, 511, 1023, 1023, 1023, 2047, 12287, 32767]
theorem or_num8x.tab5 : rtab .any (opsOf Try.f23 5) = or_num8x.T5 := by kernel_rfl
theorem or_num8x.bits5 : waitsOk or_num8x.T5.2 or_num8x.B5 = true := by kernel_rfl
theorem or_num8x (g : Nat) (A : Option Addr) (c : Nat) (l : List Int) (at_ e s1 s2 s3 : Int) (w : World) (he : e = 0) (hG : getIntSpec l at_ = (s1, s2, s3)) (hs : ¬ s3 = 0) (hB : Bytes l) (hl : l.length ≤ 1000000000000) (hr : Kd.C (Kd.int .u8) w A l.length l) (hc : l.length ≤ c) (hb : w.heap[g]? = some (.cells (RdC A l.length c at_ e) 51 (0, 0))) :
  Calls Try.prog 23 #[.pointer (some ⟨g, 0, none⟩), .int .i64 8] w fun x w' => x = .returned (.int .i64 0) ∧ w'.heap[g]? = some (.cells (RdC A l.length c at_ s3) 51 (0, 0)) ∧ w.grownBy w' (some g) := by
 subst he
 have h2 : w.cell? ⟨g, 2, none⟩ = some (.int .i64 0) := (blk_cell hb 2).trans rfl
 have HBB := Aside0.mk hb
 have HG := Aside0.mk (show wire_GetInt.f l at_ = some (s1, s2, s3) by rw [wire_GetInt_eq _ _ hB hl, hG])
 have HR := Aside0.mk hr
 have HC := Aside0.mk hc
 have b1 : (s3 != 0) = true := bne_iff_ne.mpr hs
 clear hs
 skip
 clear hG hb hr hc hB hl
 go_enter Try.func23, Try.ntmps23
 go_upto_region 5 with (fail)
 clear h2
 refine start_ (n := 16) (S := fun w' => w'.cell? ⟨g, 0, none⟩ = some (.slice A l.length c) ∧ w'.cell? ⟨g, 1, none⟩ = some (.int .i64 at_)) (ds := []) #[false, false, false, false, false, false, false, false, false, false, false, false, false, false, false, false] (by kernel_rfl) rfl rfl ⟨(blk_cell HBB.out 0).trans rfl, (blk_cell HBB.out 1).trans rfl⟩ (fun hHeld => ?_); refine with_tabW or_num8x.tab5 or_num8x.bits5 (fun HT_ HW_ => ?_)
 refine pure_ (i := 0) (N := some 16) (v := ?_) (a' := ?_) #[true, false, false, false, false, false, false, false, false, false, false, false, false, false, false, false] rfl rfl (any_of HT_.out (by kernel_rfl)) (fun _ _ _ h => h) (Or.inl ⟨by rfl, ?_⟩) ?_ ?_
 rotate_left
 ·intro w'
  go_simp
  with_reducible rfl
 rotate_left
 ·simp only [Act.put, List.setIfInBounds_toArray, List.set_cons_zero, List.set_cons_succ, i64_w, i32_w]
  rfl
 refine pure_ (i := 1) (N := some 17) (v := ?_) (a' := ?_) #[true, true, false, false, false, false, false, false, false, false, false, false, false, false, false, false] rfl rfl (any_of HT_.out (by kernel_rfl)) (fun _ _ _ h => h) (Or.inl ⟨by rfl, ?_⟩) ?_ ?_
 rotate_left
 ·intro w'
  go_simp
  with_reducible rfl
 rotate_left
 ·simp only [Act.put, List.setIfInBounds_toArray, List.set_cons_zero, List.set_cons_succ, i64_w, i32_w]
  rfl
 refine pure_ (i := 2) (N := some 18) (v := ?_) (a' := ?_) #[true, true, true, false, false, false, false, false, false, false, false, false, false, false, false, false] rfl rfl (any_of HT_.out (by kernel_rfl)) (fun _ _ _ h => h) (Or.inl ⟨by rfl, ?_⟩) ?_ ?_
 rotate_left
 ·intro w'
  go_simp
  with_reducible rfl
 rotate_left
 ·simp only [Act.put, List.setIfInBounds_toArray, List.set_cons_zero, List.set_cons_succ, i64_w, i32_w]
  rfl
 refine pure_ (i := 4) (N := some 20) (v := ?_) (a' := ?_) #[true, true, true, false, true, false, false, false, false, false, false, false, false, false, false, false] rfl rfl (any_of HT_.out (by kernel_rfl)) (fun _ _ _ h => h) (Or.inl ⟨by rfl, ?_⟩) ?_ ?_
 rotate_left
 ·intro w'
  go_simp
  with_reducible rfl
 rotate_left
 ·simp only [Act.put, List.setIfInBounds_toArray, List.set_cons_zero, List.set_cons_succ, i64_w, i32_w]
  rfl
 refine pure_ (i := 5) (N := some 21) (v := ?_) (a' := ?_) #[true, true, true, false, true, true, false, false, false, false, false, false, false, false, false, false] rfl rfl (any_of HT_.out (by kernel_rfl)) (fun _ _ _ h => h) (Or.inl ⟨by rfl, ?_⟩) ?_ ?_
 rotate_left
 ·intro w'
  go_simp
  with_reducible rfl
 rotate_left
 ·simp only [Act.put, List.setIfInBounds_toArray, List.set_cons_zero, List.set_cons_succ, i64_w, i32_w]
  rfl
 refine pure_ (i := 6) (N := some 22) (v := ?_) (a' := ?_) #[true, true, true, false, true, true, true, false, false, false, false, false, false, false, false, false] rfl rfl (any_of HT_.out (by kernel_rfl)) (fun _ _ _ h => h) (Or.inl ⟨by rfl, ?_⟩) ?_ ?_
 rotate_left
 ·intro w'
  go_simp
  with_reducible rfl
 rotate_left
 ·simp only [Act.put, List.setIfInBounds_toArray, List.set_cons_zero, List.set_cons_succ, i64_w, i32_w]
  rfl
 refine take_ (i := 3) (N := some 19) (v := ?_) (a' := ?_) #[true, true, true, true, true, true, true, false, false, false, false, false, false, false, false, false] rfl rfl (take_ofW HT_.out HW_.out (by kernel_rfl)) (fun _ _ _ h => h) (Or.inl ⟨by rfl, ?_⟩) hHeld ?_ ?_
 rotate_left
 ·rintro w' ⟨s0, s1⟩
  go_simp
  with_reducible rfl
 rotate_left
 ·simp only [Act.put, List.setIfInBounds_toArray, List.set_cons_zero, List.set_cons_succ, i64_w, i32_w]
  rfl
 refine take_ (i := 7) (N := some 23) (v := ?_) (a' := ?_) #[true, true, true, true, true, true, true, true, false, false, false, false, false, false, false, false] rfl rfl (take_ofW HT_.out HW_.out (by kernel_rfl)) (fun _ _ _ h => h) (Or.inl ⟨by rfl, ?_⟩) hHeld ?_ ?_
 rotate_left
 ·rintro w' ⟨s0, s1⟩
  go_simp
  with_reducible rfl
 rotate_left
 ·simp only [Act.put, List.setIfInBounds_toArray, List.set_cons_zero, List.set_cons_succ, i64_w, i32_w]
  rfl
 refine one_ (i := 8) (N := some 24) #[true, true, true, true, true, true, true, true, true, false, false, false, false, false, false, false] rfl rfl (one_of HT_.out (by kernel_rfl)) (by decide) (fun K hK => ?_)
 refine goes_ Try.func27 (by kernel_rfl) rfl #[.slice A l.length c, .int .i64 at_] (by rfl) rfl rfl (by simp only [List.map_toArray, List.map_cons, List.map_nil]; rfl) ?_
 with_reducible refine (wire_GetInt.calls A c l at_ _ _ _ _ (Kd.C_below HR.out (below_drew (Below.refl _ _))) HC.out HG.out).mono ?_
 rintro e w7 ⟨rfl, hb7⟩
 refine ⟨_, rfl, ?_⟩
 have HB7 := Aside0.mk hb7
 have BX7 := Aside0.mk (blk_below (w := w.drew) HBB.out hb7)
 clear hb7
 refine hK.out _ _ ⟨(blk_cell BX7.out 0).trans rfl, (blk_cell BX7.out 1).trans rfl⟩ (fun hHeld => ?_)
 clear hK K
 refine norm_ (a' := ?_) ?_ ?_
 rotate_left
 ·show Act.put _ (some 24) _ = _
  simp only [Act.put, List.setIfInBounds_toArray, List.set_cons_zero, List.set_cons_succ, i64_w, i32_w]
  rfl
 refine pure_ (i := 9) (N := some 15) (v := ?_) (a' := ?_) #[true, true, true, true, true, true, true, true, true, true, false, false, false, false, false, false] rfl rfl (any_of HT_.out (by kernel_rfl)) (fun _ _ _ h => h) (Or.inl ⟨by rfl, ?_⟩) ?_ ?_
 rotate_left
 ·intro w'
  go_simp
  with_reducible rfl
 rotate_left
 ·simp only [Act.put, List.setIfInBounds_toArray, List.set_cons_zero, List.set_cons_succ, i64_w, i32_w]
  rfl
 refine pure_ (i := 10) (N := some 25) (v := ?_) (a' := ?_) #[true, true, true, true, true, true, true, true, true, true, true, false, false, false, false, false] rfl rfl (any_of HT_.out (by kernel_rfl)) (fun _ _ _ h => h) (Or.inl ⟨by rfl, ?_⟩) ?_ ?_
 rotate_left
 ·intro w'
  go_simp
  with_reducible rfl
 rotate_left
 ·simp only [Act.put, List.setIfInBounds_toArray, List.set_cons_zero, List.set_cons_succ, i64_w, i32_w]
  rfl
 refine pure_ (i := 11) (N := some 26) (v := ?_) (a' := ?_) #[true, true, true, true, true, true, true, true, true, true, true, true, false, false, false, false] rfl rfl (any_of HT_.out (by kernel_rfl)) (fun _ _ _ h => h) (Or.inl ⟨by rfl, ?_⟩) ?_ ?_
 rotate_left
 ·intro w'
  go_simp
  with_reducible rfl
 rotate_left
 ·simp only [Act.put, List.setIfInBounds_toArray, List.set_cons_zero, List.set_cons_succ, i64_w, i32_w]
  rfl
 refine pure_ (i := 12) (N := some 27) (v := ?_) (a' := ?_) #[true, true, true, true, true, true, true, true, true, true, true, true, true, false, false, false] rfl rfl (any_of HT_.out (by kernel_rfl)) (fun _ _ _ h => h) (Or.inl ⟨by rfl, ?_⟩) ?_ ?_
 rotate_left
 ·intro w'
  go_simp
  with_reducible rfl
 rotate_left
 ·simp only [Act.put, List.setIfInBounds_toArray, List.set_cons_zero, List.set_cons_succ, i64_w, i32_w]
  rfl
 refine pure_ (i := 13) (N := some 5) (v := ?_) (a' := ?_) #[true, true, true, true, true, true, true, true, true, true, true, true, true, true, false, false] rfl rfl (any_of HT_.out (by kernel_rfl)) (fun _ _ _ h => h) (Or.inl ⟨by rfl, ?_⟩) ?_ ?_
 rotate_left
 ·intro w'
  go_simp
  with_reducible rfl
 rotate_left
 ·simp only [Act.put, List.setIfInBounds_toArray, List.set_cons_zero, List.set_cons_succ, i64_w, i32_w]
  rfl
 refine pure_ (i := 14) (N := some 6) (v := ?_) (a' := ?_) #[true, true, true, true, true, true, true, true, true, true, true, true, true, true, true, false] rfl rfl (any_of HT_.out (by kernel_rfl)) (fun _ _ _ h => h) (Or.inl ⟨by rfl, ?_⟩) ?_ ?_
 rotate_left
 ·intro w'
  go_simp
  with_reducible rfl
 rotate_left
 ·simp only [Act.put, List.setIfInBounds_toArray, List.set_cons_zero, List.set_cons_succ, i64_w, i32_w]
  rfl
 refine pure_ (i := 15) (N := some 7) (v := ?_) (a' := ?_) #[true, true, true, true, true, true, true, true, true, true, true, true, true, true, true, true] rfl rfl (any_of HT_.out (by kernel_rfl)) (fun _ _ _ h => h) (Or.inl ⟨by rfl, ?_⟩) ?_ ?_
 rotate_left
 ·intro w'
  go_simp
  with_reducible rfl
 rotate_left
 ·simp only [Act.put, List.setIfInBounds_toArray, List.set_cons_zero, List.set_cons_succ, i64_w, i32_w]
  rfl
 refine done_ (done_of HT_.out (by kernel_rfl)) ?_
 clear HT_ HW_ hHeld
 have k1 : w7.cell? ⟨g, 2, none⟩ = some (.int .i64 0) := (blk_cell BX7.out 2).trans rfl
 have kf := blk_frozen BX7.out 2
 go_wp2
 go_ret
 exact ⟨rfl, blk_put BX7.out 2 _ rfl, grown_below (below_step (below_drew (Below.refl _ _)) HB7.out) (grown_set BX7.out _ _)⟩
def or_numN.T6 : Bool × List (List Nat × List Nat) := (true, [([], []), ([0], [0]), ([1], [1]), ([2], [2]), ([], []), ([4], [4]), ([5], [5]), ([6], [6]), ([], []), ([3, 7, 8], [3, 7, 8]), ([9], [9]), ([10], [10]), ([10], [10]), ([10], [10]), ([11, 9, 0, 1, 2, 3, 4, 5, 6, 7, 8, 9, 10, 11], [11]), ([12, 14, 0, 1, 2, 3, 4, 5, 6, 7, 8, 9, 10, 11, 12, 14], [12]), ([13, 15, 0, 1, 2, 3, 4, 5, 6, 7, 8, 9, 10, 11, 12, 13, 14, 15], [13])])
def or_numN.B6 : List Nat := [0, 1, 3, 7, 0, 16, 48, 112, 0, 511, 1023, 2047, 2047, 2047, 4095, 24575, 65535]
theorem or_numN.tab6 : rtab .any (opsOf Try.f23 6) = or_numN.T6 := by kernel_rfl
theorem or_numN.bits6 : waitsOk or_numN.T6.2 or_numN.B6 = true := by kernel_rfl
theorem or_numN (g : Nat) (A : Option Addr) (c : Nat) (l : List Int) (at_ e sz s1 s2 s3 : Int) (w : World) (he : e = 0) (hsz : ¬ sz = 8) (hG : getSpec l at_ sz = (s1, s2, s3)) (hs : s3 = 0) (hB : Bytes l) (hl : l.length ≤ 1000000000000) (hr : Kd.C (Kd.int .u8) w A l.length l) (hc : l.length ≤ c) (hb : w.heap[g]? = some (.cells (RdC A l.length c at_ e) 51 (0, 0))) :
  Calls Try.prog 23 #[.pointer (some ⟨g, 0, none⟩), .int .i64 sz] w fun x w' => x = .returned (.int .i64 s1) ∧ w'.heap[g]? = some (.cells (RdC A l.length c s2 0) 51 (0, 0)) ∧ w.grownBy w' (some g) := by
 subst he
 have h2 : w.cell? ⟨g, 2, none⟩ = some (.int .i64 0) := (blk_cell hb 2).trans rfl
 have HBB := Aside0.mk hb
 have HG := Aside0.mk (show wire_Get.f l at_ sz = some (s1, s2, s3) by rw [wire_Get_eq _ _ _ hB hl, hG])
 have HR := Aside0.mk hr
 have HC := Aside0.mk hc
 subst hs
 have b2 : (sz == 8) = false := beq_eq_false_iff_ne.mpr hsz
 clear hsz
 clear hG hb hr hc hB hl
 go_enter Try.func23, Try.ntmps23
 go_upto_region 6 with (fail)
 clear h2
 refine start_ (n := 17) (S := fun w' => w'.cell? ⟨g, 0, none⟩ = some (.slice A l.length c) ∧ w'.cell? ⟨g, 1, none⟩ = some (.int .i64 at_)) (ds := []) #[false, false, false, false, false, false, false, false, false, false, false, false, false, false, false, false, false] (by kernel_rfl) rfl rfl ⟨(blk_cell HBB.out 0).trans rfl, (blk_cell HBB.out 1).trans rfl⟩ (fun hHeld => ?_); refine with_tabW or_numN.tab6 or_numN.bits6 (fun HT_ HW_ => ?_)
 refine pure_ (i := 0) (N := some 29) (v := ?_) (a' := ?_) #[true, false, false, false, false, false, false, false, false, false, false, false, false, false, false, false, false] rfl rfl (any_of HT_.out (by kernel_rfl)) (fun _ _ _ h => h) (Or.inl ⟨by rfl, ?_⟩) ?_ ?_
 rotate_left
 ·intro w'
  go_simp
  with_reducible rfl
 rotate_left
 ·simp only [Act.put, List.setIfInBounds_toArray, List.set_cons_zero, List.set_cons_succ, i64_w, i32_w]
  rfl
 refine pure_ (i := 1) (N := some 30) (v := ?_) (a' := ?_) #[true, true, false, false, false, false, false, false, false, false, false, false, false, false, false, false, false] rfl rfl (any_of HT_.out (by kernel_rfl)) (fun _ _ _ h => h) (Or.inl ⟨by rfl, ?_⟩) ?_ ?_
 rotate_left
 ·intro w'
  go_simp
  with_reducible rfl
 rotate_left
 ·simp only [Act.put, List.setIfInBounds_toArray, List.set_cons_zero, List.set_cons_succ, i64_w, i32_w]
  rfl
 refine pure_ (i := 2) (N := some 31) (v := ?_) (a' := ?_) #[true, true, true, false, false, false, false, false, false, false, false, false, false, false, false, false, false] rfl rfl (any_of HT_.out (by kernel_rfl)) (fun _ _ _ h => h) (Or.inl ⟨by rfl, ?_⟩) ?_ ?_
 rotate_left
 ·intro w'
  go_simp
  with_reducible rfl
 rotate_left
 ·simp only [Act.put, List.setIfInBounds_toArray, List.set_cons_zero, List.set_cons_succ, i64_w, i32_w]
  rfl
 refine pure_ (i := 4) (N := some 33) (v := ?_) (a' := ?_) #[true, true, true, false, true, false, false, false, false, false, false, false, false, false, false, false, false] rfl rfl (any_of HT_.out (by kernel_rfl)) (fun _ _ _ h => h) (Or.inl ⟨by rfl, ?_⟩) ?_ ?_
 rotate_left
 ·intro w'
  go_simp
  with_reducible rfl
 rotate_left
 ·simp only [Act.put, List.setIfInBounds_toArray, List.set_cons_zero, List.set_cons_succ, i64_w, i32_w]
  rfl
 refine pure_ (i := 5) (N := some 34) (v := ?_) (a' := ?_) #[true, true, true, false, true, true, false, false, false, false, false, false, false, false, false, false, false] rfl rfl (any_of HT_.out (by kernel_rfl)) (fun _ _ _ h => h) (Or.inl ⟨by rfl, ?_⟩) ?_ ?_
 rotate_left
 ·intro w'
  go_simp
  with_reducible rfl
 rotate_left
 ·simp only [Act.put, List.setIfInBounds_toArray, List.set_cons_zero, List.set_cons_succ, i64_w, i32_w]
  rfl
 refine pure_ (i := 6) (N := some 35) (v := ?_) (a' := ?_) #[true, true, true, false, true, true, true, false, false, false, false, false, false, false, false, false, false] rfl rfl (any_of HT_.out (by kernel_rfl)) (fun _ _ _ h => h) (Or.inl ⟨by rfl, ?_⟩) ?_ ?_
 rotate_left
 ·intro w'
  go_simp
  with_reducible rfl
 rotate_left
 ·simp only [Act.put, List.setIfInBounds_toArray, List.set_cons_zero, List.set_cons_succ, i64_w, i32_w]
  rfl
 refine pure_ (i := 8) (N := some 37) (v := ?_) (a' := ?_) #[true, true, true, false, true, true, true, false, true, false, false, false, false, false, false, false, false] rfl rfl (any_of HT_.out (by kernel_rfl)) (fun _ _ _ h => h) (Or.inl ⟨by rfl, ?_⟩) ?_ ?_
 rotate_left
 ·intro w'
  go_simp
  with_reducible rfl
 rotate_left
 ·simp only [Act.put, List.setIfInBounds_toArray, List.set_cons_zero, List.set_cons_succ, i64_w, i32_w]
  rfl
 refine take_ (i := 3) (N := some 32) (v := ?_) (a' := ?_) #[true, true, true, true, true, true, true, false, true, false, false, false, false, false, false, false, false] rfl rfl (take_ofW HT_.out HW_.out (by kernel_rfl)) (fun _ _ _ h => h) (Or.inl ⟨by rfl, ?_⟩) hHeld ?_ ?_
 rotate_left
 ·rintro w' ⟨s0, s1⟩
  go_simp
  with_reducible rfl
 rotate_left
 ·simp only [Act.put, List.setIfInBounds_toArray, List.set_cons_zero, List.set_cons_succ, i64_w, i32_w]
  rfl
 refine take_ (i := 7) (N := some 36) (v := ?_) (a' := ?_) #[true, true, true, true, true, true, true, true, true, false, false, false, false, false, false, false, false] rfl rfl (take_ofW HT_.out HW_.out (by kernel_rfl)) (fun _ _ _ h => h) (Or.inl ⟨by rfl, ?_⟩) hHeld ?_ ?_
 rotate_left
 ·rintro w' ⟨s0, s1⟩
  go_simp
  with_reducible rfl
 rotate_left
 ·simp only [Act.put, List.setIfInBounds_toArray, List.set_cons_zero, List.set_cons_succ, i64_w, i32_w]
  rfl
 refine one_ (i := 9) (N := some 38) #[true, true, true, true, true, true, true, true, true, true, false, false, false, false, false, false, false] rfl rfl (one_of HT_.out (by kernel_rfl)) (by decide) (fun K hK => ?_)
 refine goes_ Try.func28 (by kernel_rfl) rfl #[.slice A l.length c, .int .i64 at_, .int .i64 sz] (by rfl) rfl rfl (by simp only [List.map_toArray, List.map_cons, List.map_nil]; rfl) ?_
 with_reducible refine (wire_Get.calls A c l at_ sz _ _ _ _ (Kd.C_below HR.out (below_drew (Below.refl _ _))) HC.out HG.out).mono ?_
 rintro e w7 ⟨rfl, hb7⟩
 refine ⟨_, rfl, ?_⟩
 have HB7 := Aside0.mk hb7
 have BX7 := Aside0.mk (blk_below (w := w.drew) HBB.out hb7)
 clear hb7
 refine hK.out _ _ ⟨(blk_cell BX7.out 0).trans rfl, (blk_cell BX7.out 1).trans rfl⟩ (fun hHeld => ?_)
 clear hK K
 refine norm_ (a' := ?_) ?_ ?_
 rotate_left
 ·show Act.put _ (some 38) _ = _
  simp only [Act.put, List.setIfInBounds_toArray, List.set_cons_zero, List.set_cons_succ, i64_w, i32_w]
  rfl
 refine pure_ (i := 10) (N := some 28) (v := ?_) (a' := ?_) #[true, true, true, true, true, true, true, true, true, true, true, false, false, false, false, false, false] rfl rfl (any_of HT_.out (by kernel_rfl)) (fun _ _ _ h => h) (Or.inl ⟨by rfl, ?_⟩) ?_ ?_
 rotate_left
 ·intro w'
  go_simp
  with_reducible rfl
 rotate_left
 ·simp only [Act.put, List.setIfInBounds_toArray, List.set_cons_zero, List.set_cons_succ, i64_w, i32_w]
  rfl
 refine pure_ (i := 11) (N := some 39) (v := ?_) (a' := ?_) #[true, true, true, true, true, true, true, true, true, true, true, true, false, false, false, false, false] rfl rfl (any_of HT_.out (by kernel_rfl)) (fun _ _ _ h => h) (Or.inl ⟨by rfl, ?_⟩) ?_ ?_
 rotate_left
 ·intro w'
  go_simp
  with_reducible rfl
 rotate_left
 ·simp only [Act.put, List.setIfInBounds_toArray, List.set_cons_zero, List.set_cons_succ, i64_w, i32_w]
  rfl
 refine pure_ (i := 12) (N := some 40) (v := ?_) (a' := ?_) #[true, true, true, true, true, true, true, true, true, true, true, true, true, false, false, false, false] rfl rfl (any_of HT_.out (by kernel_rfl)) (fun _ _ _ h => h) (Or.inl ⟨by rfl, ?_⟩) ?_ ?_
 rotate_left
 ·intro w'
  go_simp
  with_reducible rfl
 rotate_left
 ·simp only [Act.put, List.setIfInBounds_toArray, List.set_cons_zero, List.set_cons_succ, i64_w, i32_w]
  rfl
 refine pure_ (i := 13) (N := some 41) (v := ?_) (a' := ?_) #[true, true, true, true, true, true, true, true, true, true, true, true, true, true, false, false, false] rfl rfl (any_of HT_.out (by kernel_rfl)) (fun _ _ _ h => h) (Or.inl ⟨by rfl, ?_⟩) ?_ ?_
 rotate_left
 ·intro w'
  go_simp
  with_reducible rfl
 rotate_left
 ·simp only [Act.put, List.setIfInBounds_toArray, List.set_cons_zero, List.set_cons_succ, i64_w, i32_w]
  rfl
 refine pure_ (i := 14) (N := some 5) (v := ?_) (a' := ?_) #[true, true, true, true, true, true, true, true, true, true, true, true, true, true, true, false, false] rfl rfl (any_of HT_.out (by kernel_rfl)) (fun _ _ _ h => h) (Or.inl ⟨by rfl, ?_⟩) ?_ ?_
 rotate_left
 ·intro w'
  go_simp
  with_reducible rfl
 rotate_left
 ·simp only [Act.put, List.setIfInBounds_toArray, List.set_cons_zero, List.set_cons_succ, i64_w, i32_w]
  rfl
 refine pure_ (i := 15) (N := some 6) (v := ?_) (a' := ?_) #[true, true, true, true, true, true, true, true, true, true, true, true, true, true, true, true, false] rfl rfl (any_of HT_.out (by kernel_rfl)) (fun _ _ _ h => h) (Or.inl ⟨by rfl, ?_⟩) ?_ ?_
 rotate_left
 ·intro w'
  go_simp
  with_reducible rfl
 rotate_left
 ·simp only [Act.put, List.setIfInBounds_toArray, List.set_cons_zero, List.set_cons_succ, i64_w, i32_w]
  rfl
 refine pure_ (i := 16) (N := some 7) (v := ?_) (a' := ?_) #[true, true, true, true, true, true, true, true, true, true, true, true, true, true, true, true, true] rfl rfl (any_of HT_.out (by kernel_rfl)) (fun _ _ _ h => h) (Or.inl ⟨by rfl, ?_⟩) ?_ ?_
 rotate_left
 ·intro w'
  go_simp
  with_reducible rfl
 rotate_left
 ·simp only [Act.put, List.setIfInBounds_toArray, List.set_cons_zero, List.set_cons_succ, i64_w, i32_w]
  rfl
 refine done_ (done_of HT_.out (by kernel_rfl)) ?_
 clear HT_ HW_ hHeld
 have k1 : w7.cell? ⟨g, 1, none⟩ = some (.int .i64 at_) := (blk_cell BX7.out 1).trans rfl
 have kf := blk_frozen BX7.out 1
 go_wp2
 go_ret
 exact ⟨rfl, blk_put BX7.out 1 _ rfl, grown_below (below_step (below_drew (Below.refl _ _)) HB7.out) (grown_set BX7.out _ _)⟩
def or_numNx.T6 : Bool × List (List Nat × List Nat) := (true, [([], []), ([0], [0]), ([1], [1]), ([2], [2]), ([], []), ([4], [4]), ([5], [5]), ([6], [6]), ([], []), ([3, 7, 8], [3, 7, 8]), ([9], [9]), ([10], [10]), ([10], [10]), ([10], [10]), ([11, 9, 0, 1, 2, 3, 4, 5, 6, 7, 8, 9, 10, 11], [11]), ([12, 14, 0, 1, 2, 3, 4, 5, 6, 7, 8, 9, 10, 11, 12, 14], [12]), ([13, 15, 0, 1, 2, 3, 4, 5, 6, 7, 8, 9, 10, 11, 12, 13, 14, 15], [13])])
def or_numNx.B6 : List Nat := [0, 1, 3, 7, 0, 16, 48, 112, 0, 511, 1023, 2047, 2047, 2047, 4095, 24575, 65535]
theorem or_numNx.tab6 : rtab .any (opsOf Try.f23 6) = or_numNx.T6 := by kernel_rfl
theorem or_numNx.bits6 : waitsOk or_numNx.T6.2 or_numNx.B6 = true := by kernel_rfl
theorem or_numNx (g : Nat) (A : Option Addr) (c : Nat) (l : List Int) (at_ e sz s1 s2 s3 : Int) (w : World) (he : e = 0) (hsz : ¬ sz = 8) (hG : getSpec l at_ sz = (s1, s2, s3)) (hs : ¬ s3 = 0) (hB : Bytes l) (hl : l.length ≤ 1000000000000) (hr : Kd.C (Kd.int .u8) w A l.length l) (hc : l.length ≤ c) (hb : w.heap[g]? = some (.cells (RdC A l.length c at_ e) 51 (0, 0))) :
  Calls Try.prog 23 #[.pointer (some ⟨g, 0, none⟩), .int .i64 sz] w fun x w' => x = .returned (.int .i64 0) ∧ w'.heap[g]? = some (.cells (RdC A l.length c at_ s3) 51 (0, 0)) ∧ w.grownBy w' (some g) := by
 subst he
 have h2 : w.cell? ⟨g, 2, none⟩ = some (.int .i64 0) := (blk_cell hb 2).trans rfl
 have HBB := Aside0.mk hb
 have HG := Aside0.mk (show wire_Get.f l at_ sz = some (s1, s2, s3) by rw [wire_Get_eq _ _ _ hB hl, hG])
 have HR := Aside0.mk hr
 have HC := Aside0.mk hc
 have b1 : (s3 != 0) = true := bne_iff_ne.mpr hs
 clear hs
 have b2 : (sz == 8) = false := beq_eq_false_iff_ne.mpr hsz
 clear hsz
 clear hG hb hr hc hB hl
 go_enter Try.func23, Try.ntmps23
 go_upto_region 6 with (fail)
 clear h2
 refine start_ (n := 17) (S := fun w' => w'.cell? ⟨g, 0, none⟩ = some (.slice A l.length c) ∧ w'.cell? ⟨g, 1, none⟩ = some (.int .i64 at_)) (ds := []) #[false, false, false, false, false, false, false, false, false, false, false, false, false, false, false, false, false] (by kernel_rfl) rfl rfl ⟨(blk_cell HBB.out 0).trans rfl, (blk_cell HBB.out 1).trans rfl⟩ (fun hHeld => ?_); refine with_tabW or_numNx.tab6 or_numNx.bits6 (fun HT_ HW_ => ?_)
 refine pure_ (i := 0) (N := some 29) (v := ?_) (a' := ?_) #[true, false, false, false, false, false, false, false, false, false, false, false, false, false, false, false, false] rfl rfl (any_of HT_.out (by kernel_rfl)) (fun _ _ _ h => h) (Or.inl ⟨by rfl, ?_⟩) ?_ ?_
 rotate_left
 ·intro w'
  go_simp
  with_reducible rfl
 rotate_left
 ·simp only [Act.put, List.setIfInBounds_toArray, List.set_cons_zero, List.set_cons_succ, i64_w, i32_w]
  rfl
 refine pure_ (i := 1) (N := some 30) (v := ?_) (a' := ?_) #[true, true, false, false, false, false, false, false, false, false, false, false, false, false, false, false, false] rfl rfl (any_of HT_.out (by kernel_rfl)) (fun _ _ _ h => h) (Or.inl ⟨by rfl, ?_⟩) ?_ ?_
 rotate_left
 ·intro w'
  go_simp
  with_reducible rfl
 rotate_left
 ·simp only [Act.put, List.setIfInBounds_toArray, List.set_cons_zero, List.set_cons_succ, i64_w, i32_w]
  rfl
 refine pure_ (i := 2) (N := some 31) (v := ?_) (a' := ?_) #[true, true, true, false, false, false, false, false, false, false, false, false, false, false, false, false, false] rfl rfl (any_of HT_.out (by kernel_rfl)) (fun _ _ _ h => h) (Or.inl ⟨by rfl, ?_⟩) ?_ ?_
 rotate_left
 ·intro w'
  go_simp
  with_reducible rfl
 rotate_left
 ·simp only [Act.put, List.setIfInBounds_toArray, List.set_cons_zero, List.set_cons_succ, i64_w, i32_w]
  rfl
 refine pure_ (i := 4) (N := some 33) (v := ?_) (a' := ?_) #[true, true, true, false, true, false, false, false, false, false, false, false, false, false, false, false, false] rfl rfl (any_of HT_.out (by kernel_rfl)) (fun _ _ _ h => h) (Or.inl ⟨by rfl, ?_⟩) ?_ ?_
 rotate_left
 ·intro w'
  go_simp
  with_reducible rfl
 rotate_left
 ·simp only [Act.put, List.setIfInBounds_toArray, List.set_cons_zero, List.set_cons_succ, i64_w, i32_w]
  rfl
 refine pure_ (i := 5) (N := some 34) (v := ?_) (a' := ?_) #[true, true, true, false, true, true, false, false, false, false, false, false, false, false, false, false, false] rfl rfl (any_of HT_.out (by kernel_rfl)) (fun _ _ _ h => h) (Or.inl ⟨by rfl, ?_⟩) ?_ ?_
 rotate_left
 ·intro w'
  go_simp
  with_reducible rfl
 rotate_left
 ·simp only [Act.put, List.setIfInBounds_toArray, List.set_cons_zero, List.set_cons_succ, i64_w, i32_w]
  rfl
 refine pure_ (i := 6) (N := some 35) (v := ?_) (a' := ?_) #[true, true, true, false, true, true, true, false, false, false, false, false, false, false, false, false, false] rfl rfl (any_of HT_.out (by kernel_rfl)) (fun _ _ _ h => h) (Or.inl ⟨by rfl, ?_⟩) ?_ ?_
 rotate_left
 ·intro w'
  go_simp
  with_reducible rfl
 rotate_left
 ·simp only [Act.put, List.setIfInBounds_toArray, List.set_cons_zero, List.set_cons_succ, i64_w, i32_w]
  rfl
 refine pure_ (i := 8) (N := some 37) (v := ?_) (a' := ?_) #[true, true, true, false, true, true, true, false, true, false, false, false, false, false, false, false, false] rfl rfl (any_of HT_.out (by kernel_rfl)) (fun _ _ _ h => h) (Or.inl ⟨by rfl, ?_⟩) ?_ ?_
 rotate_left
 ·intro w'
  go_simp
  with_reducible rfl
 rotate_left
 ·simp only [Act.put, List.setIfInBounds_toArray, List.set_cons_zero, List.set_cons_succ, i64_w, i32_w]
  rfl
 refine take_ (i := 3) (N := some 32) (v := ?_) (a' := ?_) #[true, true, true, true, true, true, true, false, true, false, false, false, false, false, false, false, false] rfl rfl (take_ofW HT_.out HW_.out (by kernel_rfl)) (fun _ _ _ h => h) (Or.inl ⟨by rfl, ?_⟩) hHeld ?_ ?_
 rotate_left
 ·rintro w' ⟨s0, s1⟩
  go_simp
  with_reducible rfl
 rotate_left
 ·simp only [Act.put, List.setIfInBounds_toArray, List.set_cons_zero, List.set_cons_succ, i64_w, i32_w]
  rfl
 refine take_ (i := 7) (N := some 36) (v := ?_) (a' := ?_) #[true, true, true, true, true, true, true, true, true, false, false, false, false, false, false, false, false] rfl rfl (take_ofW HT_.out HW_.out (by kernel_rfl)) (fun _ _ _ h => h) (Or.inl ⟨by rfl, ?_⟩) hHeld ?_ ?_
 rotate_left
 ·rintro w' ⟨s0, s1⟩
  go_simp
  with_reducible rfl
 rotate_left
 ·simp only [Act.put, List.setIfInBounds_toArray, List.set_cons_zero, List.set_cons_succ, i64_w, i32_w]
  rfl
 refine one_ (i := 9) (N := some 38) #[true, true, true, true, true, true, true, true, true, true, false, false, false, false, false, false, false] rfl rfl (one_of HT_.out (by kernel_rfl)) (by decide) (fun K hK => ?_)
 refine goes_ Try.func28 (by kernel_rfl) rfl #[.slice A l.length c, .int .i64 at_, .int .i64 sz] (by rfl) rfl rfl (by simp only [List.map_toArray, List.map_cons, List.map_nil]; rfl) ?_
 with_reducible refine (wire_Get.calls A c l at_ sz _ _ _ _ (Kd.C_below HR.out (below_drew (Below.refl _ _))) HC.out HG.out).mono ?_
 rintro e w7 ⟨rfl, hb7⟩
 refine ⟨_, rfl, ?_⟩
 have HB7 := Aside0.mk hb7
 have BX7 := Aside0.mk (blk_below (w := w.drew) HBB.out hb7)
 clear hb7
 refine hK.out _ _ ⟨(blk_cell BX7.out 0).trans rfl, (blk_cell BX7.out 1).trans rfl⟩ (fun hHeld => ?_)
 clear hK K
 refine norm_ (a' := ?_) ?_ ?_
 rotate_left
 ·show Act.put _ (some 38) _ = _
  simp only [Act.put, List.setIfInBounds_toArray, List.set_cons_zero, List.set_cons_succ, i64_w, i32_w]
  rfl
 refine pure_ (i := 10) (N := some 28) (v := ?_) (a' := ?_) #[true, true, true, true, true, true, true, true, true, true, true, false, false, false, false, false, false] rfl rfl (any_of HT_.out (by kernel_rfl)) (fun _ _ _ h => h) (Or.inl ⟨by rfl, ?_⟩) ?_ ?_
 rotate_left
 ·intro w'
  go_simp
  with_reducible rfl
 rotate_left
 ·simp only [Act.put, List.setIfInBounds_toArray, List.set_cons_zero, List.set_cons_succ, i64_w, i32_w]
  rfl
 refine pure_ (i := 11) (N := some 39) (v := ?_) (a' := ?_) #[true, true, true, true, true, true, true, true, true, true, true, true, false, false, false, false, false] rfl rfl (any_of HT_.out (by kernel_rfl)) (fun _ _ _ h => h) (Or.inl ⟨by rfl, ?_⟩) ?_ ?_
 rotate_left
 ·intro w'
  go_simp
  with_reducible rfl
 rotate_left
 ·simp only [Act.put, List.setIfInBounds_toArray, List.set_cons_zero, List.set_cons_succ, i64_w, i32_w]
  rfl
 refine pure_ (i := 12) (N := some 40) (v := ?_) (a' := ?_) #[true, true, true, true, true, true, true, true, true, true, true, true, true, false, false, false, false] rfl rfl (any_of HT_.out (by kernel_rfl)) (fun _ _ _ h => h) (Or.inl ⟨by rfl, ?_⟩) ?_ ?_
 rotate_left
 ·intro w'
  go_simp
  with_reducible rfl
 rotate_left
 ·simp only [Act.put, List.setIfInBounds_toArray, List.set_cons_zero, List.set_cons_succ, i64_w, i32_w]
  rfl
 refine pure_ (i := 13) (N := some 41) (v := ?_) (a' := ?_) #[true, true, true, true, true, true, true, true, true, true, true, true, true, true, false, false, false] rfl rfl (any_of HT_.out (by kernel_rfl)) (fun _ _ _ h => h) (Or.inl ⟨by rfl, ?_⟩) ?_ ?_
 rotate_left
 ·intro w'
  go_simp
  with_reducible rfl
 rotate_left
 ·simp only [Act.put, List.setIfInBounds_toArray, List.set_cons_zero, List.set_cons_succ, i64_w, i32_w]
  rfl
 refine pure_ (i := 14) (N := some 5) (v := ?_) (a' := ?_) #[true, true, true, true, true, true, true, true, true, true, true, true, true, true, true, false, false] rfl rfl (any_of HT_.out (by kernel_rfl)) (fun _ _ _ h => h) (Or.inl ⟨by rfl, ?_⟩) ?_ ?_
 rotate_left
 ·intro w'
  go_simp
  with_reducible rfl
 rotate_left
 ·simp only [Act.put, List.setIfInBounds_toArray, List.set_cons_zero, List.set_cons_succ, i64_w, i32_w]
  rfl
 refine pure_ (i := 15) (N := some 6) (v := ?_) (a' := ?_) #[true, true, true, true, true, true, true, true, true, true, true, true, true, true, true, true, false] rfl rfl (any_of HT_.out (by kernel_rfl)) (fun _ _ _ h => h) (Or.inl ⟨by rfl, ?_⟩) ?_ ?_
 rotate_left
 ·intro w'
  go_simp
  with_reducible rfl
 rotate_left
 ·simp only [Act.put, List.setIfInBounds_toArray, List.set_cons_zero, List.set_cons_succ, i64_w, i32_w]
  rfl
 refine pure_ (i := 16) (N := some 7) (v := ?_) (a' := ?_) #[true, true, true, true, true, true, true, true, true, true, true, true, true, true, true, true, true] rfl rfl (any_of HT_.out (by kernel_rfl)) (fun _ _ _ h => h) (Or.inl ⟨by rfl, ?_⟩) ?_ ?_
 rotate_left
 ·intro w'
  go_simp
  with_reducible rfl
 rotate_left
 ·simp only [Act.put, List.setIfInBounds_toArray, List.set_cons_zero, List.set_cons_succ, i64_w, i32_w]
  rfl
 refine done_ (done_of HT_.out (by kernel_rfl)) ?_
 clear HT_ HW_ hHeld
 have k1 : w7.cell? ⟨g, 2, none⟩ = some (.int .i64 0) := (blk_cell BX7.out 2).trans rfl
 have kf := blk_frozen BX7.out 2
 go_wp2
 go_ret
 exact ⟨rfl, blk_put BX7.out 2 _ rfl, grown_below (below_step (below_drew (Below.refl _ _)) HB7.out) (grown_set BX7.out _ _)⟩
theorem or_number (g : Nat) (A : Option Addr) (c : Nat) (l : List Int) (at_ e sz v at2 e2 : Int) (w : World) (hN : rdN l sz at_ e = (v, at2, e2)) (hB : Bytes l) (hl : l.length ≤ 1000000000000) (hr : Kd.C (Kd.int .u8) w A l.length l) (hc : l.length ≤ c) (hb : w.heap[g]? = some (.cells (RdC A l.length c at_ e) 51 (0, 0))) :
  Calls Try.prog 23 #[.pointer (some ⟨g, 0, none⟩), .int .i64 sz] w fun x w' => x = .returned (.int .i64 v) ∧ w'.heap[g]? = some (.cells (RdC A l.length c at2 e2) 51 (0, 0)) ∧ w.grownBy w' (some g) := by
 by_cases he : e = 0
 ·unfold rdN at hN
  by_cases h8 : sz = 8
  ·subst h8
   rw [if_pos rfl] at hN
   obtain ⟨s1, s2, s3, hG⟩ : ∃ s1 s2 s3, getIntSpec l at_ = (s1, s2, s3) := ⟨_, _, _, rfl⟩
   unfold rd8 rdStep at hN
   rw [if_pos he, hG] at hN
   by_cases hs : s3 = 0
   ·rw [if_pos hs] at hN
    simp only [Prod.mk.injEq] at hN
    obtain ⟨rfl, rfl, rfl⟩ := hN
    exact or_num8 g A c l at_ e s1 s2 s3 w he hG hs hB hl hr hc hb
   ·rw [if_neg hs] at hN
    simp only [Prod.mk.injEq] at hN
    obtain ⟨rfl, rfl, rfl⟩ := hN
    exact or_num8x g A c l at_ e s1 s2 s3 w he hG hs hB hl hr hc hb
  ·rw [if_neg h8] at hN
   obtain ⟨s1, s2, s3, hG⟩ : ∃ s1 s2 s3, getSpec l at_ sz = (s1, s2, s3) := ⟨_, _, _, rfl⟩
   unfold rd1 rdStep at hN
   rw [if_pos he, hG] at hN
   by_cases hs : s3 = 0
   ·rw [if_pos hs] at hN
    simp only [Prod.mk.injEq] at hN
    obtain ⟨rfl, rfl, rfl⟩ := hN
    exact or_numN g A c l at_ e sz s1 s2 s3 w he h8 hG hs hB hl hr hc hb
   ·rw [if_neg hs] at hN
    simp only [Prod.mk.injEq] at hN
    obtain ⟨rfl, rfl, rfl⟩ := hN
    exact or_numNx g A c l at_ e sz s1 s2 s3 w he h8 hG hs hB hl hr hc hb
 ·have hz : (0, at_, e) = (v, at2, e2) := by
   rw [← hN]
   simp only [rdN, rd8, rd1, rdStep, if_neg he, ite_self]
  simp only [Prod.mk.injEq] at hz
  obtain ⟨rfl, rfl, rfl⟩ := hz
  refine (or_numE g A l.length c at_ e sz w he hb).mono ?_
  rintro x w' ⟨rfl, rfl⟩
  exact ⟨rfl, hb, rfl, rfl, rfl, Nat.le_refl _, fun _ _ _ => rfl⟩
def rdH (l : List Int) (at_ e : Int) : HP := if e = 0 then (if (hpGo l at_).2.2.2.2.2.2.2 = 0 then hpGo l at_ else ((hpGo l at_).1, (hpGo l at_).2.1, (hpGo l at_).2.2.1, (hpGo l at_).2.2.2.1, (hpGo l at_).2.2.2.2.1, (hpGo l at_).2.2.2.2.2.1, at_, (hpGo l at_).2.2.2.2.2.2.2)) else (false, 0, 0, 0, 0, 0, at_, e)
theorem or_heiE (g : Nat) (A : Option Addr) (n c : Nat) (at_ e : Int) (w : World) (he : ¬ e = 0) (hb : w.heap[g]? = some (.cells (RdC A n c at_ e) 51 (0, 0))) :
  Calls Try.prog 24 #[.pointer (some ⟨g, 0, none⟩)] w fun x w' => x = .returned (.agg #[.bool false, .int .i64 0, .int .i64 0, .int .i64 0, .int .i64 0, .int .i64 0]) ∧ Below w.heap.size w w' := by
 have hu23 := Try.underlying23
 have b0 : (e != 0) = true := bne_iff_ne.mpr he
 have HBB := Aside0.mk hb
 clear hb he
 go_enter Try.func24, Try.ntmps24
 go_wp2_with (((with_reducible refine gate_dst (N := 2) rfl ?_); refine box_event ?hg (N := 2) ?hd (cs := #[.bool false, .int .i64 0, .int .i64 0, .int .i64 0, .int .i64 0, .int .i64 0]) (t := 23) ?hr ?_; (case hd => rfl); (case hg => rfl); (case hr => first | (go_simp; done) | (go_simp; rfl)); intro g2 hg w4 hbox hb; have HB4 := Aside0.mk hb; have G2 := Aside0.mk (Nat.le_of_eq hg.symm); have B2 := Aside0.mk hbox; have BR := Aside0.mk (blk_below HBB.out hb); clear hb hbox hg; have h1 : w4.cell? ⟨g, 2, none⟩ = some (.int .i64 e) := (blk_cell BR.out 2).trans rfl; obtain ⟨⟨u0, u1, u2, u3, u4, u5⟩, uf0, uf1, uf2, uf3, uf4, uf5⟩ := cells6 B2.out))
 refine bodyPost_ret (results_single (P := Try.prog) (r := .cell 2 23) rfl (Vals.cell g2 23 #[.bool false, .int .i64 0, .int .i64 0, .int .i64 0, .int .i64 0, .int .i64 0] (0, 0) _ rfl (blk_put (blk_put (blk_put (blk_put (blk_put (blk_put B2.out 0 (.bool false) (cs' := #[.bool false, .int .i64 0, .int .i64 0, .int .i64 0, .int .i64 0, .int .i64 0]) rfl) 1 (.int .i64 0) (cs' := #[.bool false, .int .i64 0, .int .i64 0, .int .i64 0, .int .i64 0, .int .i64 0]) rfl) 2 (.int .i64 0) (cs' := #[.bool false, .int .i64 0, .int .i64 0, .int .i64 0, .int .i64 0, .int .i64 0]) rfl) 3 (.int .i64 0) (cs' := #[.bool false, .int .i64 0, .int .i64 0, .int .i64 0, .int .i64 0, .int .i64 0]) rfl) 4 (.int .i64 0) (cs' := #[.bool false, .int .i64 0, .int .i64 0, .int .i64 0, .int .i64 0, .int .i64 0]) rfl) 5 (.int .i64 0) (cs' := #[.bool false, .int .i64 0, .int .i64 0, .int .i64 0, .int .i64 0, .int .i64 0]) rfl) Try.underlying23 rfl (by kernel_rfl) .nil)) rfl ?_
 exact ⟨rfl, (below_set (below_set (below_set (below_set (below_set (below_set HB4.out G2.out) G2.out) G2.out) G2.out) G2.out) G2.out)⟩
def or_hei.T3 : Bool × List (List Nat × List Nat) := (true, [([], []), ([0], [0]), ([1], [1]), ([2], [2]), ([], []), ([4], [4]), ([5], [5]), ([6], [6]), ([3, 7], [3, 7]), ([8], [8]), ([9], [9]), ([9], [9]), ([9], [9]), ([], []), ([13, 10, 8, 0, 1, 2, 3, 4, 5, 6, 7, 8, 9, 10, 13], [10, 13]), ([11, 14, 0, 1, 2, 3, 4, 5, 6, 7, 8, 9, 10, 11, 13, 14], [11]), ([12, 15, 0, 1, 2, 3, 4, 5, 6, 7, 8, 9, 10, 11, 12, 13, 14, 15], [12])])
def or_hei.B3 : List Nat := [0, 1, 3, 7, 0, 16, 48, 112, 255, 511, 1023, 1023, 1023, 0, 10239, 28671, 65535]
theorem or_hei.tab3 : rtab .any (opsOf Try.f24 3) = or_hei.T3 := by kernel_rfl
theorem or_hei.bits3 : waitsOk or_hei.T3.2 or_hei.B3 = true := by kernel_rfl
theorem or_hei (g : Nat) (A : Option Addr) (c : Nat) (l : List Int) (at_ e : Int) (n : Bool) (a b c_ d e_ at2 e2 : Int) (w : World) (he : e = 0) (hG : hpGo l at_ = (n, a, b, c_, d, e_, at2, e2)) (hs : e2 = 0) (hB : Bytes l) (hl : l.length ≤ 1000000000000) (hr : Kd.C (Kd.int .u8) w A l.length l) (hc : l.length ≤ c) (hb : w.heap[g]? = some (.cells (RdC A l.length c at_ e) 51 (0, 0))) :
  Calls Try.prog 24 #[.pointer (some ⟨g, 0, none⟩)] w fun x w' => x = .returned (.agg #[.bool n, .int .i64 a, .int .i64 b, .int .i64 c_, .int .i64 d, .int .i64 e_]) ∧ w'.heap[g]? = some (.cells (RdC A l.length c at2 0) 51 (0, 0)) ∧ w.grownBy w' (some g) := by
 subst he
 have hu23 := Try.underlying23
 have HBB := Aside0.mk hb
 have HG := Aside0.mk (show height_Parse.f l at_ = some (n, a, b, c_, d, e_, at2, e2) by unfold height_Parse.f; rw [if_pos ⟨hl, hB⟩, hG])
 have HR := Aside0.mk hr
 have HC := Aside0.mk hc
 subst hs
 clear hG hb hr hc hB hl
 go_enter Try.func24, Try.ntmps24
 go_upto_region 3 with (((with_reducible refine gate_dst (N := 2) rfl ?_); refine box_event ?hg (N := 2) ?hd (cs := #[.bool false, .int .i64 0, .int .i64 0, .int .i64 0, .int .i64 0, .int .i64 0]) (t := 23) ?hr ?_; (case hd => rfl); (case hg => rfl); (case hr => first | (go_simp; done) | (go_simp; rfl)); intro g2 hg wq hbox hb; have HB := Aside0.mk hb; have G2 := Aside0.mk (Nat.le_of_eq hg.symm); have B2 := Aside0.mk hbox; have BR := Aside0.mk (blk_below HBB.out hb); clear hb hbox hg; have h1 : wq.cell? ⟨g, 2, none⟩ = some (.int .i64 0) := (blk_cell BR.out 2).trans rfl))
 clear h1
 have HBd := Aside0.mk (below_drew HB.out)
 have B2d := Aside0.mk (show wq.drew.heap[g2]? = _ from B2.out)
 have BRd := Aside0.mk (show wq.drew.heap[g]? = _ from BR.out)
 clear HB B2 BR
 refine start_ (n := 17) (S := fun w' => w'.cell? ⟨g, 0, none⟩ = some (.slice A l.length c) ∧ w'.cell? ⟨g, 1, none⟩ = some (.int .i64 at_)) (ds := [14]) #[false, false, false, false, false, false, false, false, false, false, false, false, false, false, false, false, false] (by kernel_rfl) rfl rfl ⟨(blk_cell BRd.out 0).trans rfl, (blk_cell BRd.out 1).trans rfl⟩ (fun hHeld => ?_); refine with_tabW or_hei.tab3 or_hei.bits3 (fun HT_ HW_ => ?_)
 refine pure_ (i := 0) (N := some 13) (v := ?_) (a' := ?_) #[true, false, false, false, false, false, false, false, false, false, false, false, false, false, false, false, false] rfl rfl (any_of HT_.out (by kernel_rfl)) (fun _ _ _ h => h) (Or.inl ⟨by rfl, ?_⟩) ?_ ?_
 rotate_left
 ·intro w'
  go_simp
  with_reducible rfl
 rotate_left
 ·simp only [Act.put, List.setIfInBounds_toArray, List.set_cons_zero, List.set_cons_succ, i64_w, i32_w]
  rfl
 refine pure_ (i := 1) (N := some 14) (v := ?_) (a' := ?_) #[true, true, false, false, false, false, false, false, false, false, false, false, false, false, false, false, false] rfl rfl (any_of HT_.out (by kernel_rfl)) (fun _ _ _ h => h) (Or.inl ⟨by rfl, ?_⟩) ?_ ?_
 rotate_left
 ·intro w'
  go_simp
  with_reducible rfl
 rotate_left
 ·simp only [Act.put, List.setIfInBounds_toArray, List.set_cons_zero, List.set_cons_succ, i64_w, i32_w]
  rfl
 refine pure_ (i := 2) (N := some 15) (v := ?_) (a' := ?_) #[true, true, true, false, false, false, false, false, false, false, false, false, false, false, false, false, false] rfl rfl (any_of HT_.out (by kernel_rfl)) (fun _ _ _ h => h) (Or.inl ⟨by rfl, ?_⟩) ?_ ?_
 rotate_left
 ·intro w'
  go_simp
  with_reducible rfl
 rotate_left
 ·simp only [Act.put, List.setIfInBounds_toArray, List.set_cons_zero, List.set_cons_succ, i64_w, i32_w]
  rfl
 refine pure_ (i := 4) (N := some 17) (v := ?_) (a' := ?_) #[true, true, true, false, true, false, false, false, false, false, false, false, false, false, false, false, false] rfl rfl (any_of HT_.out (by kernel_rfl)) (fun _ _ _ h => h) (Or.inl ⟨by rfl, ?_⟩) ?_ ?_
 rotate_left
 ·intro w'
  go_simp
  with_reducible rfl
 rotate_left
 ·simp only [Act.put, List.setIfInBounds_toArray, List.set_cons_zero, List.set_cons_succ, i64_w, i32_w]
  rfl
 refine pure_ (i := 5) (N := some 18) (v := ?_) (a' := ?_) #[true, true, true, false, true, true, false, false, false, false, false, false, false, false, false, false, false] rfl rfl (any_of HT_.out (by kernel_rfl)) (fun _ _ _ h => h) (Or.inl ⟨by rfl, ?_⟩) ?_ ?_
 rotate_left
 ·intro w'
  go_simp
  with_reducible rfl
 rotate_left
 ·simp only [Act.put, List.setIfInBounds_toArray, List.set_cons_zero, List.set_cons_succ, i64_w, i32_w]
  rfl
 refine pure_ (i := 6) (N := some 19) (v := ?_) (a' := ?_) #[true, true, true, false, true, true, true, false, false, false, false, false, false, false, false, false, false] rfl rfl (any_of HT_.out (by kernel_rfl)) (fun _ _ _ h => h) (Or.inl ⟨by rfl, ?_⟩) ?_ ?_
 rotate_left
 ·intro w'
  go_simp
  with_reducible rfl
 rotate_left
 ·simp only [Act.put, List.setIfInBounds_toArray, List.set_cons_zero, List.set_cons_succ, i64_w, i32_w]
  rfl
 refine take_ (i := 3) (N := some 16) (v := ?_) (a' := ?_) #[true, true, true, true, true, true, true, false, false, false, false, false, false, false, false, false, false] rfl rfl (take_ofW HT_.out HW_.out (by kernel_rfl)) (fun _ _ _ h => h) (Or.inl ⟨by rfl, ?_⟩) hHeld ?_ ?_
 rotate_left
 ·rintro w' ⟨s0, s1⟩
  go_simp
  with_reducible rfl
 rotate_left
 ·simp only [Act.put, List.setIfInBounds_toArray, List.set_cons_zero, List.set_cons_succ, i64_w, i32_w]
  rfl
 refine take_ (i := 7) (N := some 20) (v := ?_) (a' := ?_) #[true, true, true, true, true, true, true, true, false, false, false, false, false, false, false, false, false] rfl rfl (take_ofW HT_.out HW_.out (by kernel_rfl)) (fun _ _ _ h => h) (Or.inl ⟨by rfl, ?_⟩) hHeld ?_ ?_
 rotate_left
 ·rintro w' ⟨s0, s1⟩
  go_simp
  with_reducible rfl
 rotate_left
 ·simp only [Act.put, List.setIfInBounds_toArray, List.set_cons_zero, List.set_cons_succ, i64_w, i32_w]
  rfl
 refine join_ (σ := Nat) 3 #[true, true, true, true, true, true, true, true, true, true, true, true, true, true, false, false, false] (fun s_ => [(21, .tuple #[.agg #[.bool n, .int .i64 a, .int .i64 b, .int .i64 c_, .int .i64 d, .int .i64 e_], .int .i64 at2, .int .i64 0]), (12, .tuple #[.agg #[.bool n, .int .i64 a, .int .i64 b, .int .i64 c_, .int .i64 d, .int .i64 e_], .int .i64 at2, .int .i64 0]), (22, .agg #[.bool n, .int .i64 a, .int .i64 b, .int .i64 c_, .int .i64 d, .int .i64 e_]), (23, .int .i64 at2), (24, .int .i64 0), (3, .pointer (some ⟨s_, 0, none⟩))]) (fun s_ w' => (w'.cell? ⟨g, 0, none⟩ = some (.slice A l.length c) ∧ w'.cell? ⟨g, 1, none⟩ = some (.int .i64 at_)) ∧ Aside0 (w'.heap[s_]? = some (.cells #[.bool false, .int .i64 0, .int .i64 0, .int .i64 0, .int .i64 0, .int .i64 0] 23 (0, 0))) ∧ Aside0 (w'.heap[g]? = some (.cells (RdC A l.length c at_ 0) 51 (0, 0))) ∧ Aside0 (w'.heap[g2]? = some (.cells #[.bool false, .int .i64 0, .int .i64 0, .int .i64 0, .int .i64 0, .int .i64 0] 23 (0, 0))) ∧ Aside0 (Below w.heap.size w w') ∧ Aside0 (w.heap.size ≤ s_) ∧ Aside0 (g2 ≠ s_)) ?_ ?_
 rotate_left
 ·intro hCont
  refine two_ (i := 8) (j := 13) (Ni := some 21) (Nj := some 3) #[true, true, true, true, true, true, true, true, true, false, false, false, false, false, false, false, false] #[true, true, true, true, true, true, true, true, false, false, false, false, false, true, false, false, false] rfl rfl rfl rfl (two_of HT_.out (by kernel_rfl)) (by decide) (by decide) (fun K hK => ?_) (fun K hK => ?_)
  ·skip
   refine goes_ Try.func29 (by kernel_rfl) rfl #[.slice A l.length c, .int .i64 at_] (by rfl) rfl rfl (by simp only [List.map_toArray, List.map_cons, List.map_nil]; rfl) ?_
   with_reducible refine (height_Parse.calls A c l at_ n a b c_ d e_ at2 0 _ (Kd.C_below HR.out HBd.out) HC.out HG.out).mono ?_
   rintro x7 w7 ⟨rfl, hb7⟩
   refine ⟨_, rfl, ?_⟩
   have HBn := Aside0.mk (below_step HBd.out hb7)
   have B2n := Aside0.mk (blk_below B2d.out hb7)
   have BRn := Aside0.mk (blk_below BRd.out hb7)
   clear HBd B2d BRd hb7
   have HBd := HBn
   have B2d := B2n
   have BRd := BRn
   clear HBn B2n BRn
   refine hK.out _ _ ⟨(blk_cell BRd.out 0).trans rfl, (blk_cell BRd.out 1).trans rfl⟩ (fun hHeld => ?_)
   clear hK K
   refine norm_ (a' := ?_) ?_ ?_
   rotate_left
   ·show Act.put _ (some 21) _ = _
    simp only [Act.put, List.setIfInBounds_toArray, List.set_cons_zero, List.set_cons_succ, i64_w, i32_w]
    rfl
   refine pure_ (i := 9) (N := some 12) (v := ?_) (a' := ?_) #[true, true, true, true, true, true, true, true, true, true, false, false, false, false, false, false, false] rfl rfl (any_of HT_.out (by kernel_rfl)) (fun _ _ _ h => h) (Or.inl ⟨by rfl, ?_⟩) ?_ ?_
   rotate_left
   ·intro w'
    go_simp
    with_reducible rfl
   rotate_left
   ·simp only [Act.put, List.setIfInBounds_toArray, List.set_cons_zero, List.set_cons_succ, i64_w, i32_w]
    rfl
   refine pure_ (i := 10) (N := some 22) (v := ?_) (a' := ?_) #[true, true, true, true, true, true, true, true, true, true, true, false, false, false, false, false, false] rfl rfl (any_of HT_.out (by kernel_rfl)) (fun _ _ _ h => h) (Or.inl ⟨by rfl, ?_⟩) ?_ ?_
   rotate_left
   ·intro w'
    go_simp
    with_reducible rfl
   rotate_left
   ·simp only [Act.put, List.setIfInBounds_toArray, List.set_cons_zero, List.set_cons_succ, i64_w, i32_w]
    rfl
   refine pure_ (i := 11) (N := some 23) (v := ?_) (a' := ?_) #[true, true, true, true, true, true, true, true, true, true, true, true, false, false, false, false, false] rfl rfl (any_of HT_.out (by kernel_rfl)) (fun _ _ _ h => h) (Or.inl ⟨by rfl, ?_⟩) ?_ ?_
   rotate_left
   ·intro w'
    go_simp
    with_reducible rfl
   rotate_left
   ·simp only [Act.put, List.setIfInBounds_toArray, List.set_cons_zero, List.set_cons_succ, i64_w, i32_w]
    rfl
   refine pure_ (i := 12) (N := some 24) (v := ?_) (a' := ?_) #[true, true, true, true, true, true, true, true, true, true, true, true, true, false, false, false, false] rfl rfl (any_of HT_.out (by kernel_rfl)) (fun _ _ _ h => h) (Or.inl ⟨by rfl, ?_⟩) ?_ ?_
   rotate_left
   ·intro w'
    go_simp
    with_reducible rfl
   rotate_left
   ·simp only [Act.put, List.setIfInBounds_toArray, List.set_cons_zero, List.set_cons_succ, i64_w, i32_w]
    rfl
   refine one_ (i := 13) (N := some 3) #[true, true, true, true, true, true, true, true, true, true, true, true, true, true, false, false, false] rfl rfl (one_of HT_.out (by kernel_rfl)) (by decide) (fun K hK => ?_)
   refine box_step ?hg (N := 3) ?hd (cs := #[.bool false, .int .i64 0, .int .i64 0, .int .i64 0, .int .i64 0, .int .i64 0]) (t := 23) ?hr ?_
   (case hd => rfl)
   (case hg => rfl)
   (case hr => first | (go_simp; done) | (go_simp; rfl))
   intro g3 hg w8 hbox hb
   have HBn := Aside0.mk (below_step HBd.out hb)
   have B2n := Aside0.mk (blk_below B2d.out hb)
   have BRn := Aside0.mk (blk_below BRd.out hb)
   have B3d := Aside0.mk hbox
   have G3 := Aside0.mk (show w.heap.size ≤ g3 by rw [hg]; exact below_size HBd.out)
   have N23 := Aside0.mk (show g2 ≠ g3 by rw [hg]; exact Nat.ne_of_lt (blk_lt B2d.out))
   clear HBd B2d BRd hb hbox hg
   have HBd := HBn
   have B2d := B2n
   have BRd := BRn
   clear HBn B2n BRn
   refine hK.out _ _ ⟨(blk_cell BRd.out 0).trans rfl, (blk_cell BRd.out 1).trans rfl⟩ (fun hHeld => ?_)
   clear hK K
   refine norm_ (a' := ?_) ?_ ?_
   rotate_left
   ·show Act.put _ (some 3) _ = _
    simp only [Act.put, List.setIfInBounds_toArray, List.set_cons_zero, List.set_cons_succ, i64_w, i32_w]
    rfl
   exact norm_ (by simp only [putAll, Act.put, List.setIfInBounds_toArray, List.set_cons_zero, List.set_cons_succ]) (hCont g3 _ ⟨hHeld, B3d, BRd, B2d, HBd, G3, N23⟩)
  ·skip
   refine box_step ?hg (N := 3) ?hd (cs := #[.bool false, .int .i64 0, .int .i64 0, .int .i64 0, .int .i64 0, .int .i64 0]) (t := 23) ?hr ?_
   (case hd => rfl)
   (case hg => rfl)
   (case hr => first | (go_simp; done) | (go_simp; rfl))
   intro g3 hg w8 hbox hb
   have HBn := Aside0.mk (below_step HBd.out hb)
   have B2n := Aside0.mk (blk_below B2d.out hb)
   have BRn := Aside0.mk (blk_below BRd.out hb)
   have B3d := Aside0.mk hbox
   have G3 := Aside0.mk (show w.heap.size ≤ g3 by rw [hg]; exact below_size HBd.out)
   have N23 := Aside0.mk (show g2 ≠ g3 by rw [hg]; exact Nat.ne_of_lt (blk_lt B2d.out))
   clear HBd B2d BRd hb hbox hg
   have HBd := HBn
   have B2d := B2n
   have BRd := BRn
   clear HBn B2n BRn
   refine hK.out _ _ ⟨(blk_cell BRd.out 0).trans rfl, (blk_cell BRd.out 1).trans rfl⟩ (fun hHeld => ?_)
   clear hK K
   refine norm_ (a' := ?_) ?_ ?_
   rotate_left
   ·show Act.put _ (some 3) _ = _
    simp only [Act.put, List.setIfInBounds_toArray, List.set_cons_zero, List.set_cons_succ, i64_w, i32_w]
    rfl
   refine one_ (i := 8) (N := some 21) #[true, true, true, true, true, true, true, true, true, false, false, false, false, true, false, false, false] rfl rfl (one_of HT_.out (by kernel_rfl)) (by decide) (fun K hK => ?_)
   refine goes_ Try.func29 (by kernel_rfl) rfl #[.slice A l.length c, .int .i64 at_] (by rfl) rfl rfl (by simp only [List.map_toArray, List.map_cons, List.map_nil]; rfl) ?_
   with_reducible refine (height_Parse.calls A c l at_ n a b c_ d e_ at2 0 _ (Kd.C_below HR.out HBd.out) HC.out HG.out).mono ?_
   rintro x7 w7 ⟨rfl, hb7⟩
   refine ⟨_, rfl, ?_⟩
   have HBn := Aside0.mk (below_step HBd.out hb7)
   have B2n := Aside0.mk (blk_below B2d.out hb7)
   have BRn := Aside0.mk (blk_below BRd.out hb7)
   have B3n := Aside0.mk (blk_below B3d.out hb7)
   clear HBd B2d BRd B3d hb7
   have HBd := HBn
   have B2d := B2n
   have BRd := BRn
   have B3d := B3n
   clear HBn B2n BRn B3n
   refine hK.out _ _ ⟨(blk_cell BRd.out 0).trans rfl, (blk_cell BRd.out 1).trans rfl⟩ (fun hHeld => ?_)
   clear hK K
   refine norm_ (a' := ?_) ?_ ?_
   rotate_left
   ·show Act.put _ (some 21) _ = _
    simp only [Act.put, List.setIfInBounds_toArray, List.set_cons_zero, List.set_cons_succ, i64_w, i32_w]
    rfl
   refine pure_ (i := 9) (N := some 12) (v := ?_) (a' := ?_) #[true, true, true, true, true, true, true, true, true, true, false, false, false, true, false, false, false] rfl rfl (any_of HT_.out (by kernel_rfl)) (fun _ _ _ h => h) (Or.inl ⟨by rfl, ?_⟩) ?_ ?_
   rotate_left
   ·intro w'
    go_simp
    with_reducible rfl
   rotate_left
   ·simp only [Act.put, List.setIfInBounds_toArray, List.set_cons_zero, List.set_cons_succ, i64_w, i32_w]
    rfl
   refine pure_ (i := 10) (N := some 22) (v := ?_) (a' := ?_) #[true, true, true, true, true, true, true, true, true, true, true, false, false, true, false, false, false] rfl rfl (any_of HT_.out (by kernel_rfl)) (fun _ _ _ h => h) (Or.inl ⟨by rfl, ?_⟩) ?_ ?_
   rotate_left
   ·intro w'
    go_simp
    with_reducible rfl
   rotate_left
   ·simp only [Act.put, List.setIfInBounds_toArray, List.set_cons_zero, List.set_cons_succ, i64_w, i32_w]
    rfl
   refine pure_ (i := 11) (N := some 23) (v := ?_) (a' := ?_) #[true, true, true, true, true, true, true, true, true, true, true, true, false, true, false, false, false] rfl rfl (any_of HT_.out (by kernel_rfl)) (fun _ _ _ h => h) (Or.inl ⟨by rfl, ?_⟩) ?_ ?_
   rotate_left
   ·intro w'
    go_simp
    with_reducible rfl
   rotate_left
   ·simp only [Act.put, List.setIfInBounds_toArray, List.set_cons_zero, List.set_cons_succ, i64_w, i32_w]
    rfl
   refine pure_ (i := 12) (N := some 24) (v := ?_) (a' := ?_) #[true, true, true, true, true, true, true, true, true, true, true, true, true, true, false, false, false] rfl rfl (any_of HT_.out (by kernel_rfl)) (fun _ _ _ h => h) (Or.inl ⟨by rfl, ?_⟩) ?_ ?_
   rotate_left
   ·intro w'
    go_simp
    with_reducible rfl
   rotate_left
   ·simp only [Act.put, List.setIfInBounds_toArray, List.set_cons_zero, List.set_cons_succ, i64_w, i32_w]
    rfl
   exact norm_ (by simp only [putAll, Act.put, List.setIfInBounds_toArray, List.set_cons_zero, List.set_cons_succ]) (hCont g3 _ ⟨hHeld, B3d, BRd, B2d, HBd, G3, N23⟩)
 rintro g3 w8 ⟨hHeld, B3, BR, B2, HB, G3, N23⟩
 clear B2d BRd HBd
 obtain ⟨⟨u0, u1, u2, u3, u4, u5⟩, uf0, uf1, uf2, uf3, uf4, uf5⟩ := cells6 B3.out
 refine norm_ (a' := ?_) ?_ ?_
 rotate_left
 ·simp only [putAll, Act.put, List.setIfInBounds_toArray, List.set_cons_zero, List.set_cons_succ]
  rfl
 refine last_ (i := 14) (N := none) #[true, true, true, true, true, true, true, true, true, true, true, true, true, true, true, false, false] rfl rfl (one_of HT_.out (by kernel_rfl)) (by decide) (fun K hK => ?_)
 refine skip_ (w1 := ?_) (by rfl) rfl ?_ ?_
 rotate_left
 ·go_simp
  rfl
 refine hK.out _ _ ?_
 clear hK K
 refine pure_ (i := 15) (N := some 4) (v := ?_) (a' := ?_) #[true, true, true, true, true, true, true, true, true, true, true, true, true, true, true, true, false] rfl rfl (any_of HT_.out (by kernel_rfl)) (fun _ _ _ h => h) (Or.inl ⟨by rfl, ?_⟩) ?_ ?_
 rotate_left
 ·intro w'
  go_simp
  with_reducible rfl
 rotate_left
 ·simp only [Act.put, List.setIfInBounds_toArray, List.set_cons_zero, List.set_cons_succ, i64_w, i32_w]
  rfl
 refine pure_ (i := 16) (N := some 5) (v := ?_) (a' := ?_) #[true, true, true, true, true, true, true, true, true, true, true, true, true, true, true, true, true] rfl rfl (any_of HT_.out (by kernel_rfl)) (fun _ _ _ h => h) (Or.inl ⟨by rfl, ?_⟩) ?_ ?_
 rotate_left
 ·intro w'
  go_simp
  with_reducible rfl
 rotate_left
 ·simp only [Act.put, List.setIfInBounds_toArray, List.set_cons_zero, List.set_cons_succ, i64_w, i32_w]
  rfl
 refine done_ (done_of HT_.out (by kernel_rfl)) ?_
 clear HT_ HW_ hHeld u0 uf0 u1 uf1 u2 uf2 u3 uf3 u4 uf4 u5 uf5
 have nr3 : g ≠ g3 := blk_ne BR.out B3.out (by decide)
 have C3 := Aside0.mk (show ((((((w8.setCell ⟨g3, 0, none⟩ (.bool n)).setCell ⟨g3, 1, none⟩ (.int .i64 a)).setCell ⟨g3, 2, none⟩ (.int .i64 b)).setCell ⟨g3, 3, none⟩ (.int .i64 c_)).setCell ⟨g3, 4, none⟩ (.int .i64 d)).setCell ⟨g3, 5, none⟩ (.int .i64 e_)).heap[g3]? = some (.cells #[.bool n, .int .i64 a, .int .i64 b, .int .i64 c_, .int .i64 d, .int .i64 e_] 23 (0, 0)) from (blk_put (blk_put (blk_put (blk_put (blk_put (blk_put B3.out 0 (.bool n) (cs' := #[.bool n, .int .i64 0, .int .i64 0, .int .i64 0, .int .i64 0, .int .i64 0]) rfl) 1 (.int .i64 a) (cs' := #[.bool n, .int .i64 a, .int .i64 0, .int .i64 0, .int .i64 0, .int .i64 0]) rfl) 2 (.int .i64 b) (cs' := #[.bool n, .int .i64 a, .int .i64 b, .int .i64 0, .int .i64 0, .int .i64 0]) rfl) 3 (.int .i64 c_) (cs' := #[.bool n, .int .i64 a, .int .i64 b, .int .i64 c_, .int .i64 0, .int .i64 0]) rfl) 4 (.int .i64 d) (cs' := #[.bool n, .int .i64 a, .int .i64 b, .int .i64 c_, .int .i64 d, .int .i64 0]) rfl) 5 (.int .i64 e_) (cs' := #[.bool n, .int .i64 a, .int .i64 b, .int .i64 c_, .int .i64 d, .int .i64 e_]) rfl))
 have C2 := Aside0.mk (show ((((((w8.setCell ⟨g3, 0, none⟩ (.bool n)).setCell ⟨g3, 1, none⟩ (.int .i64 a)).setCell ⟨g3, 2, none⟩ (.int .i64 b)).setCell ⟨g3, 3, none⟩ (.int .i64 c_)).setCell ⟨g3, 4, none⟩ (.int .i64 d)).setCell ⟨g3, 5, none⟩ (.int .i64 e_)).heap[g2]? = some (.cells #[.bool false, .int .i64 0, .int .i64 0, .int .i64 0, .int .i64 0, .int .i64 0] 23 (0, 0)) from (blk_far (p := ⟨g3, 5, none⟩) (blk_far (p := ⟨g3, 4, none⟩) (blk_far (p := ⟨g3, 3, none⟩) (blk_far (p := ⟨g3, 2, none⟩) (blk_far (p := ⟨g3, 1, none⟩) (blk_far (p := ⟨g3, 0, none⟩) B2.out N23.out _) N23.out _) N23.out _) N23.out _) N23.out _) N23.out _))
 have CR := Aside0.mk (show ((((((w8.setCell ⟨g3, 0, none⟩ (.bool n)).setCell ⟨g3, 1, none⟩ (.int .i64 a)).setCell ⟨g3, 2, none⟩ (.int .i64 b)).setCell ⟨g3, 3, none⟩ (.int .i64 c_)).setCell ⟨g3, 4, none⟩ (.int .i64 d)).setCell ⟨g3, 5, none⟩ (.int .i64 e_)).heap[g]? = some (.cells (RdC A l.length c at_ 0) 51 (0, 0)) from (blk_far (p := ⟨g3, 5, none⟩) (blk_far (p := ⟨g3, 4, none⟩) (blk_far (p := ⟨g3, 3, none⟩) (blk_far (p := ⟨g3, 2, none⟩) (blk_far (p := ⟨g3, 1, none⟩) (blk_far (p := ⟨g3, 0, none⟩) BR.out nr3 _) nr3 _) nr3 _) nr3 _) nr3 _) nr3 _))
 have CB := Aside0.mk (show Below w.heap.size w ((((((w8.setCell ⟨g3, 0, none⟩ (.bool n)).setCell ⟨g3, 1, none⟩ (.int .i64 a)).setCell ⟨g3, 2, none⟩ (.int .i64 b)).setCell ⟨g3, 3, none⟩ (.int .i64 c_)).setCell ⟨g3, 4, none⟩ (.int .i64 d)).setCell ⟨g3, 5, none⟩ (.int .i64 e_)) from (below_set (below_set (below_set (below_set (below_set (below_set HB.out G3.out) G3.out) G3.out) G3.out) G3.out) G3.out))
 clear B3 B2 BR HB nr3
 generalize ((((((w8.setCell ⟨g3, 0, none⟩ (.bool n)).setCell ⟨g3, 1, none⟩ (.int .i64 a)).setCell ⟨g3, 2, none⟩ (.int .i64 b)).setCell ⟨g3, 3, none⟩ (.int .i64 c_)).setCell ⟨g3, 4, none⟩ (.int .i64 d)).setCell ⟨g3, 5, none⟩ (.int .i64 e_)) = w9 at C3 C2 CR CB ⊢
 obtain ⟨⟨y0, y1, y2, y3, y4, y5⟩, yf0, yf1, yf2, yf3, yf4, yf5⟩ := cells6 C3.out
 obtain ⟨⟨z0, z1, z2, z3, z4, z5⟩, zf0, zf1, zf2, zf3, zf4, zf5⟩ := cells6 C2.out
 have k1 : w9.cell? ⟨g, 1, none⟩ = some (.int .i64 at_) := (blk_cell CR.out 1).trans rfl
 have kf := blk_frozen CR.out 1
 have n2 : g2 ≠ g := blk_ne C2.out CR.out (by decide)
 have n3 : g3 ≠ g := blk_ne C3.out CR.out (by decide)
 have n4 : g ≠ g2 := blk_ne CR.out C2.out (by decide)
 have n5 : g ≠ g3 := blk_ne CR.out C3.out (by decide)
 have n6 : g2 ≠ g3 := N23.out
 have n7 : g3 ≠ g2 := N23.out.symm
 go_wp2
 refine bodyPost_ret (results_single (P := Try.prog) (r := .cell 2 23) rfl (Vals.cell g2 23 #[.bool n, .int .i64 a, .int .i64 b, .int .i64 c_, .int .i64 d, .int .i64 e_] (0, 0) _ rfl (blk_put (blk_put (blk_put (blk_put (blk_put (blk_put (blk_far (p := ⟨g, 1, none⟩) C2.out n2 _) 0 (.bool n) (cs' := #[.bool n, .int .i64 0, .int .i64 0, .int .i64 0, .int .i64 0, .int .i64 0]) rfl) 1 (.int .i64 a) (cs' := #[.bool n, .int .i64 a, .int .i64 0, .int .i64 0, .int .i64 0, .int .i64 0]) rfl) 2 (.int .i64 b) (cs' := #[.bool n, .int .i64 a, .int .i64 b, .int .i64 0, .int .i64 0, .int .i64 0]) rfl) 3 (.int .i64 c_) (cs' := #[.bool n, .int .i64 a, .int .i64 b, .int .i64 c_, .int .i64 0, .int .i64 0]) rfl) 4 (.int .i64 d) (cs' := #[.bool n, .int .i64 a, .int .i64 b, .int .i64 c_, .int .i64 d, .int .i64 0]) rfl) 5 (.int .i64 e_) (cs' := #[.bool n, .int .i64 a, .int .i64 b, .int .i64 c_, .int .i64 d, .int .i64 e_]) rfl) Try.underlying23 rfl (by kernel_rfl) .nil)) rfl ?_
 exact ⟨rfl, (blk_far (p := ⟨g2, 5, none⟩) (blk_far (p := ⟨g2, 4, none⟩) (blk_far (p := ⟨g2, 3, none⟩) (blk_far (p := ⟨g2, 2, none⟩) (blk_far (p := ⟨g2, 1, none⟩) (blk_far (p := ⟨g2, 0, none⟩) (blk_put CR.out 1 (.int .i64 at2) (cs' := RdC A l.length c at2 0) rfl) n4 _) n4 _) n4 _) n4 _) n4 _) n4 _), (grown_new (grown_new (grown_new (grown_new (grown_new (grown_new (grown_below CB.out (grown_set CR.out 1 (.int .i64 at2))) G2.out) G2.out) G2.out) G2.out) G2.out) G2.out)⟩
def or_heix.T3 : Bool × List (List Nat × List Nat) := (true, [([], []), ([0], [0]), ([1], [1]), ([2], [2]), ([], []), ([4], [4]), ([5], [5]), ([6], [6]), ([3, 7], [3, 7]), ([8], [8]), ([9], [9]), ([9], [9]), ([9], [9]), ([], []), ([13, 10, 8, 0, 1, 2, 3, 4, 5, 6, 7, 8, 9, 10, 13], [10, 13]), ([11, 14, 0, 1, 2, 3, 4, 5, 6, 7, 8, 9, 10, 11, 13, 14], [11]), ([12, 15, 0, 1, 2, 3, 4, 5, 6, 7, 8, 9, 10, 11, 12, 13, 14, 15], [12])])
def or_heix.B3 : List Nat := [0, 1, 3, 7, 0, 16, 48, 112, 255, 511, 1023, 1023, 1023, 0, 10239, 28671, 65535]
theorem or_heix.tab3 : rtab .any (opsOf Try.f24 3) = or_heix.T3 := by kernel_rfl
theorem or_heix.bits3 : waitsOk or_heix.T3.2 or_heix.B3 = true := by kernel_rfl
theorem or_heix (g : Nat) (A : Option Addr) (c : Nat) (l : List Int) (at_ e : Int) (n : Bool) (a b c_ d e_ at2 e2 : Int) (w : World) (he : e = 0) (hG : hpGo l at_ = (n, a, b, c_, d, e_, at2, e2)) (hs : ¬ e2 = 0) (hB : Bytes l) (hl : l.length ≤ 1000000000000) (hr : Kd.C (Kd.int .u8) w A l.length l) (hc : l.length ≤ c) (hb : w.heap[g]? = some (.cells (RdC A l.length c at_ e) 51 (0, 0))) :
  Calls Try.prog 24 #[.pointer (some ⟨g, 0, none⟩)] w fun x w' => x = .returned (.agg #[.bool n, .int .i64 a, .int .i64 b, .int .i64 c_, .int .i64 d, .int .i64 e_]) ∧ w'.heap[g]? = some (.cells (RdC A l.length c at_ e2) 51 (0, 0)) ∧ w.grownBy w' (some g) := by
 subst he
 have hu23 := Try.underlying23
 have HBB := Aside0.mk hb
 have HG := Aside0.mk (show height_Parse.f l at_ = some (n, a, b, c_, d, e_, at2, e2) by unfold height_Parse.f; rw [if_pos ⟨hl, hB⟩, hG])
 have HR := Aside0.mk hr
 have HC := Aside0.mk hc
 have b1 : (e2 != 0) = true := bne_iff_ne.mpr hs
 clear hs
 clear hG hb hr hc hB hl
 go_enter Try.func24, Try.ntmps24
 go_upto_region 3 with (((with_reducible refine gate_dst (N := 2) rfl ?_); refine box_event ?hg (N := 2) ?hd (cs := #[.bool false, .int .i64 0, .int .i64 0, .int .i64 0, .int .i64 0, .int .i64 0]) (t := 23) ?hr ?_; (case hd => rfl); (case hg => rfl); (case hr => first | (go_simp; done) | (go_simp; rfl)); intro g2 hg wq hbox hb; have HB := Aside0.mk hb; have G2 := Aside0.mk (Nat.le_of_eq hg.symm); have B2 := Aside0.mk hbox; have BR := Aside0.mk (blk_below HBB.out hb); clear hb hbox hg; have h1 : wq.cell? ⟨g, 2, none⟩ = some (.int .i64 0) := (blk_cell BR.out 2).trans rfl))
 clear h1
 have HBd := Aside0.mk (below_drew HB.out)
 have B2d := Aside0.mk (show wq.drew.heap[g2]? = _ from B2.out)
 have BRd := Aside0.mk (show wq.drew.heap[g]? = _ from BR.out)
 clear HB B2 BR
 refine start_ (n := 17) (S := fun w' => w'.cell? ⟨g, 0, none⟩ = some (.slice A l.length c) ∧ w'.cell? ⟨g, 1, none⟩ = some (.int .i64 at_)) (ds := [14]) #[false, false, false, false, false, false, false, false, false, false, false, false, false, false, false, false, false] (by kernel_rfl) rfl rfl ⟨(blk_cell BRd.out 0).trans rfl, (blk_cell BRd.out 1).trans rfl⟩ (fun hHeld => ?_); refine with_tabW or_heix.tab3 or_heix.bits3 (fun HT_ HW_ => ?_)
 refine pure_ (i := 0) (N := some 13) (v := ?_) (a' := ?_) #[true, false, false, false, false, false, false, false, false, false, false, false, false, false, false, false, false] rfl rfl (any_of HT_.out (by kernel_rfl)) (fun _ _ _ h => h) (Or.inl ⟨by rfl, ?_⟩) ?_ ?_
 rotate_left
 ·intro w'
  go_simp
  with_reducible rfl
 rotate_left
 ·simp only [Act.put, List.setIfInBounds_toArray, List.set_cons_zero, List.set_cons_succ, i64_w, i32_w]
  rfl
 refine pure_ (i := 1) (N := some 14) (v := ?_) (a' := ?_) #[true, true, false, false, false, false, false, false, false, false, false, false, false, false, false, false, false] rfl rfl (any_of HT_.out (by kernel_rfl)) (fun _ _ _ h => h) (Or.inl ⟨by rfl, ?_⟩) ?_ ?_
 rotate_left
 ·intro w'
  go_simp
  with_reducible rfl
 rotate_left
 ·simp only [Act.put, List.setIfInBounds_toArray, List.set_cons_zero, List.set_cons_succ, i64_w, i32_w]
  rfl
 refine pure_ (i := 2) (N := some 15) (v := ?_) (a' := ?_) #[true, true, true, false, false, false, false, false, false, false, false, false, false, false, false, false, false] rfl rfl (any_of HT_.out (by kernel_rfl)) (fun _ _ _ h => h) (Or.inl ⟨by rfl, ?_⟩) ?_ ?_
 rotate_left
 ·intro w'
  go_simp
  with_reducible rfl
 rotate_left
 ·simp only [Act.put, List.setIfInBounds_toArray, List.set_cons_zero, List.set_cons_succ, i64_w, i32_w]
  rfl
 refine pure_ (i := 4) (N := some 17) (v := ?_) (a' := ?_) #[true, true, true, false, true, false, false, false, false, false, false, false, false, false, false, false, false] rfl rfl (any_of HT_.out (by kernel_rfl)) (fun _ _ _ h => h) (Or.inl ⟨by rfl, ?_⟩) ?_ ?_
 rotate_left
 ·intro w'
  go_simp
  with_reducible rfl
 rotate_left
 ·simp only [Act.put, List.setIfInBounds_toArray, List.set_cons_zero, List.set_cons_succ, i64_w, i32_w]
  rfl
 refine pure_ (i := 5) (N := some 18) (v := ?_) (a' := ?_) #[true, true, true, false, true, true, false, false, false, false, false, false, false, false, false, false, false] rfl rfl (any_of HT_.out (by kernel_rfl)) (fun _ _ _ h => h) (Or.inl ⟨by rfl, ?_⟩) ?_ ?_
 rotate_left
 ·intro w'
  go_simp
  with_reducible rfl
 rotate_left
 ·simp only [Act.put, List.setIfInBounds_toArray, List.set_cons_zero, List.set_cons_succ, i64_w, i32_w]
  rfl
 refine pure_ (i := 6) (N := some 19) (v := ?_) (a' := ?_) #[true, true, true, false, true, true, true, false, false, false, false, false, false, false, false, false, false] rfl rfl (any_of HT_.out (by kernel_rfl)) (fun _ _ _ h => h) (Or.inl ⟨by rfl, ?_⟩) ?_ ?_
 rotate_left
 ·intro w'
  go_simp
  with_reducible rfl
 rotate_left
 ·simp only [Act.put, List.setIfInBounds_toArray, List.set_cons_zero, List.set_cons_succ, i64_w, i32_w]
  rfl
 refine take_ (i := 3) (N := some 16) (v := ?_) (a' := ?_) #[true, true, true, true, true, true, true, false, false, false, false, false, false, false, false, false, false] rfl rfl (take_ofW HT_.out HW_.out (by kernel_rfl)) (fun _ _ _ h => h) (Or.inl ⟨by rfl, ?_⟩) hHeld ?_ ?_
 rotate_left
 ·rintro w' ⟨s0, s1⟩
  go_simp
  with_reducible rfl
 rotate_left
 ·simp only [Act.put, List.setIfInBounds_toArray, List.set_cons_zero, List.set_cons_succ, i64_w, i32_w]
  rfl
 refine take_ (i := 7) (N := some 20) (v := ?_) (a' := ?_) #[true, true, true, true, true, true, true, true, false, false, false, false, false, false, false, false, false] rfl rfl (take_ofW HT_.out HW_.out (by kernel_rfl)) (fun _ _ _ h => h) (Or.inl ⟨by rfl, ?_⟩) hHeld ?_ ?_
 rotate_left
 ·rintro w' ⟨s0, s1⟩
  go_simp
  with_reducible rfl
 rotate_left
 ·simp only [Act.put, List.setIfInBounds_toArray, List.set_cons_zero, List.set_cons_succ, i64_w, i32_w]
  rfl
 refine join_ (σ := Nat) 3 #[true, true, true, true, true, true, true, true, true, true, true, true, true, true, false, false, false] (fun s_ => [(21, .tuple #[.agg #[.bool n, .int .i64 a, .int .i64 b, .int .i64 c_, .int .i64 d, .int .i64 e_], .int .i64 at2, .int .i64 e2]), (12, .tuple #[.agg #[.bool n, .int .i64 a, .int .i64 b, .int .i64 c_, .int .i64 d, .int .i64 e_], .int .i64 at2, .int .i64 e2]), (22, .agg #[.bool n, .int .i64 a, .int .i64 b, .int .i64 c_, .int .i64 d, .int .i64 e_]), (23, .int .i64 at2), (24, .int .i64 e2), (3, .pointer (some ⟨s_, 0, none⟩))]) (fun s_ w' => (w'.cell? ⟨g, 0, none⟩ = some (.slice A l.length c) ∧ w'.cell? ⟨g, 1, none⟩ = some (.int .i64 at_)) ∧ Aside0 (w'.heap[s_]? = some (.cells #[.bool false, .int .i64 0, .int .i64 0, .int .i64 0, .int .i64 0, .int .i64 0] 23 (0, 0))) ∧ Aside0 (w'.heap[g]? = some (.cells (RdC A l.length c at_ 0) 51 (0, 0))) ∧ Aside0 (w'.heap[g2]? = some (.cells #[.bool false, .int .i64 0, .int .i64 0, .int .i64 0, .int .i64 0, .int .i64 0] 23 (0, 0))) ∧ Aside0 (Below w.heap.size w w') ∧ Aside0 (w.heap.size ≤ s_) ∧ Aside0 (g2 ≠ s_)) ?_ ?_
 rotate_left
 ·intro hCont
  refine two_ (i := 8) (j := 13) (Ni := some 21) (Nj := some 3) #[true, true, true, true, true, true, true, true, true, false, false, false, false, false, false, false, false] #[true, true, true, true, true, true, true, true, false, false, false, false, false, true, false, false, false] rfl rfl rfl rfl (two_of HT_.out (by kernel_rfl)) (by decide) (by decide) (fun K hK => ?_) (fun K hK => ?_)
  ·skip
   refine goes_ Try.func29 (by kernel_rfl) rfl #[.slice A l.length c, .int .i64 at_] (by rfl) rfl rfl (by simp only [List.map_toArray, List.map_cons, List.map_nil]; rfl) ?_
   with_reducible refine (height_Parse.calls A c l at_ n a b c_ d e_ at2 e2 _ (Kd.C_below HR.out HBd.out) HC.out HG.out).mono ?_
   rintro x7 w7 ⟨rfl, hb7⟩
   refine ⟨_, rfl, ?_⟩
   have HBn := Aside0.mk (below_step HBd.out hb7)
   have B2n := Aside0.mk (blk_below B2d.out hb7)
   have BRn := Aside0.mk (blk_below BRd.out hb7)
   clear HBd B2d BRd hb7
   have HBd := HBn
   have B2d := B2n
   have BRd := BRn
   clear HBn B2n BRn
   refine hK.out _ _ ⟨(blk_cell BRd.out 0).trans rfl, (blk_cell BRd.out 1).trans rfl⟩ (fun hHeld => ?_)
   clear hK K
   refine norm_ (a' := ?_) ?_ ?_
   rotate_left
   ·show Act.put _ (some 21) _ = _
    simp only [Act.put, List.setIfInBounds_toArray, List.set_cons_zero, List.set_cons_succ, i64_w, i32_w]
    rfl
   refine pure_ (i := 9) (N := some 12) (v := ?_) (a' := ?_) #[true, true, true, true, true, true, true, true, true, true, false, false, false, false, false, false, false] rfl rfl (any_of HT_.out (by kernel_rfl)) (fun _ _ _ h => h) (Or.inl ⟨by rfl, ?_⟩) ?_ ?_
   rotate_left
   ·intro w'
    go_simp
    with_reducible rfl
   rotate_left
   ·simp only [Act.put, List.setIfInBounds_toArray, List.set_cons_zero, List.set_cons_succ, i64_w, i32_w]
    rfl
   refine pure_ (i := 10) (N := some 22) (v := ?_) (a' := ?_) #[true, true, true, true, true, true, true, true, true, true, true, false, false, false, false, false, false] rfl rfl (any_of HT_.out (by kernel_rfl)) (fun _ _ _ h => h) (Or.inl ⟨by rfl, ?_⟩) ?_ ?_
   rotate_left
   ·intro w'
    go_simp
    with_reducible rfl
   rotate_left
   ·simp only [Act.put, List.setIfInBounds_toArray, List.set_cons_zero, List.set_cons_succ, i64_w, i32_w]
    rfl
   refine pure_ (i := 11) (N := some 23) (v := ?_) (a' := ?_) #[true, true, true, true, true, true, true, true, true, true, true, true, false, false, false, false, false] rfl rfl (any_of HT_.out (by kernel_rfl)) (fun _ _ _ h => h) (Or.inl ⟨by rfl, ?_⟩) ?_ ?_
   rotate_left
   ·intro w'
    go_simp
    with_reducible rfl
   rotate_left
   ·simp only [Act.put, List.setIfInBounds_toArray, List.set_cons_zero, List.set_cons_succ, i64_w, i32_w]
    rfl
   refine pure_ (i := 12) (N := some 24) (v := ?_) (a' := ?_) #[true, true, true, true, true, true, true, true, true, true, true, true, true, false, false, false, false] rfl rfl (any_of HT_.out (by kernel_rfl)) (fun _ _ _ h => h) (Or.inl ⟨by rfl, ?_⟩) ?_ ?_
   rotate_left
   ·intro w'
    go_simp
    with_reducible rfl
   rotate_left
   ·simp only [Act.put, List.setIfInBounds_toArray, List.set_cons_zero, List.set_cons_succ, i64_w, i32_w]
    rfl
   refine one_ (i := 13) (N := some 3) #[true, true, true, true, true, true, true, true, true, true, true, true, true, true, false, false, false] rfl rfl (one_of HT_.out (by kernel_rfl)) (by decide) (fun K hK => ?_)
   refine box_step ?hg (N := 3) ?hd (cs := #[.bool false, .int .i64 0, .int .i64 0, .int .i64 0, .int .i64 0, .int .i64 0]) (t := 23) ?hr ?_
   (case hd => rfl)
   (case hg => rfl)
   (case hr => first | (go_simp; done) | (go_simp; rfl))
   intro g3 hg w8 hbox hb
   have HBn := Aside0.mk (below_step HBd.out hb)
   have B2n := Aside0.mk (blk_below B2d.out hb)
   have BRn := Aside0.mk (blk_below BRd.out hb)
   have B3d := Aside0.mk hbox
   have G3 := Aside0.mk (show w.heap.size ≤ g3 by rw [hg]; exact below_size HBd.out)
   have N23 := Aside0.mk (show g2 ≠ g3 by rw [hg]; exact Nat.ne_of_lt (blk_lt B2d.out))
   clear HBd B2d BRd hb hbox hg
   have HBd := HBn
   have B2d := B2n
   have BRd := BRn
   clear HBn B2n BRn
   refine hK.out _ _ ⟨(blk_cell BRd.out 0).trans rfl, (blk_cell BRd.out 1).trans rfl⟩ (fun hHeld => ?_)
   clear hK K
   refine norm_ (a' := ?_) ?_ ?_
   rotate_left
   ·show Act.put _ (some 3) _ = _
    simp only [Act.put, List.setIfInBounds_toArray, List.set_cons_zero, List.set_cons_succ, i64_w, i32_w]
    rfl
   exact norm_ (by simp only [putAll, Act.put, List.setIfInBounds_toArray, List.set_cons_zero, List.set_cons_succ]) (hCont g3 _ ⟨hHeld, B3d, BRd, B2d, HBd, G3, N23⟩)
  ·skip
   refine box_step ?hg (N := 3) ?hd (cs := #[.bool false, .int .i64 0, .int .i64 0, .int .i64 0, .int .i64 0, .int .i64 0]) (t := 23) ?hr ?_
   (case hd => rfl)
   (case hg => rfl)
   (case hr => first | (go_simp; done) | (go_simp; rfl))
   intro g3 hg w8 hbox hb
   have HBn := Aside0.mk (below_step HBd.out hb)
   have B2n := Aside0.mk (blk_below B2d.out hb)
   have BRn := Aside0.mk (blk_below BRd.out hb)
   have B3d := Aside0.mk hbox
   have G3 := Aside0.mk (show w.heap.size ≤ g3 by rw [hg]; exact below_size HBd.out)
   have N23 := Aside0.mk (show g2 ≠ g3 by rw [hg]; exact Nat.ne_of_lt (blk_lt B2d.out))
   clear HBd B2d BRd hb hbox hg
   have HBd := HBn
   have B2d := B2n
   have BRd := BRn
   clear HBn B2n BRn
   refine hK.out _ _ ⟨(blk_cell BRd.out 0).trans rfl, (blk_cell BRd.out 1).trans rfl⟩ (fun hHeld => ?_)
   clear hK K
   refine norm_ (a' := ?_) ?_ ?_
   rotate_left
   ·show Act.put _ (some 3) _ = _
    simp only [Act.put, List.setIfInBounds_toArray, List.set_cons_zero, List.set_cons_succ, i64_w, i32_w]
    rfl
   refine one_ (i := 8) (N := some 21) #[true, true, true, true, true, true, true, true, true, false, false, false, false, true, false, false, false] rfl rfl (one_of HT_.out (by kernel_rfl)) (by decide) (fun K hK => ?_)
   refine goes_ Try.func29 (by kernel_rfl) rfl #[.slice A l.length c, .int .i64 at_] (by rfl) rfl rfl (by simp only [List.map_toArray, List.map_cons, List.map_nil]; rfl) ?_
   with_reducible refine (height_Parse.calls A c l at_ n a b c_ d e_ at2 e2 _ (Kd.C_below HR.out HBd.out) HC.out HG.out).mono ?_
   rintro x7 w7 ⟨rfl, hb7⟩
   refine ⟨_, rfl, ?_⟩
   have HBn := Aside0.mk (below_step HBd.out hb7)
   have B2n := Aside0.mk (blk_below B2d.out hb7)
   have BRn := Aside0.mk (blk_below BRd.out hb7)
   have B3n := Aside0.mk (blk_below B3d.out hb7)
   clear HBd B2d BRd B3d hb7
   have HBd := HBn
   have B2d := B2n
   have BRd := BRn
   have B3d := B3n
   clear HBn B2n BRn B3n
   refine hK.out _ _ ⟨(blk_cell BRd.out 0).trans rfl, (blk_cell BRd.out 1).trans rfl⟩ (fun hHeld => ?_)
   clear hK K
   refine norm_ (a' := ?_) ?_ ?_
   rotate_left
   ·show Act.put _ (some 21) _ = _
    simp only [Act.put, List.setIfInBounds_toArray, List.set_cons_zero, List.set_cons_succ, i64_w, i32_w]
    rfl
   refine pure_ (i := 9) (N := some 12) (v := ?_) (a' := ?_) #[true, true, true, true, true, true, true, true, true, true, false, false, false, true, false, false, false] rfl rfl (any_of HT_.out (by kernel_rfl)) (fun _ _ _ h => h) (Or.inl ⟨by rfl, ?_⟩) ?_ ?_
   rotate_left
   ·intro w'
    go_simp
    with_reducible rfl
   rotate_left
   ·simp only [Act.put, List.setIfInBounds_toArray, List.set_cons_zero, List.set_cons_succ, i64_w, i32_w]
    rfl
   refine pure_ (i := 10) (N := some 22) (v := ?_) (a' := ?_) #[true, true, true, true, true, true, true, true, true, true, true, false, false, true, false, false, false] rfl rfl (any_of HT_.out (by kernel_rfl)) (fun _ _ _ h => h) (Or.inl ⟨by rfl, ?_⟩) ?_ ?_
   rotate_left
   ·intro w'
    go_simp
    with_reducible rfl
   rotate_left
   ·simp only [Act.put, List.setIfInBounds_toArray, List.set_cons_zero, List.set_cons_succ, i64_w, i32_w]
    rfl
   refine pure_ (i := 11) (N := some 23) (v := ?_) (a' := ?_) #[true, true, true, true, true, true, true, true, true, true, true, true, false, true, false, false, false] rfl rfl (any_of HT_.out (by kernel_rfl)) (fun _ _ _ h => h) (Or.inl ⟨by rfl, ?_⟩) ?_ ?_
   rotate_left
   ·intro w'
    go_simp
    with_reducible rfl
   rotate_left
   ·simp only [Act.put, List.setIfInBounds_toArray, List.set_cons_zero, List.set_cons_succ, i64_w, i32_w]
    rfl
   refine pure_ (i := 12) (N := some 24) (v := ?_) (a' := ?_) #[true, true, true, true, true, true, true, true, true, true, true, true, true, true, false, false, false] rfl rfl (any_of HT_.out (by kernel_rfl)) (fun _ _ _ h => h) (Or.inl ⟨by rfl, ?_⟩) ?_ ?_
   rotate_left
   ·intro w'
    go_simp
    with_reducible rfl
   rotate_left
   ·simp only [Act.put, List.setIfInBounds_toArray, List.set_cons_zero, List.set_cons_succ, i64_w, i32_w]
    rfl
   exact norm_ (by simp only [putAll, Act.put, List.setIfInBounds_toArray, List.set_cons_zero, List.set_cons_succ]) (hCont g3 _ ⟨hHeld, B3d, BRd, B2d, HBd, G3, N23⟩)
 rintro g3 w8 ⟨hHeld, B3, BR, B2, HB, G3, N23⟩
 clear B2d BRd HBd
 obtain ⟨⟨u0, u1, u2, u3, u4, u5⟩, uf0, uf1, uf2, uf3, uf4, uf5⟩ := cells6 B3.out
 refine norm_ (a' := ?_) ?_ ?_
 rotate_left
 ·simp only [putAll, Act.put, List.setIfInBounds_toArray, List.set_cons_zero, List.set_cons_succ]
  rfl
 refine last_ (i := 14) (N := none) #[true, true, true, true, true, true, true, true, true, true, true, true, true, true, true, false, false] rfl rfl (one_of HT_.out (by kernel_rfl)) (by decide) (fun K hK => ?_)
 refine skip_ (w1 := ?_) (by rfl) rfl ?_ ?_
 rotate_left
 ·go_simp
  rfl
 refine hK.out _ _ ?_
 clear hK K
 refine pure_ (i := 15) (N := some 4) (v := ?_) (a' := ?_) #[true, true, true, true, true, true, true, true, true, true, true, true, true, true, true, true, false] rfl rfl (any_of HT_.out (by kernel_rfl)) (fun _ _ _ h => h) (Or.inl ⟨by rfl, ?_⟩) ?_ ?_
 rotate_left
 ·intro w'
  go_simp
  with_reducible rfl
 rotate_left
 ·simp only [Act.put, List.setIfInBounds_toArray, List.set_cons_zero, List.set_cons_succ, i64_w, i32_w]
  rfl
 refine pure_ (i := 16) (N := some 5) (v := ?_) (a' := ?_) #[true, true, true, true, true, true, true, true, true, true, true, true, true, true, true, true, true] rfl rfl (any_of HT_.out (by kernel_rfl)) (fun _ _ _ h => h) (Or.inl ⟨by rfl, ?_⟩) ?_ ?_
 rotate_left
 ·intro w'
  go_simp
  with_reducible rfl
 rotate_left
 ·simp only [Act.put, List.setIfInBounds_toArray, List.set_cons_zero, List.set_cons_succ, i64_w, i32_w]
  rfl
 refine done_ (done_of HT_.out (by kernel_rfl)) ?_
 clear HT_ HW_ hHeld u0 uf0 u1 uf1 u2 uf2 u3 uf3 u4 uf4 u5 uf5
 have nr3 : g ≠ g3 := blk_ne BR.out B3.out (by decide)
 have C3 := Aside0.mk (show ((((((w8.setCell ⟨g3, 0, none⟩ (.bool n)).setCell ⟨g3, 1, none⟩ (.int .i64 a)).setCell ⟨g3, 2, none⟩ (.int .i64 b)).setCell ⟨g3, 3, none⟩ (.int .i64 c_)).setCell ⟨g3, 4, none⟩ (.int .i64 d)).setCell ⟨g3, 5, none⟩ (.int .i64 e_)).heap[g3]? = some (.cells #[.bool n, .int .i64 a, .int .i64 b, .int .i64 c_, .int .i64 d, .int .i64 e_] 23 (0, 0)) from (blk_put (blk_put (blk_put (blk_put (blk_put (blk_put B3.out 0 (.bool n) (cs' := #[.bool n, .int .i64 0, .int .i64 0, .int .i64 0, .int .i64 0, .int .i64 0]) rfl) 1 (.int .i64 a) (cs' := #[.bool n, .int .i64 a, .int .i64 0, .int .i64 0, .int .i64 0, .int .i64 0]) rfl) 2 (.int .i64 b) (cs' := #[.bool n, .int .i64 a, .int .i64 b, .int .i64 0, .int .i64 0, .int .i64 0]) rfl) 3 (.int .i64 c_) (cs' := #[.bool n, .int .i64 a, .int .i64 b, .int .i64 c_, .int .i64 0, .int .i64 0]) rfl) 4 (.int .i64 d) (cs' := #[.bool n, .int .i64 a, .int .i64 b, .int .i64 c_, .int .i64 d, .int .i64 0]) rfl) 5 (.int .i64 e_) (cs' := #[.bool n, .int .i64 a, .int .i64 b, .int .i64 c_, .int .i64 d, .int .i64 e_]) rfl))
 have C2 := Aside0.mk (show ((((((w8.setCell ⟨g3, 0, none⟩ (.bool n)).setCell ⟨g3, 1, none⟩ (.int .i64 a)).setCell ⟨g3, 2, none⟩ (.int .i64 b)).setCell ⟨g3, 3, none⟩ (.int .i64 c_)).setCell ⟨g3, 4, none⟩ (.int .i64 d)).setCell ⟨g3, 5, none⟩ (.int .i64 e_)).heap[g2]? = some (.cells #[.bool false, .int .i64 0, .int .i64 0, .int .i64 0, .int .i64 0, .int .i64 0] 23 (0, 0)) from (blk_far (p := ⟨g3, 5, none⟩) (blk_far (p := ⟨g3, 4, none⟩) (blk_far (p := ⟨g3, 3, none⟩) (blk_far (p := ⟨g3, 2, none⟩) (blk_far (p := ⟨g3, 1, none⟩) (blk_far (p := ⟨g3, 0, none⟩) B2.out N23.out _) N23.out _) N23.out _) N23.out _) N23.out _) N23.out _))
 have CR := Aside0.mk (show ((((((w8.setCell ⟨g3, 0, none⟩ (.bool n)).setCell ⟨g3, 1, none⟩ (.int .i64 a)).setCell ⟨g3, 2, none⟩ (.int .i64 b)).setCell ⟨g3, 3, none⟩ (.int .i64 c_)).setCell ⟨g3, 4, none⟩ (.int .i64 d)).setCell ⟨g3, 5, none⟩ (.int .i64 e_)).heap[g]? = some (.cells (RdC A l.length c at_ 0) 51 (0, 0)) from (blk_far (p := ⟨g3, 5, none⟩) (blk_far (p := ⟨g3, 4, none⟩) (blk_far (p := ⟨g3, 3, none⟩) (blk_far (p := ⟨g3, 2, none⟩) (blk_far (p := ⟨g3, 1, none⟩) (blk_far (p := ⟨g3, 0, none⟩) BR.out nr3 _) nr3 _) nr3 _) nr3 _) nr3 _) nr3 _))
 have CB := Aside0.mk (show Below w.heap.size w ((((((w8.setCell ⟨g3, 0, none⟩ (.bool n)).setCell ⟨g3, 1, none⟩ (.int .i64 a)).setCell ⟨g3, 2, none⟩ (.int .i64 b)).setCell ⟨g3, 3, none⟩ (.int .i64 c_)).setCell ⟨g3, 4, none⟩ (.int .i64 d)).setCell ⟨g3, 5, none⟩ (.int .i64 e_)) from (below_set (below_set (below_set (below_set (below_set (below_set HB.out G3.out) G3.out) G3.out) G3.out) G3.out) G3.out))
 clear B3 B2 BR HB nr3
 generalize ((((((w8.setCell ⟨g3, 0, none⟩ (.bool n)).setCell ⟨g3, 1, none⟩ (.int .i64 a)).setCell ⟨g3, 2, none⟩ (.int .i64 b)).setCell ⟨g3, 3, none⟩ (.int .i64 c_)).setCell ⟨g3, 4, none⟩ (.int .i64 d)).setCell ⟨g3, 5, none⟩ (.int .i64 e_)) = w9 at C3 C2 CR CB ⊢
 obtain ⟨⟨y0, y1, y2, y3, y4, y5⟩, yf0, yf1, yf2, yf3, yf4, yf5⟩ := cells6 C3.out
 obtain ⟨⟨z0, z1, z2, z3, z4, z5⟩, zf0, zf1, zf2, zf3, zf4, zf5⟩ := cells6 C2.out
 have k1 : w9.cell? ⟨g, 2, none⟩ = some (.int .i64 0) := (blk_cell CR.out 2).trans rfl
 have kf := blk_frozen CR.out 2
 have n2 : g2 ≠ g := blk_ne C2.out CR.out (by decide)
 have n3 : g3 ≠ g := blk_ne C3.out CR.out (by decide)
 have n4 : g ≠ g2 := blk_ne CR.out C2.out (by decide)
 have n5 : g ≠ g3 := blk_ne CR.out C3.out (by decide)
 have n6 : g2 ≠ g3 := N23.out
 have n7 : g3 ≠ g2 := N23.out.symm
 go_wp2
 refine bodyPost_ret (results_single (P := Try.prog) (r := .cell 2 23) rfl (Vals.cell g2 23 #[.bool n, .int .i64 a, .int .i64 b, .int .i64 c_, .int .i64 d, .int .i64 e_] (0, 0) _ rfl (blk_put (blk_put (blk_put (blk_put (blk_put (blk_put (blk_far (p := ⟨g, 2, none⟩) C2.out n2 _) 0 (.bool n) (cs' := #[.bool n, .int .i64 0, .int .i64 0, .int .i64 0, .int .i64 0, .int .i64 0]) rfl) 1 (.int .i64 a) (cs' := #[.bool n, .int .i64 a, .int .i64 0, .int .i64 0, .int .i64 0, .int .i64 0]) rfl) 2 (.int .i64 b) (cs' := #[.bool n, .int .i64 a, .int .i64 b, .int .i64 0, .int .i64 0, .int .i64 0]) rfl) 3 (.int .i64 c_) (cs' := #[.bool n, .int .i64 a, .int .i64 b, .int .i64 c_, .int .i64 0, .int .i64 0]) rfl) 4 (.int .i64 d) (cs' := #[.bool n, .int .i64 a, .int .i64 b, .int .i64 c_, .int .i64 d, .int .i64 0]) rfl) 5 (.int .i64 e_) (cs' := #[.bool n, .int .i64 a, .int .i64 b, .int .i64 c_, .int .i64 d, .int .i64 e_]) rfl) Try.underlying23 rfl (by kernel_rfl) .nil)) rfl ?_
 exact ⟨rfl, (blk_far (p := ⟨g2, 5, none⟩) (blk_far (p := ⟨g2, 4, none⟩) (blk_far (p := ⟨g2, 3, none⟩) (blk_far (p := ⟨g2, 2, none⟩) (blk_far (p := ⟨g2, 1, none⟩) (blk_far (p := ⟨g2, 0, none⟩) (blk_put CR.out 2 (.int .i64 e2) (cs' := RdC A l.length c at_ e2) rfl) n4 _) n4 _) n4 _) n4 _) n4 _) n4 _), (grown_new (grown_new (grown_new (grown_new (grown_new (grown_new (grown_below CB.out (grown_set CR.out 2 (.int .i64 e2))) G2.out) G2.out) G2.out) G2.out) G2.out) G2.out)⟩
theorem or_height (g : Nat) (A : Option Addr) (c : Nat) (l : List Int) (at_ e : Int) (n : Bool) (a b c_ d e_ at2 e2 : Int) (w : World) (hN : rdH l at_ e = (n, a, b, c_, d, e_, at2, e2)) (hB : Bytes l) (hl : l.length ≤ 1000000000000) (hr : Kd.C (Kd.int .u8) w A l.length l) (hc : l.length ≤ c) (hb : w.heap[g]? = some (.cells (RdC A l.length c at_ e) 51 (0, 0))) :
  Calls Try.prog 24 #[.pointer (some ⟨g, 0, none⟩)] w fun x w' => x = .returned (.agg #[.bool n, .int .i64 a, .int .i64 b, .int .i64 c_, .int .i64 d, .int .i64 e_]) ∧ w'.heap[g]? = some (.cells (RdC A l.length c at2 e2) 51 (0, 0)) ∧ w.grownBy w' (some g) := by
 unfold rdH at hN
 by_cases he : e = 0
 ·rw [if_pos he] at hN
  obtain ⟨n', a', b', c', d', e', p', q', hG⟩ : ∃ n a b c d e p q, hpGo l at_ = (n, a, b, c, d, e, p, q) := ⟨_, _, _, _, _, _, _, _, rfl⟩
  rw [hG] at hN
  simp only at hN
  by_cases hs : q' = 0
  ·rw [if_pos hs] at hN
   simp only [Prod.mk.injEq] at hN
   obtain ⟨rfl, rfl, rfl, rfl, rfl, rfl, rfl, rfl⟩ := hN
   subst hs
   exact or_hei g A c l at_ e _ _ _ _ _ _ _ 0 w he hG rfl hB hl hr hc hb
  ·rw [if_neg hs] at hN
   simp only [Prod.mk.injEq] at hN
   obtain ⟨rfl, rfl, rfl, rfl, rfl, rfl, rfl, rfl⟩ := hN
   exact or_heix g A c l at_ e _ _ _ _ _ _ _ _ w he hG hs hB hl hr hc hb
 ·rw [if_neg he] at hN
  simp only [Prod.mk.injEq] at hN
  obtain ⟨rfl, rfl, rfl, rfl, rfl, rfl, rfl, rfl⟩ := hN
  refine (or_heiE g A l.length c at_ e w he hb).mono ?_
  rintro x w' ⟨rfl, hbb⟩
  exact ⟨rfl, blk_below hb hbb, hbb.os, hbb.tape, hbb.output, hbb.size, fun k hk _ => hbb.block k hk⟩
end Go.Proofs.Ytmcmemknikineaa.P
namespace Go.Proofs.Ytmcmemknikineaa.P
open Go.RowKit YtmcmemknikineaaW.PrintWords YtmcmemknikineaaW.PrintLast YtmcmemknikineaaW.PrintMore
theorem wire_Int_eq (v : Int) : wire_Int.f v = some (intSpec v) := by
 unfold wire_Int.f wire_bytes.f intSpec
 rw [wrap_u64, if_pos (by omega)]
 rfl
theorem intSpec_length (v : Int) : (intSpec v).length = 8 := be_length _ _
theorem ob_no (a0 a1 : Int) (a2 : Bool) (a3 a4 a5 a6 a7 a8 a9 a10 a11 c : Int) (h : Ev (fun k => object_Check.f k a0 a1 a2 a3 a4 a5 a6 a7 a8 a9 a10 a11) c) (hc : c ≠ 0) :
  Ev (fun k => object_Bytes.f k a0 a1 a2 a3 a4 a5 a6 a7 a8 a9 a10 a11) ([], c) := by
 unfold object_Bytes.f
 refine Ev.bind h ?_
 simp only [if_neg hc]
 exact Ev.now _
theorem os_ev (a0 a1 : Int) (a2 : Bool) (a3 a4 a5 a6 a7 a8 a9 a10 a11 : Int) (out : List Int × Int) (h : Ev (fun k => object_Bytes.f k a0 a1 a2 a3 a4 a5 a6 a7 a8 a9 a10 a11) out) :
  Ev (fun k => object_Size.f k a0 a1 a2 a3 a4 a5 a6 a7 a8 a9 a10 a11) (out.1.length : Int) := by
 unfold object_Size.f
 exact Ev.bind h (Ev.now _)
def RO (a0 a1 : Int) (a2 : Bool) (a3 a4 a5 a6 a7 a8 a9 a10 a11 : Int) : Prop := (0 ≤ a1 ∧ a1 < 64) ∧
  ((a0 = 1 ∧ (a8 = 0 ∧ a9 = 0 ∧ a10 = 0) ∧ (a2 = false ∧ a3 = 0 ∧ a4 = 0 ∧ a5 = 0 ∧ a6 = 0 ∧ a7 = 0) ∧ a11 = 0) ∨
   (a0 = 2 ∧ (a8 = 0 ∧ a9 = 0 ∧ a10 = 0) ∧ a11 = 0 ∧ RH a2 a3 a4 a5 a6 a7) ∨
   (a0 = 3 ∧ (a2 = false ∧ a3 = 0 ∧ a4 = 0 ∧ a5 = 0 ∧ a6 = 0 ∧ a7 = 0) ∧ a11 = 0 ∧ RH false a8 a9 a10 0 0) ∨
   (a0 = 4 ∧ (a8 = 0 ∧ a9 = 0 ∧ a10 = 0) ∧ 0 ≤ a11 ∧ a11 ≤ 65535 ∧ RH a2 a3 a4 a5 a6 a7 ∧ a2 = false))
instance (a0 a1 : Int) (a2 : Bool) (a3 a4 a5 a6 a7 a8 a9 a10 a11 : Int) : Decidable (RO a0 a1 a2 a3 a4 a5 a6 a7 a8 a9 a10 a11) := by unfold RO; infer_instance
theorem oj1_eq (x4 : Bool) (a0 a1 : Int) (a2 : Bool) (a3 a4 a5 a6 a7 a8 a9 a10 a11 : Int) (b2 : Bool) (b3 b4 b5 b6 b7 b8 b9 b10 b11 : Int) :
  Ev (fun k => object_Check.j1 k x4 a0 a1 a2 a3 a4 a5 a6 a7 a8 a9 a10 a11 0 0 b2 b3 b4 b5 b6 b7 b8 b9 b10 b11) (if x4 = true ∧ RH a2 a3 a4 a5 a6 a7 ∧ (b8 = 0 ∧ b9 = 0 ∧ b10 = 0) ∧ b11 = 0 then 0 else 1) := by
 refine Ev.step (f := fun k => _) (fun k => by simp only [object_Check.j1]; rfl) ?_
 cases x4 with
 | false => simp only [Bool.false_eq_true, if_false, false_and]; exact Ev.now _
 | true =>
  simp only [if_true, true_and]
  refine Ev.bind (hc_eq a2 a3 a4 a5 a6 a7) ?_
  by_cases h : RH a2 a3 a4 a5 a6 a7
  ·simp only [if_pos h, if_true, h, true_and]
   by_cases g : (b8 = 0 ∧ b9 = 0 ∧ b10 = 0) ∧ b11 = 0
   ·obtain ⟨⟨rfl, rfl, rfl⟩, rfl⟩ := g
    simp only [and_self, if_true]
    exact Ev.now _
   ·rw [if_neg g]
    have : (!((0 : Int) == 0) || (!((0 : Int) == 0) || ((!(b8 == 0) || (!(b9 == 0) || (!(b10 == 0)))) || (!(b11 == 0))))) = true := by
     rw [← Bool.not_eq_false]
     intro hf
     simp only [Bool.or_eq_false_iff, Bool.not_eq_false', beq_iff_eq] at hf
     exact g ⟨⟨hf.2.2.1.1, hf.2.2.1.2.1, hf.2.2.1.2.2⟩, hf.2.2.2⟩
    simp only [if_pos this]
    exact Ev.now _
  ·simp only [if_neg h, h, false_and, if_false, show ¬ (1 : Int) = 0 by decide]
   exact Ev.now _
theorem oc_eq (a0 a1 : Int) (a2 : Bool) (a3 a4 a5 a6 a7 a8 a9 a10 a11 : Int) : Ev (fun k => object_Check.f k a0 a1 a2 a3 a4 a5 a6 a7 a8 a9 a10 a11) (if RO a0 a1 a2 a3 a4 a5 a6 a7 a8 a9 a10 a11 then 0 else 1) := by
  have hj : ∀ x : Bool, Ev (fun k => object_Check.j0 k x a0 a1 a2 a3 a4 a5 a6 a7 a8 a9 a10 a11 0 0 a2 a3 a4 a5 a6 a7 a8 a9 a10 a11) (if x = true ∧
    ((a0 = 1 ∧ (a8 = 0 ∧ a9 = 0 ∧ a10 = 0) ∧ (a2 = false ∧ a3 = 0 ∧ a4 = 0 ∧ a5 = 0 ∧ a6 = 0 ∧ a7 = 0) ∧ a11 = 0) ∨
     (a0 = 2 ∧ (a8 = 0 ∧ a9 = 0 ∧ a10 = 0) ∧ a11 = 0 ∧ RH a2 a3 a4 a5 a6 a7) ∨
     (a0 = 3 ∧ (a2 = false ∧ a3 = 0 ∧ a4 = 0 ∧ a5 = 0 ∧ a6 = 0 ∧ a7 = 0) ∧ a11 = 0 ∧ RH false a8 a9 a10 0 0) ∨
     (a0 = 4 ∧ (a8 = 0 ∧ a9 = 0 ∧ a10 = 0) ∧ 0 ≤ a11 ∧ a11 ≤ 65535 ∧ RH a2 a3 a4 a5 a6 a7 ∧ a2 = false)) then 0 else 1) := by
    intro x
    refine Ev.step (f := fun k => _) (fun k => by simp only [object_Check.j0]; rfl) ?_
    by_cases h1 : a0 = 1
    · subst h1
      simp only [if_true, show ¬ (1 : Int) = 2 by decide, show ¬ (1 : Int) = 3 by decide, show ¬ (1 : Int) = 4 by decide, false_and, or_false, true_and]
      cases x with
      | false => simp only [Bool.false_eq_true, if_false, false_and]; exact Ev.now _
      | true =>
        simp only [if_true, true_and]
        by_cases g : (a8 = 0 ∧ a9 = 0 ∧ a10 = 0) ∧ (a2 = false ∧ a3 = 0 ∧ a4 = 0 ∧ a5 = 0 ∧ a6 = 0 ∧ a7 = 0) ∧ a11 = 0
        · rw [if_pos g]
          obtain ⟨⟨rfl, rfl, rfl⟩, ⟨rfl, rfl, rfl, rfl, rfl, rfl⟩, rfl⟩ := g
          exact Ev.now _
        · rw [if_neg g]
          have : (!((0 : Int) == 0) || (!((0 : Int) == 0) || ((a2 || (!(a3 == 0) || (!(a4 == 0) || (!(a5 == 0) || (!(a6 == 0) || (!(a7 == 0))))))) || ((!(a8 == 0) || (!(a9 == 0) || (!(a10 == 0)))) || (!(a11 == 0)))))) = true := by
            rw [← Bool.not_eq_false]
            intro hf
            simp only [Bool.or_eq_false_iff, Bool.not_eq_false', beq_iff_eq] at hf
            obtain ⟨_, _, ⟨u2, u3, u4, u5, u6, u7⟩, ⟨u8, u9, u10⟩, u11⟩ := hf
            exact g ⟨⟨u8, u9, u10⟩, ⟨u2, u3, u4, u5, u6, u7⟩, u11⟩
          simp only [if_pos this]
          exact Ev.now _
    by_cases h4 : a0 = 4
    · subst h4
      simp only [if_true, if_neg h1, show ¬ (4 : Int) = 1 by decide, show ¬ (4 : Int) = 2 by decide, show ¬ (4 : Int) = 3 by decide, false_and, false_or, true_and]
      cases x with
      | false =>
        simp only [Bool.false_eq_true, if_false, false_and]
        refine ev_eq (oj1_eq _ _ _ _ _ _ _ _ _ _ _ _ _ _ _ _ _ _ _ _ _ _ _) ?_
        simp only [Bool.false_eq_true, false_and, if_false]
      | true =>
        simp only [if_true, true_and]
        cases a2 with
        | true =>
          simp only [if_true, Bool.true_eq_false, and_false, if_false]
          refine ev_eq (oj1_eq _ _ _ _ _ _ _ _ _ _ _ _ _ _ _ _ _ _ _ _ _ _ _) ?_
          simp only [Bool.false_eq_true, false_and, if_false]
        | false =>
          simp only [Bool.false_eq_true, if_false, and_true]
          by_cases g : a11 ≥ 0
          · simp only [if_pos g]
            refine ev_eq (oj1_eq _ _ _ _ _ _ _ _ _ _ _ _ _ _ _ _ _ _ _ _ _ _ _) ?_
            have g0 : 0 ≤ a11 := g
            simp only [decide_eq_true_eq, g0, true_and, and_true]
            congr 1
            apply propext
            constructor
            · rintro ⟨u, v, w⟩; exact ⟨w, u, v⟩
            · rintro ⟨w, u, v⟩; exact ⟨u, v, w⟩
          · simp only [if_neg g]
            refine ev_eq (oj1_eq _ _ _ _ _ _ _ _ _ _ _ _ _ _ _ _ _ _ _ _ _ _ _) ?_
            have g' : ¬ 0 ≤ a11 := g
            simp only [g', Bool.false_eq_true, false_and, and_false, if_false]
    by_cases h2 : a0 = 2
    · subst h2
      simp only [if_neg h1, if_neg h4, if_true, show ¬ (2 : Int) = 1 by decide, show ¬ (2 : Int) = 4 by decide, show ¬ (2 : Int) = 3 by decide, false_and, false_or, or_false, true_and]
      refine ev_eq (oj1_eq _ _ _ _ _ _ _ _ _ _ _ _ _ _ _ _ _ _ _ _ _ _ _) ?_
      congr 1
      apply propext
      constructor
      · rintro ⟨u, v, w, z⟩; exact ⟨u, w, z, v⟩
      · rintro ⟨u, w, z, v⟩; exact ⟨u, v, w, z⟩
    by_cases h3 : a0 = 3
    · subst h3
      simp only [if_neg h1, if_neg h4, if_neg h2, if_true, show ¬ (3 : Int) = 1 by decide, show ¬ (3 : Int) = 4 by decide, show ¬ (3 : Int) = 2 by decide, false_and, false_or, or_false, true_and]
      obtain ⟨t, ht, he⟩ := ha_eq a8 a9 a10 0 0
      refine Ev.bind ht ?_
      rw [he]
      cases x with
      | false => simp only [Bool.false_eq_true, if_false, false_and]; exact Ev.now _
      | true =>
        simp only [if_true, true_and]
        by_cases h : RH false a8 a9 a10 0 0
        · simp only [if_pos h, h, if_true, and_true]
          by_cases g : (a2 = false ∧ a3 = 0 ∧ a4 = 0 ∧ a5 = 0 ∧ a6 = 0 ∧ a7 = 0) ∧ a11 = 0
          · rw [if_pos g]
            obtain ⟨⟨rfl, rfl, rfl, rfl, rfl, rfl⟩, rfl⟩ := g
            exact Ev.now _
          · rw [if_neg g]
            have : (!((0 : Int) == 0) || (!((0 : Int) == 0) || ((a2 || (!(a3 == 0) || (!(a4 == 0) || (!(a5 == 0) || (!(a6 == 0) || (!(a7 == 0))))))) || (!(a11 == 0))))) = true := by
              rw [← Bool.not_eq_false]
              intro hf
              simp only [Bool.or_eq_false_iff, Bool.not_eq_false', beq_iff_eq] at hf
              obtain ⟨_, _, ⟨u2, u3, u4, u5, u6, u7⟩, u11⟩ := hf
              exact g ⟨⟨u2, u3, u4, u5, u6, u7⟩, u11⟩
            simp only [if_pos this]
            exact Ev.now _
        · simp only [if_neg h, h, show ¬ (1 : Int) = 0 by decide, if_false, and_false]
          exact Ev.now _
    · simp only [if_neg h1, if_neg h4, if_neg h2, if_neg h3, h1, h2, h3, h4, false_and, or_false, and_false, if_false]
      exact Ev.now _
  unfold object_Check.f RO
  by_cases h : a1 ≥ 0
  · simp only [if_pos h]
    refine ev_eq (hj _) ?_
    have g0 : 0 ≤ a1 := h
    simp only [decide_eq_true_eq, g0, true_and]
  · simp only [if_neg h]
    refine ev_eq (hj _) ?_
    have h' : ¬ 0 ≤ a1 := h
    simp only [h', Bool.false_eq_true, false_and, and_false, if_false]
end Go.Proofs.Ytmcmemknikineaa.P
