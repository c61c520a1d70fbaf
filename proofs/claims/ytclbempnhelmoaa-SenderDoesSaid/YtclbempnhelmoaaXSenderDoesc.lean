/- Walks. -/
import Derived.WalkMore
import Derived.Test.YtclbempnhelmoaaXSenderDoesa
import Derived.Test.YtclbempnhelmoaaXSenderDoesb
set_option linter.unusedVariables false
set_option linter.unusedSimpArgs false
set_option maxHeartbeats 8000000
set_option maxRecDepth 100000
namespace Go.Proofs.Ytclbempnhelmoaa.P
open Go.RowKit YtclbempnhelmoaaW.PrintWords YtclbempnhelmoaaW.PrintLast YtclbempnhelmoaaW.PrintMore
def nextN (a : Int) : Int := wrap64 (IntKind.u16.wrap ((IntKind.u16.wrap a) + 1))
theorem nxt_eq (a : Int) : serial_Next.f a = some (nextN a) := rfl
def nextL (nx : Int) (X : List S48) : Int := X.foldl (fun _ b => nextN b.f0) nx
def goneL (X : List S48) : Nat := (X.map fun b => b.f1.length).sum
theorem take_nextL {nx : Int} {B : List S48} (i : Nat) (h : i < B.length) : nextL nx (B.take (i + 1)) = nextN (B[i]).f0 := by
 unfold nextL
 rw [List.take_succ_eq_append_getElem h, List.foldl_append]
 rfl
theorem take_goneL {B : List S48} (i : Nat) (h : i < B.length) : goneL (B.take (i + 1)) = goneL (B.take i) + (B[i]).f1.length := by
 unfold goneL
 rw [List.take_succ_eq_append_getElem h, List.map_append, List.sum_append]
 simp
theorem goneL_le (B : List S48) (i : Nat) : goneL (B.take i) ≤ goneL B := by
 conv => rhs; rw [← List.take_append_drop i B]
 unfold goneL
 rw [List.map_append, List.sum_append]
 omega
theorem take_at {pw : S48 → Bool} (B : List S48) : ∀ (i : Nat), i ≤ B.length → (∀ j (hj : j < B.length), j < i → pw (B[j]) = true) → (i = B.length ∨ ∃ h : i < B.length, pw (B[i]) = false) → B.takeWhile pw = B.take i := by
 induction B with
 | nil => intro i h _ _; simp
 | cons o r ih =>
  intro i h h1 h2
  cases i with
  | zero =>
   rcases h2 with h2 | ⟨hl, h2⟩
   ·simp at h2
   ·rw [List.takeWhile_cons_of_neg (by simpa using h2)]; rfl
  | succ i =>
   have a := h1 0 (by simp) (by omega)
   have b := ih i (by simpa using h) (fun j hj hji => h1 (j + 1) (by simpa using hj) (by omega)) (by
    rcases h2 with h2 | ⟨hl, h2⟩
    ·exact .inl (by simpa using h2)
    ·exact .inr ⟨by simpa using hl, by simpa using h2⟩)
   rw [List.takeWhile_cons_of_pos (by simpa using a), b]
   rfl
theorem clo_nD {Y : List S34} {nD : Nat} (hn : nD = Y.length) (A0 : Option Addr) (c0 : Nat) (w : World) (hr : Kd.C k34 w A0 Y.length Y) (hl : Y.length ≤ 1000000000000) :
  Calls Try.prog 30 #[.slice A0 nD c0] w fun e w' => ∃ v0_ : Value, e = .returned v0_ ∧ Kd.R k34 34 w' w.heap.size (fun _ => True) v0_ Y ∧ Below w.heap.size w w' := by
 subst hn
 exact slices_CloneO.calls A0 c0 Y Y w hr (if_pos hl)
theorem cut_o (A : Option Addr) (n c G : Nat) (hm : G ≤ n) : ∀ W : World, (Instr.slice 46 (.slice A n c) (some (.int .i64 (G : Int))) none none).run Try.prog W = .ok (.slice (if c = G then A else A.map (·.add (G * k34.sz))) (n - G) (c - G)) W := by
 obtain ⟨i0, hi0, _, hsz, _⟩ := info_parts info34
 exact cut_from (P := Try.prog) 46 34 .i64 Try.underlying46 hi0 k34.sz hsz A n c (G : Int) (by omega) (by omega)
theorem Kd.C_step_ {w : World} {base n c : Nat} {ok : Nat → Prop} {A : Option Addr} {W : List S34} (h : k34.R 34 w base ok (.slice A n c) W) : k34.C w A W.length W := (Kd.R_reads' h).2.2
theorem SeX.start {w0 w w1 : World} {F : Nat → Prop} {g : Nat} {wn tr nx : Int} {W : List S34} {O : List (It × Int)} {vw vo va : Value} {B : List S48} (h : Sd w0 w F g wn tr W O nx vw vo) (hb : Below w.heap.size w w1) (ha : k48.R 48 w1 w.heap.size (fun _ => True) va B) :
  SeX w0 w w1 F g wn tr W O vw vo w1 (fun k => F k ∨ (w.heap.size ≤ k ∧ k < w1.heap.size)) O nx vo [] (.slice none 0 0) ∧ k48.R 48 w1 w0.heap.size (fun k => w.heap.size ≤ k ∧ k < w1.heap.size) va B :=
 ⟨⟨(h.below hb).more (fun k hk => .inl hk) (fun k hk => hk.elim (fun e => Nat.lt_of_lt_of_le (h.lt k e) hb.size) (fun e => e.2)), SX.refl _ _ _, fun k hk => hk, Kd.R_nil _ _ _ _ _, fun k hk => by simp [Value.ownBlock] at hk⟩, Kd.R_lower (Kd.R_mono (Kd.R_bound ha) (fun k hk => ⟨hk.2.1, hk.2.2.1⟩)) (below_size h.bl)⟩
def dat (O : List (It × Int)) : List (S48 × Int) := O.map fun o => (o.1.b, o.2)
def sse.T3 : Bool × List (List Nat × List Nat) := (true, [([], []), ([0], [0]), ([1], [1]), ([2], [2]), ([], []), ([4], [4]), ([5], [5]), ([6], [6]), ([3, 7], [3, 7]), ([8], [8]), ([9], [9]), ([9], [9]), ([10, 8, 0, 1, 2, 3, 4, 5, 6, 7, 8, 9, 10], [10]), ([11, 12, 0, 1, 2, 3, 4, 5, 6, 7, 8, 9, 10, 11, 12], [11])])
def sse.B3 : List Nat := [0, 1, 3, 7, 0, 16, 48, 112, 255, 511, 1023, 1023, 2047, 8191]
theorem sse.tab3 : rtab .any (opsOf Try.f12 3) = sse.T3 := by kernel_rfl
theorem sse.bits3 : waitsOk sse.T3.2 sse.B3 = true := by kernel_rfl
def sse.T10 : Bool × List (List Nat × List Nat) := (true, [([], []), ([0], [0]), ([], []), ([], []), ([3], [3]), ([4], [4]), ([5], [5]), ([1, 2, 6], [1, 2, 6]), ([7], [7])])
def sse.B10 : List Nat := [0, 1, 0, 0, 8, 24, 56, 127, 255]
theorem sse.tab10 : rtab .any (opsOf Try.f12 10) = sse.T10 := by kernel_rfl
theorem sse.bits10 : waitsOk sse.T10.2 sse.B10 = true := by kernel_rfl
def sse.T15 : Bool × List (List Nat × List Nat) := (true, [([], []), ([], []), ([1], [1]), ([2], [2]), ([3], [3]), ([], []), ([5], [5]), ([4, 6], [4, 6]), ([0, 0, 1, 2, 3, 4, 5, 6, 7], [0]), ([8, 0, 1, 2, 3, 4, 5, 6, 7], [8]), ([9, 7, 7, 0, 1, 2, 3, 4, 5, 6, 7], [7, 9])])
def sse.B15 : List Nat := [0, 0, 2, 6, 14, 0, 32, 126, 255, 511, 1023]
theorem sse.tab15 : rtab .any (opsOf Try.f12 15) = sse.T15 := by kernel_rfl
theorem sse.bits15 : waitsOk sse.T15.2 sse.B15 = true := by kernel_rfl
theorem ssend_s {w0 w : World} {F : Nat → Prop} {g : Nat} {wn tr nx : Int} {W : List S34} {O : List (It × Int)} {vw vo : Value} (h : Sd w0 w F g wn tr W O nx vw vo) (hlw : W.length ≤ 1024) (hlo : O.length ≤ 1000000) (KK : Nat) (B : List S48) (hpk : B = packGo 512 W (nx % 65536) []) (hrt : Rights W) (hnr : -9223372036854775808 ≤ nx ∧ nx ≤ 9223372036854775807) (hlb : B.length ≤ 1024)
  (pw : S48 → Bool) (hwi : ∀ b ∈ B, serial_Within.f KK b.f0 (firstL O nx) wn = some (pw b)) (hgo : goneL B ≤ W.length) :
  Calls Try.prog 12 #[.pointer (some ⟨g, 0, none⟩)] w fun e w' => ∃ v F' vw' vo' O', e = .returned v ∧ Sd w0 w' F' g wn tr (W.drop (goneL (B.takeWhile pw))) O' (nextL nx (B.takeWhile pw)) vw' vo' ∧ SX w F (Wr g vw vo O) w' F' (Wr g vw' vo' O') ∧
   k48.R 48 w' w0.heap.size (fun k => w.heap.size ≤ k ∧ ¬ Wr g vw' vo' O' k) v (B.takeWhile pw) ∧ (∀ k, v.ownBlock = some k → w.heap.size ≤ k ∧ ¬ F' k) ∧ dat O' = dat O ++ (B.takeWhile pw).map fun b => (b, 1) := by
 obtain ⟨Aw, cw, rfl, hlc, hC⟩ := Kd.R_reads h.roww
 obtain ⟨nW, hnW⟩ : ∃ nW, nW = W.length := ⟨_, rfl⟩
 obtain ⟨fst, hfs⟩ : ∃ fst, fst = firstL O nx := ⟨_, rfl⟩
 obtain ⟨n, hn⟩ : ∃ n, n = B.length := ⟨_, rfl⟩
 have HS := Aside0.mk h
 have hx : w.cell? ⟨g, 2, none⟩ = some (.slice Aw nW cw) := by rw [hnW]; exact (blk_cell h.blk 2).trans rfl
 have hnx : w.cell? ⟨g, 4, none⟩ = some (.int .i64 nx) := (blk_cell h.blk 4).trans rfl
 have HCW := Aside0.mk hC
 have HLC := Aside0.mk hlc
 have HNW := Aside0.mk hnW
 have HFS := Aside0.mk hfs
 have HN := Aside0.mk hn
 have HPK := Aside0.mk hpk
 have HRT := Aside0.mk hrt
 have HNR := Aside0.mk hnr
 have HLW := Aside0.mk hlw
 have HLO0 := Aside0.mk hlo
 have HLB := Aside0.mk hlb
 have HWA := Aside0.mk hwi
 have HGO := Aside0.mk hgo
 have HLT := Aside0.mk h.lt
 have HOW := Aside0.mk (show ∀ k, (Value.slice Aw W.length cw).ownBlock = some k → F k from fun k hk => (h.roww.1 k hk).1)
 have HRW := Aside0.mk h.wr
 have H00 := Aside0.mk (below_size h.bl)
 rw [← hfs] at HWA
 rw [← hnW] at HS HOW HRW
 clear h hlw hlo hpk hrt hnr hlb hwi hgo hnW hfs hn hlc hC
 go_enter Try.func12, Try.ntmps12
 go_upto_region 3 with go_step3
 refine start_ (n := 14) (S := fun w' => w'.cell? ⟨g, 2, none⟩ = some (.slice Aw nW cw) ∧ w'.cell? ⟨g, 4, none⟩ = some (.int .i64 nx)) (ds := [8]) #[false, false, false, false, false, false, false, false, false, false, false, false, false, false] (by kernel_rfl) rfl rfl ⟨hx, hnx⟩ (fun hHeld => ?_); refine with_tabW sse.tab3 sse.bits3 (fun HT_ HW_ => ?_)
 refine pureA (i := 0) (N := some 14) HT_ ?_
 refine pureA (i := 1) (N := some 15) HT_ ?_
 refine pureA (i := 2) (N := some 16) HT_ ?_
 refine pureA (i := 4) (N := some 18) HT_ ?_
 refine pureA (i := 5) (N := some 19) HT_ ?_
 refine pureA (i := 6) (N := some 20) HT_ ?_
 refine takeA (i := 3) (N := some 17) HT_ HW_ hHeld ?_
 refine takeA (i := 7) (N := some 21) HT_ HW_ hHeld ?_
 refine last_ (i := 8) (N := some 22) #[true, true, true, true, true, true, true, true, true, false, false, false, false, false] rfl rfl (one_of HT_.out (by kernel_rfl)) (by decide) (fun K hK => ?_)
 refine goes_ Try.func27 (by kernel_rfl) rfl #[.slice Aw nW cw, .int .i64 nx, .int .i64 512] (by rfl) rfl rfl (by simp only [List.map_toArray, List.map_cons, List.map_nil]; rfl) ?_
 with_reducible refine (bpack_a HNW.out HRT.out HLW.out Aw cw nx HNR.out _ (Kd.C_below HCW.out (below_drew (Below.refl _ _))) HLC.out).mono ?_
 rintro e w1 ⟨va, rfl, hs, hb⟩
 refine ⟨_, rfl, ?_⟩
 have HB1 := Aside0.mk (below_step (below_drew (Below.refl w.heap.size w)) hb)
 rw [← HPK.out] at hs
 obtain ⟨S1, hva⟩ := SeX.start HS.out HB1.out hs
 have S1 := Aside0.mk S1
 obtain ⟨Aa, ca, ev⟩ := Kd.R_slice hva
 rw [← HN.out] at ev
 subst ev
 have HALL := Aside0.mk hva
 clear hs hb hva
 refine hK.out _ _ ?_
 clear hK K
 refine normA (N := 22) ?_
 refine pureA (i := 9) (N := some 13) HT_ ?_
 refine pureA (i := 10) (N := some 23) HT_ ?_
 refine pureA (i := 11) (N := some 24) HT_ ?_
 refine pureA (i := 12) (N := some 3) HT_ ?_
 refine pureA (i := 13) (N := some 4) HT_ ?_
 refine done_ (done_of HT_.out (by kernel_rfl)) ?_
 have HF := Aside0.mk (show SeF w0 w w1 (Wr g (.slice Aw nW cw) vo O) from ⟨H00.out, HB1.out.size, fun k hk => HLT.out k (HRW.out k hk)⟩)
 go_wp2_with (first | go_step3 | (go_at_call 28; (with_reducible refine (sfirst_s S1.out.sd).mono ?_); rintro x_ w2 ⟨rfl, rfl⟩; (rw [← HFS.out])))
 go_loopg [6, 7, 29] n (fun kq v6' v7 v29 wr => ∃ (x : Int) (v6 : Value) (G : Nat) (F' : Nat → Prop) (O2 : List (It × Int)) (nx2 : Int) (vo2 : Value), v29 = .int .i64 x ∧ v6 = v6' ∧ v7 = .int .i64 (G : Int) ∧ Aside0 (0 ≤ x) ∧ Aside0 (x + kq = n) ∧ Aside0 (SeX w0 w w1 F g wn tr W O (.slice Aw nW cw) vo wr F' O2 nx2 vo2 (B.take x.toNat) v6) ∧ Aside0 (G = goneL (B.take x.toNat)) ∧ Aside0 (dat O2 = dat O ++ (B.take x.toNat).map fun b => (b, 1)) ∧ Aside0 (nx2 = nextL nx (B.take x.toNat)) ∧ Aside0 (∀ j (hj : j < B.length), (j : Int) < x → pw (B[j]) = true))
 case atStart => exact ⟨0, _, 0, _, O, nx, vo, rfl, rfl, rfl, ⟨by omega⟩, ⟨by omega⟩, S1, ⟨rfl⟩, ⟨by simp⟩, ⟨rfl⟩, ⟨fun j hj hh => by omega⟩⟩
 case round =>
  clear S1
  obtain ⟨x, v6, G, F', O2, nx2, vo2, rfl, rfl, rfl, H0, HI, SS, HGG, HO2, HNX, HA⟩ := hrel
  obtain ⟨Ao, co, rfl⟩ := Kd.R_slice SS.out.sd.rowo
  obtain ⟨mo, hmo⟩ : ∃ mo, mo = (O2.map Prod.fst).length := ⟨_, rfl⟩
  rw [← hmo] at SS
  have HGL := Aside0.mk (show G ≤ W.length by rw [HGG.out]; exact Nat.le_trans (goneL_le B _) HGO.out)
  have HLO := Aside0.mk (show O2.length ≤ 2000000 by
   have e1 := congrArg List.length HO2.out
   simp only [dat, List.length_map, List.length_append, List.length_take] at e1
   have := HLO0.out
   have := HLB.out
   omega)
  clear hmo
  cases gk with
  | zero =>
   have HX := Aside0.mk (show B.takeWhile pw = B.take x.toNat from take_at B x.toNat (by have := HI.out; have := HN.out; have := H0.out; omega) (fun j hj hji => HA.out j hj (by omega)) (.inl (by have := HI.out; have := HN.out; have := H0.out; omega)))
   obtain ⟨A3, hA3⟩ : ∃ A3, A3 = (if cw = G then Aw else Aw.map (·.add (G * k34.sz))) := ⟨_, rfl⟩
   obtain ⟨c3, hc3⟩ : ∃ c3, c3 = cw - G := ⟨_, rfl⟩
   have HD3 := Aside0.mk (show k34.C wr A3 (W.drop G).length (W.drop G) by rw [hA3]; exact Kd.C_drop (Kd.C_step_ SS.out.sd.roww) HGL.out HLC.out)
   have HD4 := Aside0.mk (show (W.drop G).length ≤ 1000000000000 by have := HLW.out; rw [List.length_drop]; omega)
   obtain ⟨nD, hnD⟩ : ∃ nD, nD = (W.drop G).length := ⟨_, rfl⟩
   have HND := Aside0.mk hnD
   have hcut := cut_o Aw nW cw G (by have := HGL.out; have := HNW.out; omega)
   rw [show nW - G = nD by rw [hnD, List.length_drop, ← HNW.out], ← hA3, ← hc3] at hcut
   have g2 : wr.cell? ⟨g, 2, none⟩ = some (.slice Aw nW cw) := (blk_cell SS.out.sd.blk 2).trans rfl
   clear hA3 hc3 hnD
   have hnl : decide (x < (n : Int)) = false := decide_eq_false (by have := HI.out; omega)
   go_wp2_with (first | go_step3 | (go_at_call 30; (with_reducible refine (clo_nD HND.out A3 c3 _ HD3.out HD4.out).mono ?_); rintro x_ wc ⟨v3, rfl, hr, hb⟩; have HV3 := Aside0.mk hr; have HBC := Aside0.mk hb; have g22 : wc.cell? ⟨g, 2, none⟩ = some (.slice Aw nW cw) := (blk_cell (SS.out.below hb).sd.blk 2).trans rfl; have gf2 := blk_frozen (SS.out.below hb).sd.blk 2; obtain ⟨A9, c9, ev9⟩ := Kd.R_slice hr; (rw [← HND.out] at ev9); subst ev9; clear hr hb))
   simp only [Exit.noGoto]
   go_ret
   obtain ⟨F'', e1, e2, e3, e4⟩ := SS.out.fin HF.out HLT.out HOW.out HBC.out HV3.out HB1.out
   exact ⟨_, F'', _, _, O2, rfl, by rw [HX.out, ← HNX.out, ← HGG.out]; exact e1, by have e5 := e2; rw [HNW.out] at e5; exact e5, by rw [HX.out]; exact e3, e4, by rw [HX.out]; exact HO2.out⟩
  | succ k1 =>
   have hlt := (show x < (n : Int) by have := HI.out; omega)
   have h0 := H0.out
   have hd : decide (x < (n : Int)) = true := decide_eq_true hlt
   have hw : wrap64 (x + 1) = x + 1 := w64 (by omega) (by have := HLB.out; have := HN.out; omega)
   have HXL := Aside0.mk (show x.toNat < B.length by have := HN.out; omega)
   obtain ⟨ad, A1, c1, e_, hx0, hx1, hi1⟩ := SS.out.at HF.out HALL.out x h0 hlt
   cases e_
   obtain ⟨y, hy⟩ : ∃ y, y = rd_T48 B x := ⟨_, rfl⟩
   have HY := Aside0.mk (show y = B[x.toNat]'(HXL.out) by rw [hy]; unfold rd_T48; rw [List.getD_eq_getElem?_getD, List.getElem?_eq_getElem HXL.out]; rfl)
   rw [← hy] at hx0 hx1 hi1
   obtain ⟨m1, hm1⟩ : ∃ m1, m1 = y.f1.length := ⟨_, rfl⟩
   rw [← hm1] at hx1 hi1
   have HI1 := Aside0.mk hi1
   have HM1 := Aside0.mk hm1
   have HYB := Aside0.mk (HWA.out y (by rw [HY.out]; exact List.getElem_mem _))
   have h0t := eq_true h0
   have hltt := eq_true hlt
   clear hy hm1 hi1
   cases hpw : pw y with
   | false =>
    have HWI := Aside0.mk (show serial_Within.f KK y.f0 fst wn = some false by rw [← hpw]; exact HYB.out)
    have HX := Aside0.mk (show B.takeWhile pw = B.take x.toNat from take_at B x.toNat (Nat.le_of_lt HXL.out) (fun j hj hji => HA.out j hj (by have := H0.out; omega)) (.inr ⟨HXL.out, by rw [← HY.out]; exact hpw⟩))
    clear hpw
    go_upto_region 10 with (first | go_step3 | ((with_reducible refine gate_dst (N := 9) rfl ?_); refine box_event ?hg (N := 9) ?hd (cs := #[.int .i64 0, .slice none 0 0]) (t := 48) ?hr ?_; (case hd => rfl); (case hg => rfl); (case hr => first | (go_simp; done) | (go_simp; rfl) | rfl | kernel_rfl); intro gb hg w3 hbox hb; have S3 := Aside0.mk (SS.out.below (show Below wr.heap.size wr ((w3.setCell ⟨gb, 0, none⟩ (.int .i64 y.f0)).setCell ⟨gb, 1, none⟩ (.slice A1 m1 c1)) from below_set (below_set hb (Nat.le_of_eq hg.symm)) (Nat.le_of_eq hg.symm))); have BB3 := Aside0.mk (blk_put (blk_put hbox 0 (.int .i64 y.f0) (cs' := #[.int .i64 y.f0, .slice none 0 0]) rfl) 1 (.slice A1 m1 c1) (cs' := #[.int .i64 y.f0, .slice A1 m1 c1]) rfl); have HGB := Aside0.mk (show ∀ k, v6.ownBlock = some k → k < gb from fun k hk => by rw [hg]; exact Kd.R_lt SS.out.out k hk); have a0 := (blk_cell hbox 0).trans rfl; have a1 := (blk_cell hbox 1).trans rfl; have af0 := blk_frozen hbox 0; have af1 := blk_frozen hbox 1; have b0 : ((w3.setCell ⟨gb, 0, none⟩ (.int .i64 y.f0)).setCell ⟨gb, 1, none⟩ (.slice A1 m1 c1)).cell? ⟨gb, 0, none⟩ = some (.int .i64 y.f0) := (blk_cell BB3.out 0).trans rfl; have z0 : ((w3.setCell ⟨gb, 0, none⟩ (.int .i64 y.f0)).setCell ⟨gb, 1, none⟩ (.slice A1 m1 c1)).cell? ⟨g, 0, none⟩ = some (.int .i64 wn) := (blk_cell S3.out.sd.blk 0).trans rfl; clear hb hbox hg))
    refine start_ (n := 9) (S := fun w' => w'.cell? ⟨gb, 0, none⟩ = some (.int .i64 y.f0) ∧ w'.cell? ⟨g, 0, none⟩ = some (.int .i64 wn)) (ds := [7]) #[false, false, false, false, false, false, false, false, false] (by kernel_rfl) rfl rfl ⟨b0, z0⟩ (fun hHeld => ?_); refine with_tabW sse.tab10 sse.bits10 (fun HT_ HW_ => ?_)
    refine pureA (i := 0) (N := some 33) HT_ ?_
    refine pureA (i := 2) (N := some 35) HT_ ?_
    refine pureA (i := 3) (N := some 36) HT_ ?_
    refine pureA (i := 4) (N := some 37) HT_ ?_
    refine pureA (i := 5) (N := some 38) HT_ ?_
    refine takeA (i := 1) (N := some 34) HT_ HW_ hHeld ?_
    refine takeA (i := 6) (N := some 39) HT_ HW_ hHeld ?_
    refine last_ (i := 7) (N := some 40) #[true, true, true, true, true, true, true, true, false] rfl rfl (one_of HT_.out (by kernel_rfl)) (by decide) (fun K hK => ?_)
    refine goes_ Try.func17 (by kernel_rfl) rfl #[.int .i64 y.f0, .int .i64 fst, .int .i64 wn] (by rfl) rfl rfl (by simp only [List.map_toArray, List.map_cons, List.map_nil]; rfl) ?_
    with_reducible refine (serial_Within.calls KK _ _ _ _ _ HWI.out).mono ?_
    rintro e w4 ⟨rfl, hb4⟩
    refine ⟨_, rfl, ?_⟩
    have S4 := Aside0.mk (S3.out.drew.below hb4)
    have BB4 := Aside0.mk (blk_below (blk_below BB3.out (below_drew (Below.refl _ _))) hb4)
    have b40 : w4.cell? ⟨gb, 0, none⟩ = some (.int .i64 y.f0) := (blk_cell BB4.out 0).trans rfl
    have b41 : w4.cell? ⟨gb, 1, none⟩ = some (.slice A1 m1 c1) := (blk_cell BB4.out 1).trans rfl
    clear hb4
    refine hK.out _ _ ?_
    clear hK K
    refine normA (N := 40) ?_
    refine pureA (i := 8) (N := some 41) HT_ ?_
    refine done_ (done_of HT_.out (by kernel_rfl)) ?_
    obtain ⟨A3, hA3⟩ : ∃ A3, A3 = (if cw = G then Aw else Aw.map (·.add (G * k34.sz))) := ⟨_, rfl⟩
    obtain ⟨c3, hc3⟩ : ∃ c3, c3 = cw - G := ⟨_, rfl⟩
    have HD3 := Aside0.mk (show k34.C w4 A3 (W.drop G).length (W.drop G) by rw [hA3]; exact Kd.C_drop (Kd.C_step_ S4.out.sd.roww) HGL.out HLC.out)
    have HD4 := Aside0.mk (show (W.drop G).length ≤ 1000000000000 by have := HLW.out; rw [List.length_drop]; omega)
    obtain ⟨nD, hnD⟩ : ∃ nD, nD = (W.drop G).length := ⟨_, rfl⟩
    have HND := Aside0.mk hnD
    have hcut := cut_o Aw nW cw G (by have := HGL.out; have := HNW.out; omega)
    rw [show nW - G = nD by rw [hnD, List.length_drop, ← HNW.out], ← hA3, ← hc3] at hcut
    have g2 : w4.cell? ⟨g, 2, none⟩ = some (.slice Aw nW cw) := (blk_cell S4.out.sd.blk 2).trans rfl
    clear hA3 hc3 hnD
    go_wp2_with (first | go_step3 | (go_at_call 30; (with_reducible refine (clo_nD HND.out A3 c3 _ HD3.out HD4.out).mono ?_); rintro x_ wc ⟨v3, rfl, hr, hb⟩; have HV3 := Aside0.mk hr; have HBC := Aside0.mk hb; have g22 : wc.cell? ⟨g, 2, none⟩ = some (.slice Aw nW cw) := (blk_cell (S4.out.below hb).sd.blk 2).trans rfl; have gf2 := blk_frozen (S4.out.below hb).sd.blk 2; obtain ⟨A9, c9, ev9⟩ := Kd.R_slice hr; (rw [← HND.out] at ev9); subst ev9; clear hr hb))
    simp only [Exit.noGoto]
    go_ret
    obtain ⟨F'', e1, e2, e3, e4⟩ := S4.out.fin HF.out HLT.out HOW.out HBC.out HV3.out HB1.out
    exact ⟨_, F'', _, _, O2, rfl, by rw [HX.out, ← HNX.out, ← HGG.out]; exact e1, by have e5 := e2; rw [HNW.out] at e5; exact e5, by rw [HX.out]; exact e3, e4, by rw [HX.out]; exact HO2.out⟩
   | true =>
    have HWI := Aside0.mk (show serial_Within.f KK y.f0 fst wn = some true by rw [← hpw]; exact HYB.out)
    have HPW := Aside0.mk hpw
    have HKE := Aside0.mk (show B.take x.toNat ++ [y] = B.take (x.toNat + 1) by rw [HY.out, List.take_succ_eq_append_getElem HXL.out])
    have hgw : wrap64 ((G : Int) + (m1 : Int)) = ((G + m1 : Nat) : Int) := w64 (by omega) (by
     have e1 := take_goneL x.toNat HXL.out
     have e2 := goneL_le B (x.toNat + 1)
     have := HGO.out
     have := HLW.out
     have := HGG.out
     have := HM1.out
     rw [← HY.out] at e1
     omega)
    clear hpw
    go_upto_region 10 with (first | go_step3 | ((with_reducible refine gate_dst (N := 9) rfl ?_); refine box_event ?hg (N := 9) ?hd (cs := #[.int .i64 0, .slice none 0 0]) (t := 48) ?hr ?_; (case hd => rfl); (case hg => rfl); (case hr => first | (go_simp; done) | (go_simp; rfl) | rfl | kernel_rfl); intro gb hg w3 hbox hb; have S3 := Aside0.mk (SS.out.below (show Below wr.heap.size wr ((w3.setCell ⟨gb, 0, none⟩ (.int .i64 y.f0)).setCell ⟨gb, 1, none⟩ (.slice A1 m1 c1)) from below_set (below_set hb (Nat.le_of_eq hg.symm)) (Nat.le_of_eq hg.symm))); have BB3 := Aside0.mk (blk_put (blk_put hbox 0 (.int .i64 y.f0) (cs' := #[.int .i64 y.f0, .slice none 0 0]) rfl) 1 (.slice A1 m1 c1) (cs' := #[.int .i64 y.f0, .slice A1 m1 c1]) rfl); have HGB := Aside0.mk (show ∀ k, v6.ownBlock = some k → k < gb from fun k hk => by rw [hg]; exact Kd.R_lt SS.out.out k hk); have a0 := (blk_cell hbox 0).trans rfl; have a1 := (blk_cell hbox 1).trans rfl; have af0 := blk_frozen hbox 0; have af1 := blk_frozen hbox 1; have b0 : ((w3.setCell ⟨gb, 0, none⟩ (.int .i64 y.f0)).setCell ⟨gb, 1, none⟩ (.slice A1 m1 c1)).cell? ⟨gb, 0, none⟩ = some (.int .i64 y.f0) := (blk_cell BB3.out 0).trans rfl; have z0 : ((w3.setCell ⟨gb, 0, none⟩ (.int .i64 y.f0)).setCell ⟨gb, 1, none⟩ (.slice A1 m1 c1)).cell? ⟨g, 0, none⟩ = some (.int .i64 wn) := (blk_cell S3.out.sd.blk 0).trans rfl; clear hb hbox hg))
    refine start_ (n := 9) (S := fun w' => w'.cell? ⟨gb, 0, none⟩ = some (.int .i64 y.f0) ∧ w'.cell? ⟨g, 0, none⟩ = some (.int .i64 wn)) (ds := [7]) #[false, false, false, false, false, false, false, false, false] (by kernel_rfl) rfl rfl ⟨b0, z0⟩ (fun hHeld => ?_); refine with_tabW sse.tab10 sse.bits10 (fun HT_ HW_ => ?_)
    refine pureA (i := 0) (N := some 33) HT_ ?_
    refine pureA (i := 2) (N := some 35) HT_ ?_
    refine pureA (i := 3) (N := some 36) HT_ ?_
    refine pureA (i := 4) (N := some 37) HT_ ?_
    refine pureA (i := 5) (N := some 38) HT_ ?_
    refine takeA (i := 1) (N := some 34) HT_ HW_ hHeld ?_
    refine takeA (i := 6) (N := some 39) HT_ HW_ hHeld ?_
    refine last_ (i := 7) (N := some 40) #[true, true, true, true, true, true, true, true, false] rfl rfl (one_of HT_.out (by kernel_rfl)) (by decide) (fun K hK => ?_)
    refine goes_ Try.func17 (by kernel_rfl) rfl #[.int .i64 y.f0, .int .i64 fst, .int .i64 wn] (by rfl) rfl rfl (by simp only [List.map_toArray, List.map_cons, List.map_nil]; rfl) ?_
    with_reducible refine (serial_Within.calls KK _ _ _ _ _ HWI.out).mono ?_
    rintro e w4 ⟨rfl, hb4⟩
    refine ⟨_, rfl, ?_⟩
    have S4 := Aside0.mk (S3.out.drew.below hb4)
    have BB4 := Aside0.mk (blk_below (blk_below BB3.out (below_drew (Below.refl _ _))) hb4)
    have b40 : w4.cell? ⟨gb, 0, none⟩ = some (.int .i64 y.f0) := (blk_cell BB4.out 0).trans rfl
    have b41 : w4.cell? ⟨gb, 1, none⟩ = some (.slice A1 m1 c1) := (blk_cell BB4.out 1).trans rfl
    clear hb4
    refine hK.out _ _ ?_
    clear hK K
    refine normA (N := 40) ?_
    refine pureA (i := 8) (N := some 41) HT_ ?_
    refine done_ (done_of HT_.out (by kernel_rfl)) ?_
    go_upto_region 15 with (first
     | go_step3
     | ((with_reducible refine gate_dst (N := 44) rfl ?_); refine lit1_event ?hg (N := 44) ?hd (cs := #[.int .i64 y.f0, .slice A1 m1 c1]) (t := 48) (n := 1) ?hr ?_; (case hd => rfl); (case hg => rfl); (case hr => first | (go_simp; done) | (go_simp; rfl)); intro gl hg w5 hbox hb; have S5 := Aside0.mk (S4.out.below hb); have BL := Aside0.mk hbox; have BB5 := Aside0.mk (blk_below BB4.out hb); clear hb hbox hg)
     | ((with_reducible refine gate_builtin (b := .append) (xs := #[.tmp 42, .tmp 44]) rfl ?_); at_builtin; refine Kd.R_append_rows k48 (w0 := w0) w0.heap.size rfl (.tmp 42) (.tmp 44) 28 48 (.agg #[(.int .i64 0), (.slice none 0 0)]) 32 rfl Try.underlying28 info48 rfl (by decide) (by omega) v6 (B.take x.toNat) [y] _ _ _ (fun k => w.heap.size ≤ k) (fun k => w.heap.size ≤ k ∧ k < w1.heap.size) rfl rfl ?aO ?aR (fun _ _ h => h) ?aP ?aF ?aB ?aS ?aL ?_; (case aR => exact oneB_M BL.out (S5.out.inn HF.out HI1.out)); (case aB => exact S5.out.sd.bl); (case aF => exact (fun k hk => Nat.le_trans (S5.out.szw HF.out) hk)); (case aP => exact (fun k hk => ⟨hk.1, fun e => by have := (S5.out.own k e.symm).1; omega⟩)); (case aO => exact S5.out.out); (case aS => exact below_size S5.out.sd.bl); (case aL => have := HLB.out; have := HN.out; rw [List.length_take]; omega); intro v2 w6 ho hb hg hat; rw [HKE.out] at ho; have S6 := Aside0.mk (S5.out.outp HF.out ho hg hat); have BB6 := Aside0.mk (blk_grown BB5.out hg (fun e => by have := HGB.out gb e.symm; omega)); have b60 : w6.cell? ⟨gb, 0, none⟩ = some (.int .i64 y.f0) := (blk_cell BB6.out 0).trans rfl; have b61 : w6.cell? ⟨gb, 1, none⟩ = some (.slice A1 m1 c1) := (blk_cell BB6.out 1).trans rfl; clear ho hb hg hat)
     | ((with_reducible refine gate_dst (N := 53) rfl ?_); refine box_event ?hg (N := 53) ?hd (cs := #[.int .i32 0]) (t := 71) ?hr ?_; (case hd => rfl); (case hg => rfl); (case hr => first | (go_simp; done) | (go_simp; rfl) | rfl | kernel_rfl); intro gp hg w7 hbox hb; have S7 := Aside0.mk (S6.out.below hb); have BP7 := Aside0.mk hbox; have BB7 := Aside0.mk (blk_below BB6.out hb); have HPF := Aside0.mk (show ¬ F' gp from fun hF => by have := S6.out.sd.lt gp hF; omega); have HP1 := Aside0.mk (show w1.heap.size ≤ gp by rw [hg]; exact S6.out.sx.sz); clear hb hbox hg)
     | ((with_reducible refine gate_dst (N := 10) rfl ?_); refine box_event ?hg (N := 10) ?hd (cs := #[.int .i64 0, .slice none 0 0, .pointer none]) (t := 73) ?hr ?_; (case hd => rfl); (case hg => rfl); (case hr => first | (go_simp; done) | (go_simp; rfl) | rfl | kernel_rfl); intro gi hg w8 hbox hb; have HB9 := Aside0.mk (show Below w7.heap.size w7 (((w8.setCell ⟨gi, 0, none⟩ (.int .i64 y.f0)).setCell ⟨gi, 1, none⟩ (.slice A1 m1 c1)).setCell ⟨gi, 2, none⟩ (.pointer (some ⟨gp, 0, none⟩))) from below_set (below_set (below_set hb (Nat.le_of_eq hg.symm)) (Nat.le_of_eq hg.symm)) (Nat.le_of_eq hg.symm)); have S9 := Aside0.mk (S7.out.below HB9.out); have BP9 := Aside0.mk (blk_below BP7.out HB9.out); have BB9 := Aside0.mk (blk_below BB7.out HB9.out); have BI9 := Aside0.mk (blk_put (blk_put (blk_put hbox 0 (.int .i64 y.f0) (cs' := #[.int .i64 y.f0, .slice none 0 0, .pointer none]) rfl) 1 (.slice A1 m1 c1) (cs' := #[.int .i64 y.f0, .slice A1 m1 c1, .pointer none]) rfl) 2 (.pointer (some ⟨gp, 0, none⟩)) (cs' := #[.int .i64 y.f0, .slice A1 m1 c1, .pointer (some ⟨gp, 0, none⟩)]) rfl); have a0 := (blk_cell hbox 0).trans rfl; have a1 := (blk_cell hbox 1).trans rfl; have a2 := (blk_cell hbox 2).trans rfl; have af0 := blk_frozen hbox 0; have af1 := blk_frozen hbox 1; have af2 := blk_frozen hbox 2; have i2 : (((w8.setCell ⟨gi, 0, none⟩ (.int .i64 y.f0)).setCell ⟨gi, 1, none⟩ (.slice A1 m1 c1)).setCell ⟨gi, 2, none⟩ (.pointer (some ⟨gp, 0, none⟩))).cell? ⟨gi, 2, none⟩ = some (.pointer (some ⟨gp, 0, none⟩)) := (blk_cell BI9.out 2).trans rfl; clear hb hbox hg)
     | (go_at_call 29; (with_reducible refine (at_store gp 0 1 _ ((blk_cell BP9.out 0).trans rfl) (blk_frozen BP9.out 0)).mono ?_); rintro x_ w10 ⟨rfl, hw10⟩; have S10 := Aside0.mk (S9.out.setp HF.out BP9.out HPF.out HP1.out 0 (.int .i32 1)); have BP10 := Aside0.mk (blk_put BP9.out 0 (.int .i32 1) (cs' := #[.int .i32 1]) rfl); have BI10 := Aside0.mk (blk_far (p := ⟨gp, 0, none⟩) BI9.out (blk_ne BI9.out BP9.out (by decide)) (.int .i32 1)); have BB10 := Aside0.mk (blk_far (p := ⟨gp, 0, none⟩) BB9.out (blk_ne BB9.out BP9.out (by decide)) (.int .i32 1)); rw [← hw10] at S10 BP10 BI10 BB10; obtain ⟨i100, i101, i102⟩ := cA3 BI10.out; have g103 : w10.cell? ⟨g, 3, none⟩ = some (.slice Ao mo co) := (blk_cell S10.out.sd.blk 3).trans rfl; clear hw10))
    refine start_ (n := 11) (S := fun w' => w'.cell? ⟨g, 3, none⟩ = some (.slice Ao mo co) ∧ w'.cell? ⟨gi, 0, none⟩ = some (.int .i64 y.f0) ∧ w'.cell? ⟨gi, 1, none⟩ = some (.slice A1 m1 c1) ∧ w'.cell? ⟨gi, 2, none⟩ = some (.pointer (some ⟨gp, 0, none⟩))) (ds := [7, 10]) #[false, false, false, false, false, false, false, false, false, false, false] (by kernel_rfl) rfl rfl ⟨g103, i100, i101, i102⟩ (fun hHeld => ?_); refine with_tabW sse.tab15 sse.bits15 (fun HT_ HW_ => ?_)
    refine pureA (i := 0) (N := some 58) HT_ ?_
    refine pureA (i := 1) (N := some 59) HT_ ?_
    refine pureA (i := 2) (N := some 60) HT_ ?_
    refine pureA (i := 3) (N := some 61) HT_ ?_
    refine takeA (i := 4) (N := some 62) HT_ HW_ hHeld ?_
    refine takeA (i := 5) (N := some 63) HT_ HW_ hHeld ?_
    refine oneA (i := 6) (N := some 64) HT_ (fun K hK => ?_)
    refine lit1_step ?hg (N := 64) ?hd (cs := #[.int .i64 y.f0, .slice A1 m1 c1, .pointer (some ⟨gp, 0, none⟩)]) (t := 73) (n := 1) ?hr ?_
    (case hd => rfl)
    (case hg => rfl)
    (case hr => first | (go_simp; done) | (go_simp; rfl))
    intro gl2 hgl w11 hbox hb
    have S11 := Aside0.mk (S10.out.drew.below hb)
    have BG := Aside0.mk hbox
    have BP11 := Aside0.mk (blk_below (blk_below BP10.out (below_drew (Below.refl _ _))) hb)
    have BB11 := Aside0.mk (blk_below (blk_below BB10.out (below_drew (Below.refl _ _))) hb)
    refine hK.out _ _ ⟨(hb.cell (World.block_lt_of_cell? _ _ hHeld.1)).trans hHeld.1, (hb.cell (World.block_lt_of_cell? _ _ hHeld.2.1)).trans hHeld.2.1, (hb.cell (World.block_lt_of_cell? _ _ hHeld.2.2.1)).trans hHeld.2.2.1, (hb.cell (World.block_lt_of_cell? _ _ hHeld.2.2.2)).trans hHeld.2.2.2⟩ (fun hHeld => ?_)
    clear hK K
    refine normA (N := 64) ?_
    refine last_ (i := 7) (N := some 65) #[true, true, true, true, true, true, true, true, false, false, false] rfl rfl (one_of HT_.out (by kernel_rfl)) (by decide) (fun K hK => ?_)
    refine Kd.R_append_rows_step kIt (w0 := w11) w0.heap.size ?hw (.tmp 62) (.tmp 64) 61 73 (.agg #[(.int .i64 0), (.slice none 0 0), (.pointer none)]) 40 rfl Try.underlying61 info73 rfl (by decide) (by omega) (.slice Ao mo co) (O2.map Prod.fst) [⟨y, gp⟩] _ _ _ (fun k => (F' k ∨ w11.heap.size ≤ k) ∧ k ≠ g ∧ some k ≠ (Value.slice Aw nW cw).ownBlock ∧ ∀ o ∈ O2, k ≠ o.1.p) (fun k => w.heap.size ≤ k ∧ k < w1.heap.size) rfl rfl ?aO ?aR (fun _ _ h => h) ?aP ?aF ?aB ?aS ?aL ?_
    (case hw => rfl)
    (case aR => exact oneIt_M (x := ⟨y, gp⟩) BG.out (S11.out.inn HF.out HI1.out))
    (case aP => exact fun k hk => ⟨⟨.inl (S11.out.notW HF.out k hk).1, fun e => (S11.out.notW HF.out k hk).2 (.inl e), fun e => (S11.out.notW HF.out k hk).2 (.inr (.inl e)), fun o ho e => (S11.out.notW HF.out k hk).2 (.inr (.inr (.inr ⟨o, ho, e⟩)))⟩, fun e => (S11.out.notW HF.out k hk).2 (.inr (.inr (.inl e)))⟩)
    (case aB => exact Below.refl _ _)
    (case aF => exact S11.out.sd.freshO)
    (case aO => exact Kd.R_mono S11.out.sd.rowo (fun k hk => ⟨.inl hk.1, hk.2⟩))
    (case aS => exact below_size S11.out.sd.bl)
    (case aL => have := HLO.out; rw [List.length_map]; omega)
    intro v2o w12 ho hb12 hg12 hat
    have HG := Aside0.mk ((hg12.block g (blk_lt S11.out.sd.blk) (fun e => (S11.out.sd.rowo.1 g e.symm).2.1 rfl)).trans S11.out.sd.blk)
    have d3 : w12.cell? ⟨g, 3, none⟩ = some (.slice Ao mo co) := (blk_cell HG.out 3).trans rfl
    have df : w12.frozen? ⟨g, 3, none⟩ = false := blk_frozen HG.out 3
    obtain ⟨A8, c8, ev8⟩ := Kd.R_slice ho
    obtain ⟨n8, e8⟩ : ∃ n8, n8 = (O2.map Prod.fst ++ [(⟨y, gp⟩ : It)]).length := ⟨_, rfl⟩
    rw [← e8] at ev8
    subst ev8
    clear e8
    have S12 := Aside0.mk (S11.out.put HF.out (x := ⟨y, gp⟩) BP11.out HPF.out HP1.out ho hg12 hat)
    have BB12 := Aside0.mk (blk_grown BB11.out hg12 (Kd.R_ne S11.out.sd.rowo BB11.out (by decide)))
    have hbg : gb ≠ g := blk_ne BB12.out HG.out (by decide)
    have BB13 := Aside0.mk (blk_far (p := ⟨g, 3, none⟩) BB12.out hbg (.slice A8 n8 c8))
    have b130 := (blk_cell BB13.out 0).trans rfl
    clear ho hb12 hg12 hat
    refine hK.out _ _ ?_
    clear hK K
    refine normA (N := 65) ?_
    refine pureA (i := 8) (N := some 66) HT_ ?_
    refine pureA (i := 9) (N := some 67) HT_ ?_
    refine last_ (i := 10) (N := none) #[true, true, true, true, true, true, true, true, true, true, true] rfl rfl (one_of HT_.out (by kernel_rfl)) (by decide) (fun K hK => ?_)
    refine skip_ (w1 := ?_) (by rfl) rfl ?_ ?_
    rotate_left
    ·go_simp
     rfl
    refine hK.out _ _ ?_
    clear hK K
    refine done_ (done_of HT_.out (by kernel_rfl)) ?_
    go_wp2_with (first | go_step3 | (go_at_call 25; (with_reducible refine (serial_Next.calls y.f0 (nextN y.f0) _ (nxt_eq y.f0)).mono ?_); rintro x_ w13 ⟨rfl, hd⟩; have S13 := Aside0.mk (S12.out.below hd.below); have g134 : w13.cell? ⟨g, 4, none⟩ = some (.int .i64 nx2) := (blk_cell S13.out.sd.blk 4).trans rfl; have gf4 := blk_frozen S13.out.sd.blk 4; clear hd))
    go_roundg k1
    case measure => have := HI.out; omega
    case rel =>
     have hxs : (x + 1).toNat = x.toNat + 1 := by have := H0.out; omega
     refine ⟨x + 1, _, G + m1, _, _, _, _, by first | rfl | simp [hw], rfl, by first | rfl | simp [hgw], ⟨by have := H0.out; omega⟩, ⟨by have := HI.out; omega⟩, ⟨by rw [hxs]; exact S13.out.setN _⟩, ⟨?_⟩, ⟨?_⟩, ⟨?_⟩, ⟨fun j hj hji => ?_⟩⟩
     ·rw [hxs, take_goneL x.toNat HXL.out, ← HY.out, ← HGG.out, HM1.out]
     ·rw [hxs, ← HKE.out]
      simp only [dat, List.map_append, List.map_singleton, ← List.append_assoc]
      rw [show O2.map (fun o => (o.1.b, o.2)) = dat O2 from rfl, HO2.out]
      rfl
     ·rw [hxs, take_nextL x.toNat HXL.out, ← HY.out]
     ·rcases Int.lt_or_le (j : Int) x with e | e
      ·exact HA.out j hj e
      ·have : j = x.toNat := by have := H0.out; omega
       subst this
       rw [← HY.out]
       exact HPW.out
def ixB (q : It × Int → Bool) : List (It × Int) → Int → Int
 | [], _ => -1
 | o :: r, i => if q o = true then i else ixB q r (i + 1)
abbrev agQ (tr : Int) (o : It × Int) : Bool := decide (o.2 ≥ tr)
theorem wr_i64 {n : Int} (h0 : 0 ≤ n) (h1 : n ≤ 1000000) : IntKind.i64.wrap n = n := (i64_w n).trans (w64 (by omega) (by omega))
def sag.T1 : Bool × List (List Nat × List Nat) := (true, [([], []), ([0], [0]), ([1], [1]), ([2], [2]), ([], []), ([4], [4]), ([5], [5]), ([6], [6]), ([3, 7], [3, 7]), ([8, 2, 0, 1, 2, 3, 4, 5, 6, 7, 8], [8])])
def sag.B1 : List Nat := [0, 1, 3, 7, 0, 16, 48, 112, 255, 511]
theorem sag.tab1 : rtab .any (opsOf Try.f32 1) = sag.T1 := by kernel_rfl
theorem sag.bits1 : waitsOk sag.T1.2 sag.B1 = true := by kernel_rfl
theorem ag_pred (B g p : Nat) (bn n tr : Int) (A1 : Option Addr) (m1 c1 : Nat) (w : World) (r : Bool) (hr : decide (n ≥ tr) = r) (hB : w.cell? ⟨B, 0, none⟩ = some (.pointer (some ⟨g, 0, none⟩))) (hg : w.cell? ⟨g, 1, none⟩ = some (.int .i64 tr)) (hp : w.cell? ⟨p, 0, none⟩ = some (.int .i32 n)) (hn : IntKind.i64.wrap n = n) :
  Calls Try.prog 32 #[.agg #[.int .i64 bn, .slice A1 m1 c1, .pointer (some ⟨p, 0, none⟩)], .pointer (some ⟨B, 0, none⟩)] w fun e w' => e = .returned (.bool r) ∧ Below w.heap.size w w' := by
 have HB := Aside0.mk hB
 have HG := Aside0.mk hg
 have HP := Aside0.mk hp
 clear hB hg hp
 go_enter Try.func32, Try.ntmps32
 go_upto_region 1 with ((with_reducible refine gate_dst (N := 2) rfl ?_); refine box_event ?hg (N := 2) ?hd (cs := #[.int .i64 bn, .slice A1 m1 c1, .pointer (some ⟨p, 0, none⟩)]) (t := 73) ?hr ?_; (case hd => rfl); (case hg => rfl); (case hr => first | (go_simp; done) | (go_simp; rfl) | rfl | kernel_rfl); intro gb hg w2 hbox hb; have BB2 := Aside0.mk hb; have x2 : w2.cell? ⟨gb, 2, none⟩ = some (.pointer (some ⟨p, 0, none⟩)) := (blk_cell hbox 2).trans rfl; have y0 := cell_below' hb HB.out; have y1 := cell_below' hb HG.out; have y2 := cell_below' hb HP.out; clear hbox hb hg)
 refine start_ (n := 10) (S := fun w' => w'.cell? ⟨gb, 2, none⟩ = some (.pointer (some ⟨p, 0, none⟩)) ∧ w'.cell? ⟨B, 0, none⟩ = some (.pointer (some ⟨g, 0, none⟩)) ∧ w'.cell? ⟨g, 1, none⟩ = some (.int .i64 tr) ∧ w'.cell? ⟨p, 0, none⟩ = some (.int .i32 n)) (ds := []) #[false, false, false, false, false, false, false, false, false, false] (by kernel_rfl) rfl rfl ⟨x2, y0, y1, y2⟩ (fun hHeld => ?_); refine with_tabW sag.tab1 sag.bits1 (fun HT_ HW_ => ?_)
 refine pureA (i := 0) (N := some 4) HT_ ?_
 refine takeA (i := 1) (N := some 5) HT_ HW_ hHeld ?_
 refine takeA (i := 4) (N := some 8) HT_ HW_ hHeld ?_
 refine pureA (i := 5) (N := some 9) HT_ ?_
 refine pureA (i := 6) (N := some 10) HT_ ?_
 refine takeA (i := 7) (N := some 11) HT_ HW_ hHeld ?_
 refine oneA (i := 2) (N := some 6) HT_ (fun K hK => ?_)
 refine goes_ Try.func33 (by kernel_rfl) rfl #[.pointer (some ⟨p, 0, none⟩)] (by rfl) rfl rfl (by simp only [List.map_toArray, List.map_cons, List.map_nil]; rfl) ?_
 with_reducible refine (at_load p n _ hHeld.2.2.2).mono ?_
 rintro e w4 ⟨rfl, hw4⟩
 refine ⟨_, rfl, ?_⟩
 subst hw4
 refine hK.out _ _ ⟨hHeld.1, hHeld.2.1, hHeld.2.2.1, hHeld.2.2.2⟩ (fun hHeld => ?_)
 clear hK K
 refine normA (N := 6) ?_
 refine pureA (i := 3) (N := some 7) HT_ ?_
 refine pureA (i := 8) (N := some 12) HT_ ?_
 refine pureA (i := 9) (N := some 3) HT_ ?_
 refine done_ (done_of HT_.out (by kernel_rfl)) ?_
 go_wp2
 go_ret
 exact ⟨rfl, below_step BB2.out (below_drew (Below.refl _ _))⟩
theorem ag_index (A : Option Addr) (c n B : Nat) (O : List (It × Int)) (w : World) (hn : n = O.length) (hr : Kd.C kIt w A (O.map Prod.fst).length (O.map Prod.fst)) (hl : O.length ≤ 1000000) (tr : Int) (g : Nat) (hB : w.cell? ⟨B, 0, none⟩ = some (.pointer (some ⟨g, 0, none⟩))) (hg : w.cell? ⟨g, 1, none⟩ = some (.int .i64 tr)) (hc : ∀ o ∈ O, w.cell? ⟨o.1.p, 0, none⟩ = some (.int .i32 o.2)) (hb : ∀ o ∈ O, 0 ≤ o.2 ∧ o.2 ≤ 1000000) :
  Calls Try.prog 54 #[.slice A n c, .func (.func 32) #[] #[.pointer (some ⟨B, 0, none⟩)]] w fun e w' => e = .returned (.int .i64 (ixB (agQ tr) O 0)) ∧ Below w.heap.size w w' := by
 have HR := Aside0.mk hr
 have HL := Aside0.mk hl
 have HN := Aside0.mk hn
 have HB := Aside0.mk hB
 have HG := Aside0.mk hg
 have HC := Aside0.mk hc
 have HBD := Aside0.mk hb
 clear hB hg hc hb
 obtain ⟨R, hR⟩ : ∃ R, R = ixB (agQ tr) O 0 := ⟨_, rfl⟩
 rw [← hR]
 have HX := Aside0.mk hR.symm
 rw [List.length_map, ← hn] at HR
 clear hr hl hn hR
 go_enter Try.func54, Try.ntmps54
 go_wp2
 go_loopg [5, 8] n (fun kq v5 v8 wr => ∃ x : Int, v8 = .int .i64 x ∧ Aside0 (0 ≤ x) ∧ Aside0 (x + kq = n) ∧ Aside0 (ixB (agQ tr) (O.drop x.toNat) x = R) ∧ Aside0 (Below w.heap.size w wr))
 case atStart => exact ⟨0, rfl, ⟨by omega⟩, ⟨by omega⟩, HX, ⟨Below.refl _ _⟩⟩
 case round =>
  clear HX
  obtain ⟨x, rfl, H0, HI, HX, BL⟩ := hrel
  cases gk with
  | zero =>
   have hnl : decide (x < (n : Int)) = false := decide_eq_false (by have := HI.out; omega)
   have hx := HX.out
   rw [List.drop_eq_nil_of_le (by have := HI.out; have := HN.out; omega)] at hx
   simp only [ixB] at hx
   subst hx
   go_wp2
   go_ret
   exact ⟨rfl, BL.out⟩
  | succ k1 =>
   have hlt := (show x < (n : Int) by have := HI.out; omega)
   have h0 := H0.out
   have HXL := Aside0.mk (show x.toNat < O.length by have := HN.out; omega)
   obtain ⟨ad, A1, c1, e_, hx0, hx1, hx2, _, _⟩ := at_It HR.out x h0 hlt
   cases e_
   obtain ⟨o, ho⟩ : ∃ o, o = O[x.toNat]'(HXL.out) := ⟨_, rfl⟩
   have HO := Aside0.mk ho
   have hy : rd_It (O.map Prod.fst) x = o.1 := by rw [ho, ← List.getElem_map Prod.fst (h := by rw [List.length_map]; exact HXL.out), ← it_rd]; congr 1; omega
   rw [hy] at hx0 hx1 hx2
   replace hx0 := cell_below' BL.out hx0
   replace hx1 := cell_below' BL.out hx1
   replace hx2 := cell_below' BL.out hx2
   obtain ⟨m1, hm1⟩ : ∃ m1, m1 = o.1.b.f1.length := ⟨_, rfl⟩
   rw [← hm1] at hx1
   have HM := Aside0.mk (show o ∈ O by rw [ho]; exact List.getElem_mem _)
   have hd : decide (x < (n : Int)) = true := decide_eq_true hlt
   have hb0 : x < 9223372036854775807 := by have := HL.out; have := HN.out; omega
   have hw : wrap64 (x + 1) = x + 1 := w64 (by omega) (by omega)
   have hx := HX.out
   have hg : O.drop x.toNat = o :: O.drop (x + 1).toNat := by
    rw [List.drop_eq_getElem_cons HXL.out, show (x + 1).toNat = x.toNat + 1 by omega, ho]
   rw [hg] at hx
   simp only [ixB] at hx
   clear hg HX ho hy hm1
   have h0t := eq_true h0
   have hltt := eq_true hlt
   cases hq : (agQ tr) o with
   | true =>
    rw [if_pos hq] at hx
    subst hx
    have HQ := Aside0.mk hq
    clear hq
    go_wp2_with (go_at_call 32; (with_reducible refine (ag_pred B g o.1.p o.1.b.f0 o.2 tr A1 m1 c1 _ _ HQ.out (cell_below' BL.out HB.out) (cell_below' BL.out HG.out) (cell_below' BL.out (HC.out o HM.out)) (wr_i64 (HBD.out o HM.out).1 (HBD.out o HM.out).2)).mono ?_); rintro e2 w2 ⟨rfl, hb⟩; have BL2 := Aside0.mk (below_step BL.out hb); clear hb)
    go_ret
    exact ⟨rfl, BL2.out⟩
   | false =>
    rw [if_neg (by rw [hq]; decide)] at hx
    have HX := Aside0.mk hx
    have HQ := Aside0.mk hq
    clear hx hq
    go_wp2_with (go_at_call 32; (with_reducible refine (ag_pred B g o.1.p o.1.b.f0 o.2 tr A1 m1 c1 _ _ HQ.out (cell_below' BL.out HB.out) (cell_below' BL.out HG.out) (cell_below' BL.out (HC.out o HM.out)) (wr_i64 (HBD.out o HM.out).1 (HBD.out o HM.out).2)).mono ?_); rintro e2 w2 ⟨rfl, hb⟩; have BL2 := Aside0.mk (below_step BL.out hb); clear hb)
    go_roundg k1
    case measure => have := HI.out; omega
    case rel => exact ⟨x + 1, by first | rfl | simp [hw], ⟨by omega⟩, ⟨by have := HI.out; omega⟩, HX, BL2⟩
theorem ixB_none {q : It × Int → Bool} : ∀ (O : List (It × Int)) (i : Int), (∀ o ∈ O, q o = false) → ixB q O i = -1 := by
 intro O
 induction O with
 | nil => intro i _; rfl
 | cons o r ih =>
  intro i h
  unfold ixB
  rw [if_neg (by rw [h o List.mem_cons_self]; decide)]
  exact ih _ (fun p hp => h p (List.mem_cons_of_mem _ hp))
theorem ixB_some {q : It × Int → Bool} : ∀ (O : List (It × Int)) (i : Int), 0 ≤ i → (∃ o ∈ O, q o = true) → ixB q O i ≥ 0 := by
 intro O
 induction O with
 | nil => rintro i _ ⟨o, ho, _⟩; cases ho
 | cons o r ih =>
  rintro i hi ⟨p, hp, hq⟩
  unfold ixB
  split
  ·exact hi
  ·rename_i hn
   rcases List.mem_cons.1 hp with rfl | hp
   ·exact absurd hq hn
   ·exact ih _ (by omega) ⟨p, hp, hq⟩
theorem i32_sm {n : Int} (h0 : 0 ≤ n) (h1 : n ≤ 2000000) : IntKind.i32.wrap n = n := by rw [i32_w]; unfold wrap32; omega
def bumpL (O : List (It × Int)) (i : Nat) : List (It × Int) := (O.take i).map (fun o => (o.1, o.2 + 1)) ++ O.drop i
theorem bumpL_fst (O : List (It × Int)) (i : Nat) : (bumpL O i).map Prod.fst = O.map Prod.fst := by
 unfold bumpL
 rw [List.map_append, List.map_map]
 conv => rhs; rw [← List.take_append_drop i O, List.map_append]
 rfl
theorem bumpL_len (O : List (It × Int)) (i : Nat) : (bumpL O i).length = O.length := by
 have := congrArg List.length (bumpL_fst O i)
 simpa using this
theorem bumpL_at (O : List (It × Int)) (i : Nat) (h : i < O.length) : (bumpL O i)[i]'(by rw [bumpL_len]; exact h) = O[i] := by
 unfold bumpL
 rw [List.getElem_append_right (by rw [List.length_map, List.length_take]; omega)]
 simp only [List.length_map, List.length_take, List.getElem_drop]
 congr 1
 omega
theorem bumpL_set (O : List (It × Int)) (i : Nat) (h : i < O.length) : (bumpL O i).set i (O[i].1, O[i].2 + 1) = bumpL O (i + 1) := by
 unfold bumpL
 have hl : ((O.take i).map fun o => (o.1, o.2 + 1)).length = i := by rw [List.length_map, List.length_take]; omega
 rw [List.set_append_right _ _ (by omega), hl, Nat.sub_self, List.drop_eq_getElem_cons h, List.set_cons_zero, List.take_succ_eq_append_getElem h, List.map_append, List.append_assoc]
 rfl
def bumpA (O : List (It × Int)) : List (It × Int) := O.map fun o => (o.1, o.2 + 1)
theorem bumpL_all (O : List (It × Int)) (i : Nat) (h : i = O.length) : bumpL O i = bumpA O := by
 subst h
 unfold bumpL bumpA
 rw [List.take_length, List.drop_length, List.append_nil]
theorem set_mem {O : List (It × Int)} {i : Nat} {m : Int} (hi : i < O.length) {o : It × Int} (ho : o ∈ O.set i (O[i].1, m)) : (o = (O[i].1, m)) ∨ ∃ j, ∃ h : j < O.length, j ≠ i ∧ o = O[j] := by
 obtain ⟨j, hj, e⟩ := List.mem_iff_getElem.1 ho
 rw [List.length_set] at hj
 rw [List.getElem_set] at e
 split at e
 ·exact .inl e.symm
 ·rename_i hne
  exact .inr ⟨j, hj, fun e2 => hne e2.symm, e.symm⟩
theorem set_fst {O : List (It × Int)} {i : Nat} {m : Int} (hi : i < O.length) : (O.set i (O[i].1, m)).map Prod.fst = O.map Prod.fst := by
 rw [List.map_set]
 apply List.ext_getElem
 ·simp
 ·intro j h1 h2
  rw [List.getElem_set]
  split
  ·rename_i e
   subst e
   simp
  ·rfl
theorem Sd.bump {w0 w : World} {F : Nat → Prop} {g : Nat} {wn tr nx : Int} {W : List S34} {O : List (It × Int)} {vw vo : Value} (h : Sd w0 w F g wn tr W O nx vw vo) (i : Nat) (hi : i < O.length) {o : It × Int} (ho : O[i] = o) (m : Int) :
  Sd w0 (w.setCell ⟨o.1.p, 0, none⟩ (.int .i32 m)) F g wn tr W (O.set i (o.1, m)) nx vw vo := by
 subst ho
 obtain ⟨c1, c2, c3, c4⟩ := h.cnt _ (List.getElem_mem hi)
 have hok : ∀ k, (∀ o ∈ O, k ≠ o.1.p) → ∀ o ∈ O.set i (O[i].1, m), k ≠ o.1.p := by
  intro k hk o ho
  rcases set_mem hi ho with e | ⟨j, hj, _, e⟩
  ·rw [e]; show k ≠ O[i].1.p; exact hk O[i] (List.getElem_mem hi)
  ·rw [e]; exact hk O[j] (List.getElem_mem hj)
 refine ⟨h.bl.setCell c3 _, (Below.heap_setCell w ⟨O[i].1.p, 0, none⟩ _ g (fun e => c2 e.symm)).trans h.blk, h.new, fun k hk => Nat.lt_of_lt_of_le (h.lt k hk) (set_size _ _ _), h.fg, ?_, ?_, fun o ho => ?_, ?_⟩
 ·exact Kd.R_mono (Kd.R_far (p := ⟨O[i].1.p, 0, none⟩) h.roww (fun k hk e => hk.2.2.2 _ (List.getElem_mem hi) e) _) (fun k hk => ⟨hk.1, hk.2.1, hk.2.2.1, hok k hk.2.2.2⟩)
 ·rw [set_fst hi]
  exact Kd.R_mono (Kd.R_far (p := ⟨O[i].1.p, 0, none⟩) h.rowo (fun k hk e => hk.2.2.2 _ (List.getElem_mem hi) e) _) (fun k hk => ⟨hk.1, hk.2.1, hk.2.2.1, hok k hk.2.2.2⟩)
 ·rcases set_mem hi ho with e | ⟨j, hj, hne, e⟩
  ·subst e
   exact ⟨c1, c2, c3, blk_put c4 0 (.int .i32 m) rfl⟩
  ·subst e
   obtain ⟨d1, d2, d3, d4⟩ := h.cnt _ (List.getElem_mem hj)
   have hp := List.pairwise_iff_getElem.1 h.apart
   refine ⟨d1, d2, d3, (Below.heap_setCell w ⟨O[i].1.p, 0, none⟩ _ _ ?_).trans d4⟩
   rcases Nat.lt_or_gt_of_ne hne with e | e
   ·exact hp j i hj hi e
   ·exact fun e2 => hp i j hi hj e e2.symm
 ·have hq : (O.map fun o => o.1.p).Pairwise (· ≠ ·) := List.pairwise_map.2 h.apart
  have he : (O.set i (O[i].1, m)).map (fun o => o.1.p) = O.map fun o => o.1.p := by
   have := congrArg (List.map It.p) (set_fst (m := m) hi)
   rw [List.map_map, List.map_map] at this
   exact this
  rw [← he] at hq
  exact List.pairwise_map.1 hq
theorem Wr.bump {g : Nat} {vw vo : Value} {O O2 : List (It × Int)} (h : O2.map Prod.fst = O.map Prod.fst) (k : Nat) : Wr g vw vo O2 k → Wr g vw vo O k := by
 have key : ∀ {A B : List (It × Int)}, A.map Prod.fst = B.map Prod.fst → (∃ o ∈ A, k = o.1.p) → ∃ o ∈ B, k = o.1.p := by
  rintro A B e ⟨o, ho, rfl⟩
  have : o.1 ∈ B.map Prod.fst := e ▸ List.mem_map_of_mem ho
  obtain ⟨o2, h2, h3⟩ := List.mem_map.1 this
  exact ⟨o2, h2, by rw [h3]⟩
 rintro (e | e | e | e)
 ·exact .inl e
 ·exact .inr (.inl e)
 ·exact .inr (.inr (.inl e))
 ·exact .inr (.inr (.inr (key h e)))
theorem ag_contains (A : Option Addr) (c n B : Nat) (O : List (It × Int)) (w : World) (hn : n = O.length) (hr : Kd.C kIt w A (O.map Prod.fst).length (O.map Prod.fst)) (hl : O.length ≤ 1000000) (tr : Int) (g : Nat) (hB : w.cell? ⟨B, 0, none⟩ = some (.pointer (some ⟨g, 0, none⟩))) (hg : w.cell? ⟨g, 1, none⟩ = some (.int .i64 tr)) (hc : ∀ o ∈ O, w.cell? ⟨o.1.p, 0, none⟩ = some (.int .i32 o.2)) (hb : ∀ o ∈ O, 0 ≤ o.2 ∧ o.2 ≤ 1000000) (b : Bool) (hbq : decide (ixB (agQ tr) O 0 ≥ 0) = b) :
  Calls Try.prog 31 #[.slice A n c, .func (.func 32) #[] #[.pointer (some ⟨B, 0, none⟩)]] w fun e w' => e = .returned (.bool b) ∧ Below w.heap.size w w' := by
 have HI := Aside0.mk (ag_index A c n B O w hn hr hl tr g hB hg hc hb)
 obtain ⟨R, hR⟩ : ∃ R, R = ixB (agQ tr) O 0 := ⟨_, rfl⟩
 rw [← hR] at HI hbq
 clear hn hr hl hB hg hc hb hR
 go_enter Try.func31, Try.ntmps31
 go_wp2_with (go_at_call 54; (with_reducible refine HI.out.mono ?_); rintro e w2 ⟨rfl, hb⟩; have B2 := Aside0.mk hb; clear hb)
 go_ret
 exact ⟨rfl, B2.out⟩
theorem sagain_bad {w0 w : World} {F : Nat → Prop} {g : Nat} {wn tr nx : Int} {W : List S34} {O : List (It × Int)} {vw vo : Value} (h : Sd w0 w F g wn tr W O nx vw vo) (hl : O.length ≤ 1000000) (hb : ∀ o ∈ O, 0 ≤ o.2 ∧ o.2 ≤ 1000000) (hq : ∃ o ∈ O, o.2 ≥ tr) :
  Calls Try.prog 13 #[.pointer (some ⟨g, 0, none⟩)] w fun e w' => e = .returned (.tuple #[.slice none 0 0, .bool false]) ∧ Below w.heap.size w w' := by
 obtain ⟨Ao, co, rfl⟩ := Kd.R_slice h.rowo
 obtain ⟨n, hn⟩ : ∃ n, n = (O.map Prod.fst).length := ⟨_, rfl⟩
 rw [← hn] at h
 have HS := Aside0.mk h
 have HN := Aside0.mk (show n = O.length by rw [hn, List.length_map])
 have HL := Aside0.mk hl
 have HB := Aside0.mk hb
 have HQ := Aside0.mk (show decide (ixB (agQ tr) O 0 ≥ 0) = true from decide_eq_true (ixB_some O 0 (Int.le_refl _) (by obtain ⟨o, ho, h1⟩ := hq; exact ⟨o, ho, decide_eq_true h1⟩)))
 clear h hn hl hb hq
 go_enter Try.func13, Try.ntmps13
 go_wp2_with (first
  | ((with_reducible refine gate_dst (N := 1) rfl ?_); refine box_event ?hg (N := 1) ?hd (cs := #[.pointer (some ⟨g, 0, none⟩)]) (t := 23) ?hr ?_; (case hd => rfl); (case hg => rfl); (case hr => first | (go_simp; done) | (go_simp; rfl) | rfl | kernel_rfl); intro gB hg w2 hbox hb; have S1 := Aside0.mk (HS.out.below hb); have B1 := Aside0.mk hb; have BX1 := Aside0.mk hbox; have xB : w2.cell? ⟨gB, 0, none⟩ = some (.pointer (some ⟨g, 0, none⟩)) := (blk_cell hbox 0).trans rfl; have x3 : w2.cell? ⟨g, 3, none⟩ = some (.slice Ao n co) := (blk_cell S1.out.blk 3).trans rfl; clear hb hbox hg)
  | (go_at_call 31; (with_reducible refine (ag_contains Ao co n gB O _ HN.out (Kd.R_reads' S1.out.rowo).2.2 HL.out tr g ((blk_cell BX1.out 0).trans rfl) ((blk_cell S1.out.blk 1).trans rfl) (fun o ho => (blk_cell (S1.out.cnt o ho).2.2.2 0).trans rfl) HB.out _ HQ.out).mono ?_); rintro e w3 ⟨rfl, hb⟩; have S2 := Aside0.mk (S1.out.below hb); have B2 := Aside0.mk (below_step B1.out hb); have BX2 := Aside0.mk (blk_below BX1.out hb); have xB2 : w3.cell? ⟨gB, 0, none⟩ = some (.pointer (some ⟨g, 0, none⟩)) := (blk_cell BX2.out 0).trans rfl; have x32 : w3.cell? ⟨g, 3, none⟩ = some (.slice Ao n co) := (blk_cell S2.out.blk 3).trans rfl; clear hb))
 go_ret2
 exact ⟨rfl, B2.out⟩
theorem sagain_ok {w0 w : World} {F : Nat → Prop} {g : Nat} {wn tr nx : Int} {W : List S34} {O : List (It × Int)} {vw vo : Value} (h : Sd w0 w F g wn tr W O nx vw vo) (hl : O.length ≤ 1000000) (hb : ∀ o ∈ O, 0 ≤ o.2 ∧ o.2 ≤ 1000000) (hq : ∀ o ∈ O, ¬ o.2 ≥ tr) :
  Calls Try.prog 13 #[.pointer (some ⟨g, 0, none⟩)] w fun e w' => ∃ v, e = .returned (.tuple #[v, .bool true]) ∧ Sd w0 w' F g wn tr W (bumpA O) nx vw vo ∧ SX w F (Wr g vw vo O) w' F (Wr g vw vo (bumpA O)) ∧
   k48.R 48 w' w0.heap.size (fun k => w.heap.size ≤ k ∨ (F k ∧ ¬ Wr g vw vo O k)) v ((O.map Prod.fst).map It.b) ∧ ∀ k, v.ownBlock = some k → w.heap.size ≤ k ∧ ¬ F k := by
 obtain ⟨Ao, co, rfl⟩ := Kd.R_slice h.rowo
 obtain ⟨n, hn⟩ : ∃ n, n = (O.map Prod.fst).length := ⟨_, rfl⟩
 rw [← hn] at h ⊢
 have HS := Aside0.mk h
 have HN := Aside0.mk (show n = O.length by rw [hn, List.length_map])
 have HL := Aside0.mk hl
 have HB := Aside0.mk hb
 have HQ := Aside0.mk (show decide (ixB (agQ tr) O 0 ≥ 0) = false from decide_eq_false (by rw [ixB_none O 0 (fun o ho => decide_eq_false (hq o ho))]; decide))
 clear h hn hl hb hq
 go_enter Try.func13, Try.ntmps13
 go_wp2_with (first
  | ((with_reducible refine gate_dst (N := 1) rfl ?_); refine box_event ?hg (N := 1) ?hd (cs := #[.pointer (some ⟨g, 0, none⟩)]) (t := 23) ?hr ?_; (case hd => rfl); (case hg => rfl); (case hr => first | (go_simp; done) | (go_simp; rfl) | rfl | kernel_rfl); intro gB hg w2 hbox hb; have S1 := Aside0.mk (HS.out.below hb); have B1 := Aside0.mk hb; have BX1 := Aside0.mk hbox; have xB : w2.cell? ⟨gB, 0, none⟩ = some (.pointer (some ⟨g, 0, none⟩)) := (blk_cell hbox 0).trans rfl; have x3 : w2.cell? ⟨g, 3, none⟩ = some (.slice Ao n co) := (blk_cell S1.out.blk 3).trans rfl; clear hb hbox hg)
  | (go_at_call 31; (with_reducible refine (ag_contains Ao co n gB O _ HN.out (Kd.R_reads' S1.out.rowo).2.2 HL.out tr g ((blk_cell BX1.out 0).trans rfl) ((blk_cell S1.out.blk 1).trans rfl) (fun o ho => (blk_cell (S1.out.cnt o ho).2.2.2 0).trans rfl) HB.out _ HQ.out).mono ?_); rintro e w3 ⟨rfl, hb⟩; have S2 := Aside0.mk (S1.out.below hb); have B2 := Aside0.mk (below_step B1.out hb); have BX2 := Aside0.mk (blk_below BX1.out hb); have xB2 : w3.cell? ⟨gB, 0, none⟩ = some (.pointer (some ⟨g, 0, none⟩)) := (blk_cell BX2.out 0).trans rfl; have x32 : w3.cell? ⟨g, 3, none⟩ = some (.slice Ao n co) := (blk_cell S2.out.blk 3).trans rfl; clear hb))
 go_loopg [19] n (fun kq v19 wr => ∃ (x : Int), v19 = .int .i64 x ∧ Aside0 (0 ≤ x) ∧ Aside0 (x + kq = n) ∧ Aside0 (Sd w0 wr F g wn tr W (bumpL O x.toNat) nx vw (.slice Ao n co)) ∧ Aside0 (SX w F (Wr g vw (.slice Ao n co) O) wr F (Wr g vw (.slice Ao n co) O)) ∧ Aside0 (wr.heap[gB]? = some (.cells #[.pointer (some ⟨g, 0, none⟩)] 23 (0, 0))))
 case atStart => exact ⟨0, rfl, ⟨by omega⟩, ⟨by omega⟩, ⟨S2.out⟩, ⟨SX.of_below _ _ B2.out⟩, BX2⟩
 case round =>
  clear S1 S2 BX1 BX2 B1 B2
  obtain ⟨x, rfl, H0, HI, SS, SXS, BXS⟩ := hrel
  cases gk with
  | zero =>
   have hnl : decide (x < (n : Int)) = false := decide_eq_false (by have := HI.out; omega)
   have hxl : x.toNat = O.length := by have := HI.out; have := HN.out; have := H0.out; omega
   have hs := SS.out
   rw [bumpL_all O _ hxl] at hs
   have SF := Aside0.mk hs
   have HLB := Aside0.mk (show (bumpA O).length ≤ 1000000 by unfold bumpA; rw [List.length_map]; exact HL.out)
   have zB : wr.cell? ⟨gB, 0, none⟩ = some (.pointer (some ⟨g, 0, none⟩)) := (blk_cell BXS.out 0).trans rfl
   clear hxl hs SS
   go_wp2_with (go_at_call 15; (with_reducible refine (sout_s SF.out HLB.out).mono ?_); rintro x_ w12 ⟨v12, rfl, hos⟩; have HOS := Aside0.mk hos; clear hos)
   go_ret2
   have hfst : (bumpA O).map Prod.fst = O.map Prod.fst := by unfold bumpA; rw [List.map_map]; rfl
   refine ⟨_, rfl, SF.out.below HOS.out.bl, ⟨Nat.le_trans SXS.out.sz HOS.out.bl.size, fun k hk hR => (HOS.out.bl.block k (Nat.lt_of_lt_of_le hk SXS.out.sz)).trans (SXS.out.fr k hk hR), fun k hk => .inl hk, fun k hk => .inl (Wr.bump hfst k hk)⟩, ?_, fun k hk => ⟨Nat.le_trans SXS.out.sz (HOS.out.own k hk), fun hF => by have := SF.out.lt k hF; have := HOS.out.own k hk; omega⟩⟩
   have hrow := HOS.out.row
   rw [hfst] at hrow
   refine Kd.R_mono hrow (fun k hk => ?_)
   rcases hk with e | e
   ·exact .inl (Nat.le_trans SXS.out.sz e)
   ·exact .inr ⟨e.1, fun hR => e.2 (Wr.bump hfst.symm k hR)⟩
  | succ k1 =>
   have hlt := (show x < (n : Int) by have := HI.out; omega)
   have h0 := H0.out
   have HXL := Aside0.mk (show x.toNat < O.length by have := HN.out; omega)
   have HXB := Aside0.mk (show x.toNat < (bumpL O x.toNat).length by rw [bumpL_len]; exact HXL.out)
   have hC := (Kd.R_reads' SS.out.rowo).2.2
   rw [bumpL_fst] at hC
   obtain ⟨ad, A1, c1, e_, hx0, hx1, hx2, _, _⟩ := at_It hC x h0 (by rw [List.length_map, ← HN.out]; exact hlt)
   cases e_
   obtain ⟨o, ho⟩ : ∃ o, o = O[x.toNat]'(HXL.out) := ⟨_, rfl⟩
   have HOO := Aside0.mk ho
   have HOX := Aside0.mk (show (bumpL O x.toNat)[x.toNat]'(HXB.out) = o by rw [ho]; exact bumpL_at O _ HXL.out)
   have hy : rd_It (O.map Prod.fst) x = o.1 := by rw [ho, ← List.getElem_map Prod.fst (h := by rw [List.length_map]; exact HXL.out), ← it_rd]; congr 1; omega
   rw [hy] at hx0 hx1 hx2
   obtain ⟨m1, hm1⟩ : ∃ m1, m1 = o.1.b.f1.length := ⟨_, rfl⟩
   rw [← hm1] at hx1
   have HM := Aside0.mk (show o ∈ bumpL O x.toNat by rw [← HOX.out]; exact List.getElem_mem _)
   have HMO := Aside0.mk (show o ∈ O by rw [ho]; exact List.getElem_mem _)
   have HWp := Aside0.mk (show Wr g vw (.slice (some ad) n co) O o.1.p from .inr (.inr (.inr ⟨o, HMO.out, rfl⟩)))
   have HWR := Aside0.mk (show IntKind.i32.wrap (o.2 + 1) = o.2 + 1 from i32_sm (by have := HB.out o HMO.out; omega) (by have := HB.out o HMO.out; omega))
   have hd : decide (x < (n : Int)) = true := decide_eq_true hlt
   have hb0 : x < 9223372036854775807 := by have := HL.out; have := HN.out; omega
   have hw : wrap64 (x + 1) = x + 1 := w64 (by omega) (by omega)
   have h0t := eq_true h0
   have hltt := eq_true hlt
   clear hC ho hy hm1
   go_wp2_with (first
    | ((with_reducible refine gate_dst (N := 5) rfl ?_); refine box_event ?hg (N := 5) ?hd (cs := #[.int .i64 0, .slice none 0 0, .pointer none]) (t := 73) ?hr ?_; (case hd => rfl); (case hg => rfl); (case hr => first | (go_simp; done) | (go_simp; rfl) | rfl | kernel_rfl); intro gi hg w8 hbox hb; have HB9 := Aside0.mk (show Below wr.heap.size wr (((w8.setCell ⟨gi, 0, none⟩ (.int .i64 o.1.b.f0)).setCell ⟨gi, 1, none⟩ (.slice A1 m1 c1)).setCell ⟨gi, 2, none⟩ (.pointer (some ⟨o.1.p, 0, none⟩))) from below_set (below_set (below_set hb (Nat.le_of_eq hg.symm)) (Nat.le_of_eq hg.symm)) (Nat.le_of_eq hg.symm)); have S9 := Aside0.mk (SS.out.below HB9.out); have BX9 := Aside0.mk (blk_below BXS.out HB9.out); have BI9 := Aside0.mk (blk_put (blk_put (blk_put hbox 0 (.int .i64 o.1.b.f0) (cs' := #[.int .i64 o.1.b.f0, .slice none 0 0, .pointer none]) rfl) 1 (.slice A1 m1 c1) (cs' := #[.int .i64 o.1.b.f0, .slice A1 m1 c1, .pointer none]) rfl) 2 (.pointer (some ⟨o.1.p, 0, none⟩)) (cs' := #[.int .i64 o.1.b.f0, .slice A1 m1 c1, .pointer (some ⟨o.1.p, 0, none⟩)]) rfl); have a0 := (blk_cell hbox 0).trans rfl; have a1 := (blk_cell hbox 1).trans rfl; have a2 := (blk_cell hbox 2).trans rfl; have af0 := blk_frozen hbox 0; have af1 := blk_frozen hbox 1; have af2 := blk_frozen hbox 2; have i2 : (((w8.setCell ⟨gi, 0, none⟩ (.int .i64 o.1.b.f0)).setCell ⟨gi, 1, none⟩ (.slice A1 m1 c1)).setCell ⟨gi, 2, none⟩ (.pointer (some ⟨o.1.p, 0, none⟩))).cell? ⟨gi, 2, none⟩ = some (.pointer (some ⟨o.1.p, 0, none⟩)) := (blk_cell BI9.out 2).trans rfl; clear hb hbox hg)
    | (go_at_call 34; (with_reducible refine (at_add o.1.p o.2 1 (o.2 + 1) _ ((blk_cell (S9.out.cnt o HM.out).2.2.2 0).trans rfl) (blk_frozen (S9.out.cnt o HM.out).2.2.2 0) HWR.out).mono ?_); rintro x_ w10 ⟨rfl, hw10⟩; have S10 := Aside0.mk (S9.out.bump x.toNat HXB.out (o := o) HOX.out (o.2 + 1)); have SX10 := Aside0.mk ((SXS.out.below HB9.out).trans (SX.set _ F _ 0 (.int .i32 (o.2 + 1)) HWp.out)); have BX10 := Aside0.mk (blk_far (p := ⟨o.1.p, 0, none⟩) BX9.out (blk_ne BX9.out (S9.out.cnt o HM.out).2.2.2 (by decide)) (.int .i32 (o.2 + 1))); rw [← hw10] at S10 SX10 BX10; clear hw10))
   go_roundg k1
   case measure => have := HI.out; omega
   case rel => exact ⟨x + 1, by first | rfl | simp [hw], ⟨by omega⟩, ⟨by have := HI.out; omega⟩, ⟨by
    have e1 := bumpL_set O x.toNat HXL.out
    rw [← HOO.out] at e1
    rw [show (x + 1).toNat = x.toNat + 1 by omega, ← e1]
    exact S10.out⟩, SX10, BX10⟩
end Go.Proofs.Ytclbempnhelmoaa.P
namespace Go.Proofs.Ytclbempnhelmoaa.P
open Go.RowKit YtclbempnhelmoaaW.PrintWords YtclbempnhelmoaaW.PrintLast YtclbempnhelmoaaW.PrintMore
open YtclbempnhelmoaaW.PrintWords renaming below_alloc → YA, pw_below_drewN → YB, below_drew1 → YC, below_step → YD, below_size → YE, blk_cell → YF, blk_frozen → YG
open YtclbempnhelmoaaW.PrintWords.Aside0 renaming mk → YH
attribute [local go_sem] max2_int min2_int max_two min_two max_three min_three max_four min_four
def ack_right.f (a0_0 : Int) (a0_1 : Int) (a0_2 : Int) (a0_3 : Int) : Option (Bool) := if a0_0 ≥ 0 then (if a0_0 < 64 then (if a0_1 ≥ 0 then (if a0_1 ≤ 4294967295 then (if a0_2 ≥ 0 then (if a0_2 ≤ 65535 then (if a0_3 ≥ 0 then (some (decide (a0_3 ≤ 65535))) else (some false)) else (some false)) else (some false)) else (some false)) else (some false)) else (some false)) else (some false)
theorem ack_right.calls (a0_0 : Int) (a0_1 : Int) (a0_2 : Int) (a0_3 : Int) (r : Bool) (w : World) (h : ack_right.f a0_0 a0_1 a0_2 a0_3 = some r) :
  Calls Try.prog 57 #[.agg #[.int .i64 a0_0, .int .i64 a0_1, .int .i64 a0_2, .int .i64 a0_3]] w fun e w' => e = .returned (.bool r) ∧ Below w.heap.size w w' := by
 have hu36 := Try.underlying36
 have HB := YH (Below.refl w.heap.size w)
 have H : (if a0_0 ≥ 0 then (if a0_0 < 64 then (if a0_1 ≥ 0 then (if a0_1 ≤ 4294967295 then (if a0_2 ≥ 0 then (if a0_2 ≤ 65535 then (if a0_3 ≥ 0 then (some (decide (a0_3 ≤ 65535))) else (some false)) else (some false)) else (some false)) else (some false)) else (some false)) else (some false)) else (some false)) = some r := h
 clear h
 by_cases c2 : a0_0 ≥ 0
 ·rw [if_pos c2] at H
  have c2b0 : decide (0 ≤ a0_0) = true := decide_eq_true c2; clear c2
  by_cases c3 : a0_0 < 64
  ·rw [if_pos c3] at H
   have c3b0 : decide (a0_0 < 64) = true := decide_eq_true c3; clear c3
   by_cases c4 : a0_1 ≥ 0
   ·rw [if_pos c4] at H
    have c4b0 : decide (0 ≤ a0_1) = true := decide_eq_true c4; clear c4
    by_cases c5 : a0_1 ≤ 4294967295
    ·rw [if_pos c5] at H
     have c5b0 : decide (a0_1 ≤ 4294967295) = true := decide_eq_true c5; clear c5
     by_cases c6 : a0_2 ≥ 0
     ·rw [if_pos c6] at H
      have c6b0 : decide (0 ≤ a0_2) = true := decide_eq_true c6; clear c6
      by_cases c7 : a0_2 ≤ 65535
      ·rw [if_pos c7] at H
       have c7b0 : decide (a0_2 ≤ 65535) = true := decide_eq_true c7; clear c7
       by_cases c8 : a0_3 ≥ 0
       ·rw [if_pos c8] at H
        have c8b0 : decide (0 ≤ a0_3) = true := decide_eq_true c8; clear c8
        obtain rfl := Option.some.inj H
        go_enter Try.func57, Try.ntmps57
        go_wp2_with (first | ((with_reducible refine gate_dst (N := 1) rfl ?_); refine box_event ?hg (N := 1) ?hd (cs := #[.int .i64 a0_0, .int .i64 a0_1, .int .i64 a0_2, .int .i64 a0_3]) (t := 36) ?hr ?_; (case hd => rfl); (case hg => rfl); (case hr => first | (go_simp; done) | (go_simp; rfl)); intro gb260 hg w9 hbox hb; have n0_ := YH (YD (upB HB) hb); have n1_ := YH (hbox); have n2_ := YH ((by rw [hg]; exact (YE (upB HB)) : w.heap.size ≤ gb260)); have n3_ := YH ((by rw [hg]; exact (YE (upB HB)) : w.heap.size ≤ gb260)); clear HB; have HB := n0_; have BK260 := n1_; have GW260 := n2_; have GE260 := n3_; clear n0_ n1_ n2_ n3_; clear hb hbox hg; obtain ⟨q10_0, q10_1, q10_2, q10_3⟩ := cA4 BK260.out; obtain ⟨f10_0, f10_1, f10_2, f10_3⟩ := fA4 BK260.out))
        go_ret
        exact ⟨by first | rfl | (simp [errW_none, errW_some] <;> rfl) | (simp [*, errW_none, errW_some] <;> rfl), by repeat (first | (with_reducible first | exact HB.out | apply YA | apply YB | apply YC | refine below_set ?_ GE260.out) | exact HB.out)⟩
       rw [if_neg c8] at H; have c8b0 : decide (0 ≤ a0_3) = false := decide_eq_false c8; clear c8
       obtain rfl := Option.some.inj H
       go_enter Try.func57, Try.ntmps57
       go_wp2_with (first | ((with_reducible refine gate_dst (N := 1) rfl ?_); refine box_event ?hg (N := 1) ?hd (cs := #[.int .i64 a0_0, .int .i64 a0_1, .int .i64 a0_2, .int .i64 a0_3]) (t := 36) ?hr ?_; (case hd => rfl); (case hg => rfl); (case hr => first | (go_simp; done) | (go_simp; rfl)); intro gb260 hg w11 hbox hb; have n0_ := YH (YD (upB HB) hb); have n1_ := YH (hbox); have n2_ := YH ((by rw [hg]; exact (YE (upB HB)) : w.heap.size ≤ gb260)); have n3_ := YH ((by rw [hg]; exact (YE (upB HB)) : w.heap.size ≤ gb260)); clear HB; have HB := n0_; have BK260 := n1_; have GW260 := n2_; have GE260 := n3_; clear n0_ n1_ n2_ n3_; clear hb hbox hg; obtain ⟨q12_0, q12_1, q12_2, q12_3⟩ := cA4 BK260.out; obtain ⟨f12_0, f12_1, f12_2, f12_3⟩ := fA4 BK260.out))
       go_ret
       exact ⟨by first | rfl | (simp [errW_none, errW_some] <;> rfl) | (simp [*, errW_none, errW_some] <;> rfl), by repeat (first | (with_reducible first | exact HB.out | apply YA | apply YB | apply YC | refine below_set ?_ GE260.out) | exact HB.out)⟩
      rw [if_neg c7] at H; have c7b0 : decide (a0_2 ≤ 65535) = false := decide_eq_false c7; clear c7
      obtain rfl := Option.some.inj H
      go_enter Try.func57, Try.ntmps57
      go_wp2_with (first | ((with_reducible refine gate_dst (N := 1) rfl ?_); refine box_event ?hg (N := 1) ?hd (cs := #[.int .i64 a0_0, .int .i64 a0_1, .int .i64 a0_2, .int .i64 a0_3]) (t := 36) ?hr ?_; (case hd => rfl); (case hg => rfl); (case hr => first | (go_simp; done) | (go_simp; rfl)); intro gb260 hg w13 hbox hb; have n0_ := YH (YD (upB HB) hb); have n1_ := YH (hbox); have n2_ := YH ((by rw [hg]; exact (YE (upB HB)) : w.heap.size ≤ gb260)); have n3_ := YH ((by rw [hg]; exact (YE (upB HB)) : w.heap.size ≤ gb260)); clear HB; have HB := n0_; have BK260 := n1_; have GW260 := n2_; have GE260 := n3_; clear n0_ n1_ n2_ n3_; clear hb hbox hg; obtain ⟨q14_0, q14_1, q14_2, q14_3⟩ := cA4 BK260.out; obtain ⟨f14_0, f14_1, f14_2, f14_3⟩ := fA4 BK260.out))
      go_ret
      exact ⟨by first | rfl | (simp [errW_none, errW_some] <;> rfl) | (simp [*, errW_none, errW_some] <;> rfl), by repeat (first | (with_reducible first | exact HB.out | apply YA | apply YB | apply YC | refine below_set ?_ GE260.out) | exact HB.out)⟩
     rw [if_neg c6] at H; have c6b0 : decide (0 ≤ a0_2) = false := decide_eq_false c6; clear c6
     obtain rfl := Option.some.inj H
     go_enter Try.func57, Try.ntmps57
     go_wp2_with (first | ((with_reducible refine gate_dst (N := 1) rfl ?_); refine box_event ?hg (N := 1) ?hd (cs := #[.int .i64 a0_0, .int .i64 a0_1, .int .i64 a0_2, .int .i64 a0_3]) (t := 36) ?hr ?_; (case hd => rfl); (case hg => rfl); (case hr => first | (go_simp; done) | (go_simp; rfl)); intro gb260 hg w15 hbox hb; have n0_ := YH (YD (upB HB) hb); have n1_ := YH (hbox); have n2_ := YH ((by rw [hg]; exact (YE (upB HB)) : w.heap.size ≤ gb260)); have n3_ := YH ((by rw [hg]; exact (YE (upB HB)) : w.heap.size ≤ gb260)); clear HB; have HB := n0_; have BK260 := n1_; have GW260 := n2_; have GE260 := n3_; clear n0_ n1_ n2_ n3_; clear hb hbox hg; obtain ⟨q16_0, q16_1, q16_2, q16_3⟩ := cA4 BK260.out; obtain ⟨f16_0, f16_1, f16_2, f16_3⟩ := fA4 BK260.out))
     go_ret
     exact ⟨by first | rfl | (simp [errW_none, errW_some] <;> rfl) | (simp [*, errW_none, errW_some] <;> rfl), by repeat (first | (with_reducible first | exact HB.out | apply YA | apply YB | apply YC | refine below_set ?_ GE260.out) | exact HB.out)⟩
    rw [if_neg c5] at H; have c5b0 : decide (a0_1 ≤ 4294967295) = false := decide_eq_false c5; clear c5
    obtain rfl := Option.some.inj H
    go_enter Try.func57, Try.ntmps57
    go_wp2_with (first | ((with_reducible refine gate_dst (N := 1) rfl ?_); refine box_event ?hg (N := 1) ?hd (cs := #[.int .i64 a0_0, .int .i64 a0_1, .int .i64 a0_2, .int .i64 a0_3]) (t := 36) ?hr ?_; (case hd => rfl); (case hg => rfl); (case hr => first | (go_simp; done) | (go_simp; rfl)); intro gb260 hg w17 hbox hb; have n0_ := YH (YD (upB HB) hb); have n1_ := YH (hbox); have n2_ := YH ((by rw [hg]; exact (YE (upB HB)) : w.heap.size ≤ gb260)); have n3_ := YH ((by rw [hg]; exact (YE (upB HB)) : w.heap.size ≤ gb260)); clear HB; have HB := n0_; have BK260 := n1_; have GW260 := n2_; have GE260 := n3_; clear n0_ n1_ n2_ n3_; clear hb hbox hg; obtain ⟨q18_0, q18_1, q18_2, q18_3⟩ := cA4 BK260.out; obtain ⟨f18_0, f18_1, f18_2, f18_3⟩ := fA4 BK260.out))
    go_ret
    exact ⟨by first | rfl | (simp [errW_none, errW_some] <;> rfl) | (simp [*, errW_none, errW_some] <;> rfl), by repeat (first | (with_reducible first | exact HB.out | apply YA | apply YB | apply YC | refine below_set ?_ GE260.out) | exact HB.out)⟩
   rw [if_neg c4] at H; have c4b0 : decide (0 ≤ a0_1) = false := decide_eq_false c4; clear c4
   obtain rfl := Option.some.inj H
   go_enter Try.func57, Try.ntmps57
   go_wp2_with (first | ((with_reducible refine gate_dst (N := 1) rfl ?_); refine box_event ?hg (N := 1) ?hd (cs := #[.int .i64 a0_0, .int .i64 a0_1, .int .i64 a0_2, .int .i64 a0_3]) (t := 36) ?hr ?_; (case hd => rfl); (case hg => rfl); (case hr => first | (go_simp; done) | (go_simp; rfl)); intro gb260 hg w19 hbox hb; have n0_ := YH (YD (upB HB) hb); have n1_ := YH (hbox); have n2_ := YH ((by rw [hg]; exact (YE (upB HB)) : w.heap.size ≤ gb260)); have n3_ := YH ((by rw [hg]; exact (YE (upB HB)) : w.heap.size ≤ gb260)); clear HB; have HB := n0_; have BK260 := n1_; have GW260 := n2_; have GE260 := n3_; clear n0_ n1_ n2_ n3_; clear hb hbox hg; obtain ⟨q20_0, q20_1, q20_2, q20_3⟩ := cA4 BK260.out; obtain ⟨f20_0, f20_1, f20_2, f20_3⟩ := fA4 BK260.out))
   go_ret
   exact ⟨by first | rfl | (simp [errW_none, errW_some] <;> rfl) | (simp [*, errW_none, errW_some] <;> rfl), by repeat (first | (with_reducible first | exact HB.out | apply YA | apply YB | apply YC | refine below_set ?_ GE260.out) | exact HB.out)⟩
  rw [if_neg c3] at H; have c3b0 : decide (a0_0 < 64) = false := decide_eq_false c3; clear c3
  obtain rfl := Option.some.inj H
  go_enter Try.func57, Try.ntmps57
  go_wp2_with (first | ((with_reducible refine gate_dst (N := 1) rfl ?_); refine box_event ?hg (N := 1) ?hd (cs := #[.int .i64 a0_0, .int .i64 a0_1, .int .i64 a0_2, .int .i64 a0_3]) (t := 36) ?hr ?_; (case hd => rfl); (case hg => rfl); (case hr => first | (go_simp; done) | (go_simp; rfl)); intro gb260 hg w21 hbox hb; have n0_ := YH (YD (upB HB) hb); have n1_ := YH (hbox); have n2_ := YH ((by rw [hg]; exact (YE (upB HB)) : w.heap.size ≤ gb260)); have n3_ := YH ((by rw [hg]; exact (YE (upB HB)) : w.heap.size ≤ gb260)); clear HB; have HB := n0_; have BK260 := n1_; have GW260 := n2_; have GE260 := n3_; clear n0_ n1_ n2_ n3_; clear hb hbox hg; obtain ⟨q22_0, q22_1, q22_2, q22_3⟩ := cA4 BK260.out; obtain ⟨f22_0, f22_1, f22_2, f22_3⟩ := fA4 BK260.out))
  go_ret
  exact ⟨by first | rfl | (simp [errW_none, errW_some] <;> rfl) | (simp [*, errW_none, errW_some] <;> rfl), by repeat (first | (with_reducible first | exact HB.out | apply YA | apply YB | apply YC | refine below_set ?_ GE260.out) | exact HB.out)⟩
 rw [if_neg c2] at H; have c2b0 : decide (0 ≤ a0_0) = false := decide_eq_false c2; clear c2
 obtain rfl := Option.some.inj H
 go_enter Try.func57, Try.ntmps57
 go_wp2_with (first | ((with_reducible refine gate_dst (N := 1) rfl ?_); refine box_event ?hg (N := 1) ?hd (cs := #[.int .i64 a0_0, .int .i64 a0_1, .int .i64 a0_2, .int .i64 a0_3]) (t := 36) ?hr ?_; (case hd => rfl); (case hg => rfl); (case hr => first | (go_simp; done) | (go_simp; rfl)); intro gb260 hg w23 hbox hb; have n0_ := YH (YD (upB HB) hb); have n1_ := YH (hbox); have n2_ := YH ((by rw [hg]; exact (YE (upB HB)) : w.heap.size ≤ gb260)); have n3_ := YH ((by rw [hg]; exact (YE (upB HB)) : w.heap.size ≤ gb260)); clear HB; have HB := n0_; have BK260 := n1_; have GW260 := n2_; have GE260 := n3_; clear n0_ n1_ n2_ n3_; clear hb hbox hg; obtain ⟨q24_0, q24_1, q24_2, q24_3⟩ := cA4 BK260.out; obtain ⟨f24_0, f24_1, f24_2, f24_3⟩ := fA4 BK260.out))
 go_ret
 exact ⟨by first | rfl | (simp [errW_none, errW_some] <;> rfl) | (simp [*, errW_none, errW_some] <;> rfl), by repeat (first | (with_reducible first | exact HB.out | apply YA | apply YB | apply YC | refine below_set ?_ GE260.out) | exact HB.out)⟩
end Go.Proofs.Ytclbempnhelmoaa.P
namespace Go.Proofs.Ytclbempnhelmoaa.P
open Go.RowKit YtclbempnhelmoaaW.PrintWords YtclbempnhelmoaaW.PrintLast YtclbempnhelmoaaW.PrintMore
open YtclbempnhelmoaaW.PrintWords renaming below_alloc → YA, pw_below_drewN → YB, below_drew1 → YC, below_step → YD, below_size → YE, blk_drewN → YF, blk_drew → YG, blk_alloc → YH, blk_cell → YI, blk_frozen → YJ, blk_below → YK
open YtclbempnhelmoaaW.PrintWords.Aside0 renaming mk → YL
open List renaming map_toArray → YM, length_take → YN, length_drop → YO
attribute [local go_sem] max2_int min2_int max_two min_two max_three min_three max_four min_four
def ack_mask_has.f (a0 : Int) (a1 : Int) : Option (Bool) := if 0 ≤ (wrap64 (a1 - 1)) then (some ((Go.bits .and .i64 (shr .i64 a0 (wrap64 (a1 - 1))) 1) == 1)) else (none)
theorem ack_mask_has.calls (a0 : Int) (a1 : Int) (r : Bool) (w : World) (h : ack_mask_has.f a0 a1 = some r) :
  Calls Try.prog 58 #[.int .i64 a0, .int .i64 a1] w fun e w' => e = .returned (.bool r) ∧ Drawn0 w w' := by
 have H : (if 0 ≤ (wrap64 (a1 - 1)) then (some ((Go.bits .and .i64 (shr .i64 a0 (wrap64 (a1 - 1))) 1) == 1)) else (none)) = some r := h
 clear h
 obtain ⟨ji3, hji3⟩ : ∃ j_ : Int, (wrap64 (a1 - 1)) = j_ := ⟨_, rfl⟩
 replace H : (if 0 ≤ (ji3) then (some ((Go.bits .and .i64 (shr .i64 a0 (ji3)) 1) == 1)) else (none)) = some r := by first | (rw [hji3] at H; exact H) | (simp only [hji3] at H ⊢; exact H)
 have hji3w : (IntKind.i64.wrap (a1 - 1)) = ji3 := (i64_w _).trans hji3
 by_cases c4 : 0 ≤ (ji3)
 rotate_left
 ·rw [if_neg c4] at H
  exact absurd H (by simp)
 rw [if_pos c4] at H
 have c4b0 := eq_true c4
 have c4b1 : decide (0 ≤ (ji3)) = true := decide_eq_true c4; clear c4
 obtain ⟨ji5, hji5⟩ : ∃ j_ : Int, (shr .i64 a0 (ji3)) = j_ := ⟨_, rfl⟩
 replace H : (some ((Go.bits .and .i64 (ji5) 1) == 1)) = some r := by first | (rw [hji5] at H; exact H) | (simp only [hji5] at H ⊢; exact H)
 have hji5_ : (a0 / 2 ^ min (ji3).toNat 64) = ji5 := hji5
 have hji5z : (ji3) ≤ 64 → (a0 / 2 ^ (ji3).toNat) = ji5 := shr_small hji5
 obtain rfl := Option.some.inj H
 go_enter Try.func58, Try.ntmps58
 go_wp2
 go_ret
 exact ⟨by first | rfl | (simp; done) | (simp only [← hji3, ← hji5] <;> (first | rfl | simp)) | (simp [*]; done), by repeat (first | exact Drawn0.refl _ | apply Drawn0.step)⟩
def ack_Has.f (k : Nat) (a0_0 : Int) (a0_1 : Int) (a0_2 : Int) (a0_3 : Int) (a1 : Int) : Option (Bool) := (ack_right.f a0_0 a0_1 a0_2 a0_3).bind fun t266 => (if t266 = true then ((serial_Far.f k a0_2 a1).bind fun t267 => (if t267 ≥ 32768 then (some true) else (if t267 ≥ 1 then (if t267 ≤ 16 then ((ack_mask_has.f a0_3 t267).bind fun t268 => (some t268)) else (some false)) else (some false)))) else (some false))
theorem ack_Has.calls (k : Nat) (a0_0 : Int) (a0_1 : Int) (a0_2 : Int) (a0_3 : Int) (a1 : Int) (r : Bool) (w : World) (h : ack_Has.f k a0_0 a0_1 a0_2 a0_3 a1 = some r) :
  Calls Try.prog 38 #[.agg #[.int .i64 a0_0, .int .i64 a0_1, .int .i64 a0_2, .int .i64 a0_3], .int .i64 a1] w fun e w' => e = .returned (.bool r) ∧ Below w.heap.size w w' := by
 have hu36 := Try.underlying36
 have hmf : ∀ (fn : Fn) (first cap : Array Value) (w : World), (Instr.makeFunc fn first cap).run Try.prog w = .ok (.func fn first cap) w := fun _ _ _ _ => rfl
 have HB := YL (Below.refl w.heap.size w)
 have H : ((ack_right.f a0_0 a0_1 a0_2 a0_3).bind fun t266 => (if t266 = true then ((serial_Far.f k a0_2 a1).bind fun t267 => (if t267 ≥ 32768 then (some true) else (if t267 ≥ 1 then (if t267 ≤ 16 then ((ack_mask_has.f a0_3 t267).bind fun t268 => (some t268)) else (some false)) else (some false)))) else (some false))) = some r := h
 clear h; replace H := Option.bind_eq_some_iff.mp H; obtain ⟨t266, A30, H⟩ := H
 replace H : (if t266 = true then ((serial_Far.f k a0_2 a1).bind fun t267 => (if t267 ≥ 32768 then (some true) else (if t267 ≥ 1 then (if t267 ≤ 16 then ((ack_mask_has.f a0_3 t267).bind fun t268 => (some t268)) else (some false)) else (some false)))) else (some false)) = some r := H
 have A3 := YL A30; clear A30
 by_cases c4 : t266 = true
 ·subst c4
  have H1 : ((serial_Far.f k a0_2 a1).bind fun t267 => (if t267 ≥ 32768 then (some true) else (if t267 ≥ 1 then (if t267 ≤ 16 then ((ack_mask_has.f a0_3 t267).bind fun t268 => (some t268)) else (some false)) else (some false)))) = some r := by rw [if_pos rfl] at H; exact H
  clear H
  have H := H1
  clear H1; replace H := Option.bind_eq_some_iff.mp H; obtain ⟨t267, A50, H⟩ := H
  replace H : (if t267 ≥ 32768 then (some true) else (if t267 ≥ 1 then (if t267 ≤ 16 then ((ack_mask_has.f a0_3 t267).bind fun t268 => (some t268)) else (some false)) else (some false))) = some r := H
  have A5 := YL A50; clear A50
  by_cases c6 : t267 ≥ 32768
  ·rw [if_pos c6] at H
   have c6b0 : decide (32768 ≤ t267) = true := decide_eq_true c6; clear c6
   obtain rfl := Option.some.inj H
   go_enter Try.func38, Try.ntmps38
   go_wp2_with (first | ((with_reducible refine gate_dst (N := 2) rfl ?_); refine box_event ?hg (N := 2) ?hd (cs := #[.int .i64 a0_0, .int .i64 a0_1, .int .i64 a0_2, .int .i64 a0_3]) (t := 36) ?hr ?_; (case hd => rfl); (case hg => rfl); (case hr => first | (go_simp; done) | (go_simp; rfl)); intro gb265 hg w7 hbox hb; have n0_ := YL (YD (upB HB) hb); have n1_ := YL (hbox); have n2_ := YL ((by rw [hg]; exact (YE (upB HB)) : w.heap.size ≤ gb265)); have n3_ := YL ((by rw [hg]; exact (YE (upB HB)) : w.heap.size ≤ gb265)); clear HB; have HB := n0_; have BK265 := n1_; have GW265 := n2_; have GE265 := n3_; clear n0_ n1_ n2_ n3_; clear hb hbox hg; obtain ⟨q8_0, q8_1, q8_2, q8_3⟩ := cA4 BK265.out; obtain ⟨f8_0, f8_1, f8_2, f8_3⟩ := fA4 BK265.out) | ((with_reducible refine gate_callee (f := 57) rfl ?_); refine goesA (some 8) Try.func57 #[.agg #[.int .i64 a0_0, .int .i64 a0_1, .int .i64 a0_2, .int .i64 a0_3]] ?_; (with_reducible refine (ack_right.calls a0_0 a0_1 a0_2 a0_3 true _ A3.out).mono ?_); rintro e w9 ⟨rfl, hb⟩; refine ⟨_, rfl, ?_⟩; have n0_ := YL (YK (g := gb265) (o := .cells #[.int .i64 a0_0, .int .i64 a0_1, .int .i64 a0_2, .int .i64 a0_3] 36 (0, 0)) (upK BK265) hb); have n1_ := YL (YD (upB HB) hb); clear BK265; clear HB; have BK265 := n0_; have HB := n1_; clear n0_ n1_; (try clear hb); (try clear hb2); (try clear hk); (try clear hi); obtain ⟨q10_0, q10_1, q10_2, q10_3⟩ := cA4 BK265.out; obtain ⟨f10_0, f10_1, f10_2, f10_3⟩ := fA4 BK265.out) | ((with_reducible refine gate_callee (f := 24) rfl ?_); refine goesA (some 16) Try.func24 #[.int .i64 a0_2, .int .i64 a1] ?_; (with_reducible refine (serial_Far.calls k a0_2 a1 t267 _ A5.out).mono ?_); rintro e w11 ⟨rfl, hb⟩; refine ⟨_, rfl, ?_⟩; have n0_ := YL (YK (g := gb265) (o := .cells #[.int .i64 a0_0, .int .i64 a0_1, .int .i64 a0_2, .int .i64 a0_3] 36 (0, 0)) (upK BK265) hb); have n1_ := YL (YD (upB HB) hb); clear BK265; clear HB; have BK265 := n0_; have HB := n1_; clear n0_ n1_; (try clear hb); (try clear hb2); (try clear hk); (try clear hi)))
   go_ret
   exact ⟨by first | rfl | (simp [errW_none, errW_some] <;> rfl) | (simp [*, errW_none, errW_some] <;> rfl), by repeat (first | (with_reducible first | exact HB.out | apply YA | apply YB | apply YC | refine below_set ?_ GE265.out) | exact HB.out)⟩
  rw [if_neg c6] at H; have c6b0 : decide (32768 ≤ t267) = false := decide_eq_false c6; clear c6
  by_cases c12 : t267 ≥ 1
  ·rw [if_pos c12] at H
   have c12b0 : decide (1 ≤ t267) = true := decide_eq_true c12; clear c12
   by_cases c13 : t267 ≤ 16
   ·rw [if_pos c13] at H
    have c13b0 : decide (t267 ≤ 16) = true := decide_eq_true c13; clear c13; replace H := Option.bind_eq_some_iff.mp H; obtain ⟨t268, A140, H⟩ := H
    replace H : (some t268) = some r := H
    have A14 := YL A140; clear A140
    obtain rfl := Option.some.inj H
    go_enter Try.func38, Try.ntmps38
    go_wp2_with (first | ((with_reducible refine gate_dst (N := 2) rfl ?_); refine box_event ?hg (N := 2) ?hd (cs := #[.int .i64 a0_0, .int .i64 a0_1, .int .i64 a0_2, .int .i64 a0_3]) (t := 36) ?hr ?_; (case hd => rfl); (case hg => rfl); (case hr => first | (go_simp; done) | (go_simp; rfl)); intro gb265 hg w15 hbox hb; have n0_ := YL (YD (upB HB) hb); have n1_ := YL (hbox); have n2_ := YL ((by rw [hg]; exact (YE (upB HB)) : w.heap.size ≤ gb265)); have n3_ := YL ((by rw [hg]; exact (YE (upB HB)) : w.heap.size ≤ gb265)); clear HB; have HB := n0_; have BK265 := n1_; have GW265 := n2_; have GE265 := n3_; clear n0_ n1_ n2_ n3_; clear hb hbox hg; obtain ⟨q16_0, q16_1, q16_2, q16_3⟩ := cA4 BK265.out; obtain ⟨f16_0, f16_1, f16_2, f16_3⟩ := fA4 BK265.out) | ((with_reducible refine gate_callee (f := 57) rfl ?_); refine goesA (some 8) Try.func57 #[.agg #[.int .i64 a0_0, .int .i64 a0_1, .int .i64 a0_2, .int .i64 a0_3]] ?_; (with_reducible refine (ack_right.calls a0_0 a0_1 a0_2 a0_3 true _ A3.out).mono ?_); rintro e w17 ⟨rfl, hb⟩; refine ⟨_, rfl, ?_⟩; have n0_ := YL (YK (g := gb265) (o := .cells #[.int .i64 a0_0, .int .i64 a0_1, .int .i64 a0_2, .int .i64 a0_3] 36 (0, 0)) (upK BK265) hb); have n1_ := YL (YD (upB HB) hb); clear BK265; clear HB; have BK265 := n0_; have HB := n1_; clear n0_ n1_; (try clear hb); (try clear hb2); (try clear hk); (try clear hi); obtain ⟨q18_0, q18_1, q18_2, q18_3⟩ := cA4 BK265.out; obtain ⟨f18_0, f18_1, f18_2, f18_3⟩ := fA4 BK265.out) | ((with_reducible refine gate_callee (f := 24) rfl ?_); refine goesA (some 16) Try.func24 #[.int .i64 a0_2, .int .i64 a1] ?_; (with_reducible refine (serial_Far.calls k a0_2 a1 t267 _ A5.out).mono ?_); rintro e w19 ⟨rfl, hb⟩; refine ⟨_, rfl, ?_⟩; have n0_ := YL (YK (g := gb265) (o := .cells #[.int .i64 a0_0, .int .i64 a0_1, .int .i64 a0_2, .int .i64 a0_3] 36 (0, 0)) (upK BK265) hb); have n1_ := YL (YD (upB HB) hb); clear BK265; clear HB; have BK265 := n0_; have HB := n1_; clear n0_ n1_; (try clear hb); (try clear hb2); (try clear hk); (try clear hi)) | (go_at_call 58; (with_reducible refine (ack_mask_has.calls a0_3 t267 t268 _ A14.out).mono ?_); rintro e w' ⟨rfl, ⟨nd, rfl⟩⟩))
    go_ret
    exact ⟨by first | rfl | (simp [errW_none, errW_some] <;> rfl) | (simp [*, errW_none, errW_some] <;> rfl), by repeat (first | (with_reducible first | exact HB.out | apply YA | apply YB | apply YC | refine below_set ?_ GE265.out) | exact HB.out)⟩
   rw [if_neg c13] at H; have c13b0 : decide (t267 ≤ 16) = false := decide_eq_false c13; clear c13
   obtain rfl := Option.some.inj H
   go_enter Try.func38, Try.ntmps38
   go_wp2_with (first | ((with_reducible refine gate_dst (N := 2) rfl ?_); refine box_event ?hg (N := 2) ?hd (cs := #[.int .i64 a0_0, .int .i64 a0_1, .int .i64 a0_2, .int .i64 a0_3]) (t := 36) ?hr ?_; (case hd => rfl); (case hg => rfl); (case hr => first | (go_simp; done) | (go_simp; rfl)); intro gb265 hg w20 hbox hb; have n0_ := YL (YD (upB HB) hb); have n1_ := YL (hbox); have n2_ := YL ((by rw [hg]; exact (YE (upB HB)) : w.heap.size ≤ gb265)); have n3_ := YL ((by rw [hg]; exact (YE (upB HB)) : w.heap.size ≤ gb265)); clear HB; have HB := n0_; have BK265 := n1_; have GW265 := n2_; have GE265 := n3_; clear n0_ n1_ n2_ n3_; clear hb hbox hg; obtain ⟨q21_0, q21_1, q21_2, q21_3⟩ := cA4 BK265.out; obtain ⟨f21_0, f21_1, f21_2, f21_3⟩ := fA4 BK265.out) | ((with_reducible refine gate_callee (f := 57) rfl ?_); refine goesA (some 8) Try.func57 #[.agg #[.int .i64 a0_0, .int .i64 a0_1, .int .i64 a0_2, .int .i64 a0_3]] ?_; (with_reducible refine (ack_right.calls a0_0 a0_1 a0_2 a0_3 true _ A3.out).mono ?_); rintro e w22 ⟨rfl, hb⟩; refine ⟨_, rfl, ?_⟩; have n0_ := YL (YK (g := gb265) (o := .cells #[.int .i64 a0_0, .int .i64 a0_1, .int .i64 a0_2, .int .i64 a0_3] 36 (0, 0)) (upK BK265) hb); have n1_ := YL (YD (upB HB) hb); clear BK265; clear HB; have BK265 := n0_; have HB := n1_; clear n0_ n1_; (try clear hb); (try clear hb2); (try clear hk); (try clear hi); obtain ⟨q23_0, q23_1, q23_2, q23_3⟩ := cA4 BK265.out; obtain ⟨f23_0, f23_1, f23_2, f23_3⟩ := fA4 BK265.out) | ((with_reducible refine gate_callee (f := 24) rfl ?_); refine goesA (some 16) Try.func24 #[.int .i64 a0_2, .int .i64 a1] ?_; (with_reducible refine (serial_Far.calls k a0_2 a1 t267 _ A5.out).mono ?_); rintro e w24 ⟨rfl, hb⟩; refine ⟨_, rfl, ?_⟩; have n0_ := YL (YK (g := gb265) (o := .cells #[.int .i64 a0_0, .int .i64 a0_1, .int .i64 a0_2, .int .i64 a0_3] 36 (0, 0)) (upK BK265) hb); have n1_ := YL (YD (upB HB) hb); clear BK265; clear HB; have BK265 := n0_; have HB := n1_; clear n0_ n1_; (try clear hb); (try clear hb2); (try clear hk); (try clear hi)))
   go_ret
   exact ⟨by first | rfl | (simp [errW_none, errW_some] <;> rfl) | (simp [*, errW_none, errW_some] <;> rfl), by repeat (first | (with_reducible first | exact HB.out | apply YA | apply YB | apply YC | refine below_set ?_ GE265.out) | exact HB.out)⟩
  rw [if_neg c12] at H; have c12b0 : decide (1 ≤ t267) = false := decide_eq_false c12; clear c12
  obtain rfl := Option.some.inj H
  go_enter Try.func38, Try.ntmps38
  go_wp2_with (first | ((with_reducible refine gate_dst (N := 2) rfl ?_); refine box_event ?hg (N := 2) ?hd (cs := #[.int .i64 a0_0, .int .i64 a0_1, .int .i64 a0_2, .int .i64 a0_3]) (t := 36) ?hr ?_; (case hd => rfl); (case hg => rfl); (case hr => first | (go_simp; done) | (go_simp; rfl)); intro gb265 hg w25 hbox hb; have n0_ := YL (YD (upB HB) hb); have n1_ := YL (hbox); have n2_ := YL ((by rw [hg]; exact (YE (upB HB)) : w.heap.size ≤ gb265)); have n3_ := YL ((by rw [hg]; exact (YE (upB HB)) : w.heap.size ≤ gb265)); clear HB; have HB := n0_; have BK265 := n1_; have GW265 := n2_; have GE265 := n3_; clear n0_ n1_ n2_ n3_; clear hb hbox hg; obtain ⟨q26_0, q26_1, q26_2, q26_3⟩ := cA4 BK265.out; obtain ⟨f26_0, f26_1, f26_2, f26_3⟩ := fA4 BK265.out) | ((with_reducible refine gate_callee (f := 57) rfl ?_); refine goesA (some 8) Try.func57 #[.agg #[.int .i64 a0_0, .int .i64 a0_1, .int .i64 a0_2, .int .i64 a0_3]] ?_; (with_reducible refine (ack_right.calls a0_0 a0_1 a0_2 a0_3 true _ A3.out).mono ?_); rintro e w27 ⟨rfl, hb⟩; refine ⟨_, rfl, ?_⟩; have n0_ := YL (YK (g := gb265) (o := .cells #[.int .i64 a0_0, .int .i64 a0_1, .int .i64 a0_2, .int .i64 a0_3] 36 (0, 0)) (upK BK265) hb); have n1_ := YL (YD (upB HB) hb); clear BK265; clear HB; have BK265 := n0_; have HB := n1_; clear n0_ n1_; (try clear hb); (try clear hb2); (try clear hk); (try clear hi); obtain ⟨q28_0, q28_1, q28_2, q28_3⟩ := cA4 BK265.out; obtain ⟨f28_0, f28_1, f28_2, f28_3⟩ := fA4 BK265.out) | ((with_reducible refine gate_callee (f := 24) rfl ?_); refine goesA (some 16) Try.func24 #[.int .i64 a0_2, .int .i64 a1] ?_; (with_reducible refine (serial_Far.calls k a0_2 a1 t267 _ A5.out).mono ?_); rintro e w29 ⟨rfl, hb⟩; refine ⟨_, rfl, ?_⟩; have n0_ := YL (YK (g := gb265) (o := .cells #[.int .i64 a0_0, .int .i64 a0_1, .int .i64 a0_2, .int .i64 a0_3] 36 (0, 0)) (upK BK265) hb); have n1_ := YL (YD (upB HB) hb); clear BK265; clear HB; have BK265 := n0_; have HB := n1_; clear n0_ n1_; (try clear hb); (try clear hb2); (try clear hk); (try clear hi)))
  go_ret
  exact ⟨by first | rfl | (simp [errW_none, errW_some] <;> rfl) | (simp [*, errW_none, errW_some] <;> rfl), by repeat (first | (with_reducible first | exact HB.out | apply YA | apply YB | apply YC | refine below_set ?_ GE265.out) | exact HB.out)⟩
 replace c4 := Bool.eq_false_iff.mpr c4
 subst c4
 have H1 : (some false) = some r := by rw [if_neg (show ¬ (false = true) by decide)] at H; exact H
 clear H
 have H := H1
 clear H1
 obtain rfl := Option.some.inj H
 go_enter Try.func38, Try.ntmps38
 go_wp2_with (first | ((with_reducible refine gate_dst (N := 2) rfl ?_); refine box_event ?hg (N := 2) ?hd (cs := #[.int .i64 a0_0, .int .i64 a0_1, .int .i64 a0_2, .int .i64 a0_3]) (t := 36) ?hr ?_; (case hd => rfl); (case hg => rfl); (case hr => first | (go_simp; done) | (go_simp; rfl)); intro gb265 hg w30 hbox hb; have n0_ := YL (YD (upB HB) hb); have n1_ := YL (hbox); have n2_ := YL ((by rw [hg]; exact (YE (upB HB)) : w.heap.size ≤ gb265)); have n3_ := YL ((by rw [hg]; exact (YE (upB HB)) : w.heap.size ≤ gb265)); clear HB; have HB := n0_; have BK265 := n1_; have GW265 := n2_; have GE265 := n3_; clear n0_ n1_ n2_ n3_; clear hb hbox hg; obtain ⟨q31_0, q31_1, q31_2, q31_3⟩ := cA4 BK265.out; obtain ⟨f31_0, f31_1, f31_2, f31_3⟩ := fA4 BK265.out) | ((with_reducible refine gate_callee (f := 57) rfl ?_); refine goesA (some 8) Try.func57 #[.agg #[.int .i64 a0_0, .int .i64 a0_1, .int .i64 a0_2, .int .i64 a0_3]] ?_; (with_reducible refine (ack_right.calls a0_0 a0_1 a0_2 a0_3 false _ A3.out).mono ?_); rintro e w32 ⟨rfl, hb⟩; refine ⟨_, rfl, ?_⟩; have n0_ := YL (YK (g := gb265) (o := .cells #[.int .i64 a0_0, .int .i64 a0_1, .int .i64 a0_2, .int .i64 a0_3] 36 (0, 0)) (upK BK265) hb); have n1_ := YL (YD (upB HB) hb); clear BK265; clear HB; have BK265 := n0_; have HB := n1_; clear n0_ n1_; (try clear hb); (try clear hb2); (try clear hk); (try clear hi)))
 go_ret
 exact ⟨by first | rfl | (simp [errW_none, errW_some] <;> rfl) | (simp [*, errW_none, errW_some] <;> rfl), by repeat (first | (with_reducible first | exact HB.out | apply YA | apply YB | apply YC | refine below_set ?_ GE265.out) | exact HB.out)⟩
end Go.Proofs.Ytclbempnhelmoaa.P
namespace Go.Proofs.Ytclbempnhelmoaa.P
open Go.RowKit YtclbempnhelmoaaW.PrintWords YtclbempnhelmoaaW.PrintLast YtclbempnhelmoaaW.PrintMore
abbrev goQ (hs : Int → Bool) (o : It × Int) : Bool := hs o.1.b.f0
theorem got_pred (B p : Nat) (bn : Int) (A1 : Option Addr) (m1 c1 : Nat) (KK : Nat) (a0 a1 a2 a3 : Int) (w : World) (r : Bool) (hr : ack_Has.f KK a0 a1 a2 a3 bn = some r) (hA : w.heap[B]? = some (.cells #[.int .i64 a0, .int .i64 a1, .int .i64 a2, .int .i64 a3] 36 (0, 0))) :
  Calls Try.prog 37 #[.agg #[.int .i64 bn, .slice A1 m1 c1, .pointer (some ⟨p, 0, none⟩)], .pointer (some ⟨B, 0, none⟩)] w fun e w' => e = .returned (.bool r) ∧ Below w.heap.size w w' := by
 have HR := Aside0.mk hr
 have HA := Aside0.mk hA
 clear hr hA
 go_enter Try.func37, Try.ntmps37
 go_wp2_with (first
  | ((with_reducible refine gate_dst (N := 2) rfl ?_); refine box_event ?hg (N := 2) ?hd (cs := #[.int .i64 bn, .slice A1 m1 c1, .pointer (some ⟨p, 0, none⟩)]) (t := 73) ?hr ?_; (case hd => rfl); (case hg => rfl); (case hr => first | (go_simp; done) | (go_simp; rfl) | rfl | kernel_rfl); intro gb hg w2 hbox hb; have BB2 := Aside0.mk hb; have x0 : w2.cell? ⟨gb, 0, none⟩ = some (.int .i64 bn) := (blk_cell hbox 0).trans rfl; have HA2 := Aside0.mk (blk_below HA.out hb); obtain ⟨y0, y1, y2, y3⟩ := cA4 HA2.out; clear hbox hb hg)
  | (go_at_call 38; (with_reducible refine (ack_Has.calls KK a0 a1 a2 a3 bn r _ HR.out).mono ?_); rintro e w4 ⟨rfl, hb4⟩; have BB4 := Aside0.mk (below_step BB2.out hb4); clear hb4))
 go_ret
 exact ⟨rfl, BB4.out⟩
theorem got_index (A : Option Addr) (c n B : Nat) (O : List (It × Int)) (w : World) (hn : n = O.length) (hr : Kd.C kIt w A (O.map Prod.fst).length (O.map Prod.fst)) (hl : O.length ≤ 1000000) (KK : Nat) (a0 a1 a2 a3 : Int) (hs : Int → Bool) (hA : w.heap[B]? = some (.cells #[.int .i64 a0, .int .i64 a1, .int .i64 a2, .int .i64 a3] 36 (0, 0))) (hh : ∀ o ∈ O, ack_Has.f KK a0 a1 a2 a3 o.1.b.f0 = some (hs o.1.b.f0)) :
  Calls Try.prog 54 #[.slice A n c, .func (.func 37) #[] #[.pointer (some ⟨B, 0, none⟩)]] w fun e w' => e = .returned (.int .i64 (ixB (goQ hs) O 0)) ∧ Below w.heap.size w w' := by
 have HR := Aside0.mk hr
 have HL := Aside0.mk hl
 have HN := Aside0.mk hn
 have HA := Aside0.mk hA
 have HH := Aside0.mk hh
 clear hA hh
 obtain ⟨R, hR⟩ : ∃ R, R = ixB (goQ hs) O 0 := ⟨_, rfl⟩
 rw [← hR]
 have HX := Aside0.mk hR.symm
 rw [List.length_map, ← hn] at HR
 clear hr hl hn hR
 go_enter Try.func54, Try.ntmps54
 go_wp2
 go_loopg [5, 8] n (fun kq v5 v8 wr => ∃ x : Int, v8 = .int .i64 x ∧ Aside0 (0 ≤ x) ∧ Aside0 (x + kq = n) ∧ Aside0 (ixB (goQ hs) (O.drop x.toNat) x = R) ∧ Aside0 (Below w.heap.size w wr))
 case atStart => exact ⟨0, rfl, ⟨by omega⟩, ⟨by omega⟩, HX, ⟨Below.refl _ _⟩⟩
 case round =>
  clear HX
  obtain ⟨x, rfl, H0, HI, HX, BL⟩ := hrel
  cases gk with
  | zero =>
   have hnl : decide (x < (n : Int)) = false := decide_eq_false (by have := HI.out; omega)
   have hx := HX.out
   rw [List.drop_eq_nil_of_le (by have := HI.out; have := HN.out; omega)] at hx
   simp only [ixB] at hx
   subst hx
   go_wp2
   go_ret
   exact ⟨rfl, BL.out⟩
  | succ k1 =>
   have hlt := (show x < (n : Int) by have := HI.out; omega)
   have h0 := H0.out
   have HXL := Aside0.mk (show x.toNat < O.length by have := HN.out; omega)
   obtain ⟨ad, A1, c1, e_, hx0, hx1, hx2, _, _⟩ := at_It HR.out x h0 hlt
   cases e_
   obtain ⟨o, ho⟩ : ∃ o, o = O[x.toNat]'(HXL.out) := ⟨_, rfl⟩
   have HO := Aside0.mk ho
   have hy : rd_It (O.map Prod.fst) x = o.1 := by rw [ho, ← List.getElem_map Prod.fst (h := by rw [List.length_map]; exact HXL.out), ← it_rd]; congr 1; omega
   rw [hy] at hx0 hx1 hx2
   replace hx0 := cell_below' BL.out hx0
   replace hx1 := cell_below' BL.out hx1
   replace hx2 := cell_below' BL.out hx2
   obtain ⟨m1, hm1⟩ : ∃ m1, m1 = o.1.b.f1.length := ⟨_, rfl⟩
   rw [← hm1] at hx1
   have HM := Aside0.mk (show o ∈ O by rw [ho]; exact List.getElem_mem _)
   have hd : decide (x < (n : Int)) = true := decide_eq_true hlt
   have hb0 : x < 9223372036854775807 := by have := HL.out; have := HN.out; omega
   have hw : wrap64 (x + 1) = x + 1 := w64 (by omega) (by omega)
   have hx := HX.out
   have hg : O.drop x.toNat = o :: O.drop (x + 1).toNat := by
    rw [List.drop_eq_getElem_cons HXL.out, show (x + 1).toNat = x.toNat + 1 by omega, ho]
   rw [hg] at hx
   simp only [ixB] at hx
   clear hg HX ho hy hm1
   have h0t := eq_true h0
   have hltt := eq_true hlt
   cases hq : (goQ hs) o with
   | true =>
    rw [if_pos hq] at hx
    subst hx
    have HQ := Aside0.mk hq
    clear hq
    go_wp2_with (go_at_call 37; (with_reducible refine (got_pred B o.1.p o.1.b.f0 A1 m1 c1 KK a0 a1 a2 a3 _ _ ((HH.out o HM.out).trans (congrArg some HQ.out)) (blk_below HA.out BL.out)).mono ?_); rintro e2 w2 ⟨rfl, hb⟩; have BL2 := Aside0.mk (below_step BL.out hb); clear hb)
    go_ret
    exact ⟨rfl, BL2.out⟩
   | false =>
    rw [if_neg (by rw [hq]; decide)] at hx
    have HX := Aside0.mk hx
    have HQ := Aside0.mk hq
    clear hx hq
    go_wp2_with (go_at_call 37; (with_reducible refine (got_pred B o.1.p o.1.b.f0 A1 m1 c1 KK a0 a1 a2 a3 _ _ ((HH.out o HM.out).trans (congrArg some HQ.out)) (blk_below HA.out BL.out)).mono ?_); rintro e2 w2 ⟨rfl, hb⟩; have BL2 := Aside0.mk (below_step BL.out hb); clear hb)
    go_roundg k1
    case measure => have := HI.out; omega
    case rel => exact ⟨x + 1, by first | rfl | simp [hw], ⟨by omega⟩, ⟨by have := HI.out; omega⟩, HX, BL2⟩
section
variable {q : It × Int → Bool}
def keepL (q : It × Int → Bool) (O : List (It × Int)) (j : Nat) : List (It × Int) := (O.take j).filter (fun o => !q o)
def curL (q : It × Int → Bool) (O : List (It × Int)) (j : Nat) : List (It × Int) := keepL q O j ++ O.drop (keepL q O j).length
theorem keepL_le (O : List (It × Int)) (j : Nat) : (keepL q O j).length ≤ j := by
 unfold keepL
 refine Nat.le_trans (List.length_filter_le _ _) ?_
 rw [List.length_take]
 omega
theorem curL_get (O : List (It × Int)) (j : Nat) (hj : j < O.length) : (curL q O j)[j]? = some O[j] := by
 have := keepL_le (q := q) O j
 unfold curL
 rw [List.getElem?_append_right this, List.getElem?_drop, show (keepL q O j).length + (j - (keepL q O j).length) = j by omega]
 exact List.getElem?_eq_getElem hj
theorem keepL_skip (O : List (It × Int)) (j : Nat) (hj : j < O.length) (hq : q O[j] = true) : keepL q O (j + 1) = keepL q O j := by
 unfold keepL
 rw [List.take_succ_eq_append_getElem hj, List.filter_append, List.filter_cons_of_neg (by rw [hq]; decide)]
 simp
theorem keepL_put (O : List (It × Int)) (j : Nat) (hj : j < O.length) (hq : q O[j] = false) : keepL q O (j + 1) = keepL q O j ++ [O[j]] := by
 unfold keepL
 rw [List.take_succ_eq_append_getElem hj, List.filter_append, List.filter_cons_of_pos (by rw [hq]; decide)]
 simp
theorem curL_put (O : List (It × Int)) (j : Nat) (hj : j < O.length) (hq : q O[j] = false) : (curL q O j).set (keepL q O j).length O[j] = curL q O (j + 1) := by
 have h1 := keepL_le (q := q) O j
 unfold curL
 rw [keepL_put O j hj hq, List.set_append_right _ _ (Nat.le_refl _), Nat.sub_self, List.drop_eq_getElem_cons (by omega), List.set_cons_zero, List.length_append, List.append_assoc]
 rfl
theorem ixB_at : ∀ (O : List (It × Int)) (i0 : Int), (ixB q O i0 = -1 ∧ ∀ o ∈ O, q o = false) ∨ ∃ i : Nat, ∃ h : i < O.length, ixB q O i0 = i0 + i ∧ q (O[i]) = true ∧ ∀ o ∈ O.take i, q o = false := by
 intro O
 induction O with
 | nil => intro i0; exact .inl ⟨rfl, fun o ho => by cases ho⟩
 | cons o r ih =>
  intro i0
  unfold ixB
  by_cases hq : q o = true
  ·rw [if_pos hq]
   exact .inr ⟨0, by simp, by simp, hq, fun p hp => by cases hp⟩
  ·rw [if_neg hq]
   have hq2 : q o = false := by simpa using hq
   rcases ih (i0 + 1) with ⟨h1, h2⟩ | ⟨i, h1, h2, h3, h4⟩
   ·refine .inl ⟨h1, fun p hp => ?_⟩
    rcases List.mem_cons.1 hp with rfl | hp
    ·exact hq2
    ·exact h2 p hp
   ·refine .inr ⟨i + 1, by simpa using h1, by rw [h2]; push_cast; omega, by simpa using h3, fun p hp => ?_⟩
    rw [List.take_succ_cons] at hp
    rcases List.mem_cons.1 hp with rfl | hp
    ·exact hq2
    ·exact h4 p hp
theorem keepL_start (O : List (It × Int)) (i : Nat) (h : i < O.length) (hq : q O[i] = true) (h4 : ∀ o ∈ O.take i, q o = false) : keepL q O (i + 1) = O.take i := by
 rw [keepL_skip O i h hq]
 unfold keepL
 rw [List.filter_eq_self.2 (fun o ho => by rw [h4 o ho]; rfl)]
theorem curL_start (O : List (It × Int)) (i : Nat) (h : i < O.length) (hq : q O[i] = true) (h4 : ∀ o ∈ O.take i, q o = false) : curL q O (i + 1) = O ∧ (keepL q O (i + 1)).length = i := by
 have hk := keepL_start O i h hq h4
 have hl : (O.take i).length = i := by rw [List.length_take]; omega
 unfold curL
 rw [hk, hl]
 exact ⟨List.take_append_drop i O, rfl⟩
theorem curL_end (O : List (It × Int)) : (curL q O O.length).take (keepL q O O.length).length = O.filter (fun o => !q o) := by
 unfold curL
 rw [List.take_append_of_le_length (Nat.le_refl _), List.take_length]
 unfold keepL
 rw [List.take_length]
end
theorem sz_It : (Try.prog.info? 73).map (·.size) = some 3 := by kernel_rfl
theorem one3 (a : Int) (A : Option Addr) (m c : Nat) {p : Option Addr} : ∀ u ∈ [Value.int .i64 a, .slice A m c, .pointer p], u.oneCell' = true := by
 intro u hu
 simp only [List.mem_cons, List.not_mem_nil, or_false] at hu
 rcases hu with rfl | rfl | rfl <;> rfl
theorem seg3 (c : List Value) (h : c.length = kIt.sz) {a b d : Value} : c.take 0 ++ [a, b, d] ++ c.drop (0 + [a, b, d].length) = [a, b, d] := by
 have h3 : c.length = 3 := h
 rw [List.take_zero, List.nil_append, List.drop_eq_nil_of_le (by simp; omega), List.append_nil]
theorem Kd.R_beyond {α : Type} {d : Kd α} {e base g n cap : Nat} {ok : Nat → Prop} {W : World} {xs : List α} (h : d.R e W base ok (.slice (some ⟨g, 0, none⟩) n cap) xs) (o : Nat) (seg : List Value) (ho : n * d.sz ≤ o) (hf : o + seg.length ≤ cap * d.sz) :
  d.R e (W.setCells g o seg) base ok (.slice (some ⟨g, 0, none⟩) n cap) xs ∧ W.grownBy (W.setCells g o seg) (some g) := by
 obtain ⟨hok, inner, ho1, hr⟩ := h
 obtain ⟨hl, hc⟩ := ho1
 obtain ⟨s1, s2, s3, s4⟩ := setCells_same g seg o W
 have hfar : ∀ k, k ≠ g → (W.setCells g o seg).heap[k]? = W.heap[k]? := fun k hk => setCells_far seg _ k hk
 refine ⟨⟨hok, inner, ⟨hl, ?_⟩, hr.imp_ (fun p c hp => d.M_move (fun k hk => hfar k (fun e => hk.2 (by rw [e]; rfl))) hp)⟩, ⟨s1, s2, s3, by rw [s4]; exact Nat.le_refl _, fun k _ hk => hfar k (fun he => hk (by rw [he]))⟩⟩
 rcases hc with ⟨hv, _⟩ | ⟨g', cap', cur, hv, hb, hh, hnc, hcm, hcs, ht⟩
 ·cases hv
 injection hv with ha hn hc
 injection ha with ha
 injection ha with hg
 subst hg; subst hc
 obtain ⟨cur', h3, h4, h5⟩ := setCells_row seg o W cur hh (by rw [hcs]; exact hf)
 refine .inr ⟨g, cap, cur', by rw [hn], hb, h3, hnc, hcm, by rw [h4, hcs], ?_⟩
 rw [h5, ← ht]
 rw [List.append_assoc, List.take_append_of_le_length (by
  have e1 : cur.toList.length = cap * d.sz := by rw [Array.length_toList]; exact hcs
  have e2 : n * d.sz ≤ cap * d.sz := by omega
  rw [List.length_take, e1, ← hn]
  omega), List.take_take, Nat.min_eq_left (by rw [← hn]; exact ho)]
theorem zeroCells_len (z : Array Value) (m : Nat) : (Builtin.zeroCells z m).toList.length = m * z.size := by
 simp [Builtin.zeroCells]
theorem zeroCells_one (z : Array Value) (m : Nat) (hz : ∀ u ∈ z.toList, u.oneCell' = true) : ∀ u ∈ (Builtin.zeroCells z m).toList, u.oneCell' = true := by
 intro u hu
 simp only [Builtin.zeroCells, Array.toList_map, Array.toList_range, List.mem_map, List.mem_range] at hu
 obtain ⟨i, hi, rfl⟩ := hu
 have hp : 0 < z.size := by
  rcases Nat.eq_zero_or_pos z.size with e | e
  ·rw [e] at hi; simp at hi
  ·exact e
 have hlt := Nat.mod_lt i hp
 rw [getElem!_pos z _ hlt]
 exact hz _ (by simp)
theorem one_zIt : ∀ u ∈ (Value.agg #[(.int .i64 0), (.slice none 0 0), (.pointer none)]).cells.toList, u.oneCell' = true := one3 0 none 0 0
theorem Kd.R_clear {P : Program} {ops : Array Oper} {rest : List Oper} {o : Oper} {a : Act} {Q : Exit → Act → World → Prop} {α : Type} (d : Kd α) {W : World} (base : Nat) (hgd : o.guard = none) (s : Operand) (t e : TypeId) (z : Value) (bytes : Nat)
  (ho : o.op = .call { callee := .builtin .clear, args := #[s], argTypes := #[t] }) (ht : P.underlying t = some (.slice e)) (hinfo : (P.info? e).map (fun i => (i.zero, i.size, i.bytes)) = some (some z, d.sz, bytes)) (hz : z.cells.size = d.sz) (hz1 : ∀ u ∈ z.cells.toList, u.oneCell' = true)
  {g n m i cap c' off : Nat} {ok : Nat → Prop} {xs : List α} (hs : a.eval s = .slice (some ⟨g, off, none⟩) m c') (hoff : off = i * d.sz) (hm : i + m = n) (hmp : 0 < m) (HO : d.R e W base ok (.slice (some ⟨g, 0, none⟩) n cap) xs)
  (h : ∀ w1, d.R e w1 base ok (.slice (some ⟨g, 0, none⟩) i cap) (xs.take i) → W.grownBy w1 (some g) → wpList P ops Q rest (a.put o.dst (.tuple #[])) w1) : wpList P ops Q (o :: rest) a W := by
 subst hoff
 obtain ⟨hn, hnc, _⟩ := Kd.R_reads' HO
 have hzl := zeroCells_len z.cells m
 have hzo := zeroCells_one z.cells m hz1
 have hfit : i * d.sz + (Builtin.zeroCells z.cells m).toList.length ≤ cap * d.sz := by
  rw [hzl, hz, ← Nat.add_mul]
  exact Nat.mul_le_mul_right _ (by omega)
 obtain ⟨h1, h2⟩ := Kd.R_beyond (Kd.R_take HO (m := i) (by omega)) (i * d.sz) (Builtin.zeroCells z.cells m).toList (Nat.le_refl _) hfit
 obtain ⟨i0, hi0, hzz⟩ := Option.map_eq_some_iff.1 hinfo
 simp only [Prod.mk.injEq] at hzz
 refine wpList_plain hgd fun K hK => ?_
 have hrun : (Builtin.clear_ #[t] o.type #[.slice (some ⟨g, i * d.sz, none⟩) m c']).run P W = .ok (.tuple #[]) (W.setCells g (i * d.sz) (Builtin.zeroCells z.cells m).toList) := by
  obtain ⟨_, inner, hown, _⟩ := HO
  rcases hown.2 with ⟨hv, _⟩ | ⟨g', cap', cur, hv, hb, hh, hnc', hcm, hcs, _⟩
  ·cases hv
  injection hv with ha _ hc
  injection ha with ha
  injection ha with hg'
  subst hg'; subst hc
  have hst := run_storeCells_cells (P := P) g (i * d.sz) (Builtin.zeroCells z.cells m).toList 0 W (fun j hj => by rw [cell_of_row W g _ cur e (0, 0) hh]; simp; omega) (fun j _ => blk_frozen hh _) hzo
  simp only [Nat.add_zero] at hst
  obtain ⟨m', rfl⟩ : ∃ m', m = m' + 1 := ⟨m - 1, by omega⟩
  have hv : (zeroValue e).run P W = .ok z W := by simp [zeroValue, typeInfo, hi0, hzz.1]
  simp [Builtin.clear_, run_underlying ht, hv, hst]
 unfold Oper.wp
 simp [execOp, ho, resolve, invoke, builtin, hs, hrun, Result.andThen]
 exact hK _ _ (h _ h1 h2)
theorem got_del_none (A : Option Addr) (c n B : Nat) (O : List (It × Int)) (w : World) (hn : n = O.length) (hr : Kd.C kIt w A (O.map Prod.fst).length (O.map Prod.fst)) (hl : O.length ≤ 1000000) (KK : Nat) (a0 a1 a2 a3 : Int) (hs : Int → Bool) (hA : w.heap[B]? = some (.cells #[.int .i64 a0, .int .i64 a1, .int .i64 a2, .int .i64 a3] 36 (0, 0))) (hh : ∀ o ∈ O, ack_Has.f KK a0 a1 a2 a3 o.1.b.f0 = some (hs o.1.b.f0)) (hq : ∀ o ∈ O, goQ hs o = false) :
  Calls Try.prog 36 #[.slice A n c, .func (.func 37) #[] #[.pointer (some ⟨B, 0, none⟩)]] w fun e w' => e = .returned (.slice A n c) ∧ Below w.heap.size w w' := by
 have hix := got_index A c n B O w hn hr hl KK a0 a1 a2 a3 hs hA hh
 rw [ixB_none O 0 hq] at hix
 have HIX := Aside0.mk hix
 clear hix hn hr hl hA hh hq
 go_enter Try.func36, Try.ntmps36
 go_wp2_with (go_at_call 54; (with_reducible refine HIX.out.mono ?_); rintro e w2 ⟨rfl, hb⟩; have B2 := Aside0.mk hb; clear hb)
 go_ret
 exact ⟨rfl, B2.out⟩
theorem le3 {a b d : Value} : 0 + [a, b, d].length ≤ kIt.sz := Nat.le_refl 3
theorem cut_itF (g' n c : Nat) (x : Int) (h0 : 0 ≤ x) (hm : x ≤ n) (hc : x.toNat < c) : ∀ W : World, (Instr.slice 61 (.slice (some ⟨g', 0, none⟩) n c) (some (.int .i64 x)) none none).run Try.prog W = .ok (.slice (some ⟨g', x.toNat * 3, none⟩) (n - x.toNat) (c - x.toNat)) W := by
 obtain ⟨i0, hi0, _, hsz, _⟩ := info_parts info73
 have h := cut_from (P := Try.prog) 61 73 .i64 Try.underlying61 hi0 3 hsz (some ⟨g', 0, none⟩) n c x h0 hm
 rw [if_neg (by omega)] at h
 simp only [Option.map_some, add_plain] at h
 exact h
theorem cut_itT (A : Option Addr) (n c : Nat) (x : Int) (h0 : 0 ≤ x) (hm : x ≤ n) (hc : n ≤ c) : ∀ W : World, (Instr.slice 61 (.slice A n c) none (some (.int .i64 x)) none).run Try.prog W = .ok (.slice A x.toNat c) W := by
 obtain ⟨i0, hi0, _, hsz, _⟩ := info_parts info73
 exact cut_to (P := Try.prog) 61 73 .i64 Try.underlying61 hi0 A n c x h0 hm hc
theorem got_del_some (g' c n B : Nat) (O : List (It × Int)) (w : World) (base : Nat) (ok : Nat → Prop) (hR : kIt.R 73 w base ok (.slice (some ⟨g', 0, none⟩) n c) (O.map Prod.fst)) (hbs : base ≤ w.heap.size) (hn : n = O.length) (hl : O.length ≤ 1000000) (KK : Nat) (a0 a1 a2 a3 : Int) (hs : Int → Bool) (hA : w.heap[B]? = some (.cells #[.int .i64 a0, .int .i64 a1, .int .i64 a2, .int .i64 a3] 36 (0, 0))) (hh : ∀ o ∈ O, ack_Has.f KK a0 a1 a2 a3 o.1.b.f0 = some (hs o.1.b.f0)) (hBg : B ≠ g') (i0 : Nat) (hi : i0 < O.length) (hx0 : ixB (goQ hs) O 0 = (i0 : Int)) (hq : goQ hs O[i0] = true) (h4 : ∀ o ∈ O.take i0, goQ hs o = false) :
  Calls Try.prog 36 #[.slice (some ⟨g', 0, none⟩) n c, .func (.func 37) #[] #[.pointer (some ⟨B, 0, none⟩)]] w fun e w' => ∃ m, e = .returned (.slice (some ⟨g', 0, none⟩) m c) ∧ kIt.R 73 w' base ok (.slice (some ⟨g', 0, none⟩) m c) ((O.filter (fun o => !goQ hs o)).map Prod.fst) ∧ w.grownBy w' (some g') := by
 have hix := got_index (some ⟨g', 0, none⟩) c n B O w hn (Kd.R_reads' hR).2.2 hl KK a0 a1 a2 a3 hs hA hh
 rw [hx0] at hix
 have HIX := Aside0.mk hix
 obtain ⟨e1, e2⟩ := curL_start O i0 hi hq h4
 have SR0 := Aside0.mk hR
 have HN := Aside0.mk hn
 have HL := Aside0.mk hl
 have HA := Aside0.mk hA
 have HH := Aside0.mk hh
 have HBG := Aside0.mk (show some B ≠ some g' from fun e => hBg (Option.some.inj e))
 have HI0 := Aside0.mk hi
 have HBS := Aside0.mk hbs
 have HNC := Aside0.mk (Kd.R_reads' hR).2.1
 have HE := Aside0.mk (And.intro e1 e2)
 have bq : ((i0 : Int) == -1) = false := beq_eq_false_iff_ne.mpr (by omega)
 have HW0 := Aside0.mk (show wrap64 ((i0 : Int) + 1) = (i0 : Int) + 1 from w64 (by omega) (by omega))
 clear hix hR hbs hn hl hA hh hBg hi hx0 hq h4 e1 e2
 go_enter Try.func36, Try.ntmps36
 go_wp2_with (go_at_call 54; (with_reducible refine HIX.out.mono ?_); rintro e w2 ⟨rfl, hb⟩; have B2 := Aside0.mk hb; clear hb)
 go_loopg [5, 6] (n - (i0 + 1)) (fun kq v5 v6 wr => ∃ (x y : Int), v5 = .int .i64 x ∧ v6 = .int .i64 y ∧ Aside0 (0 ≤ x) ∧ Aside0 (x < y) ∧ Aside0 (y + kq = n) ∧ Aside0 (x.toNat = (keepL (goQ hs) O y.toNat).length) ∧ Aside0 (kIt.R 73 wr base ok (.slice (some ⟨g', 0, none⟩) n c) ((curL (goQ hs) O y.toNat).map Prod.fst)) ∧ Aside0 (w.grownBy wr (some g')))
 case atStart =>
  have ey : ((i0 : Int) + 1).toNat = i0 + 1 := by omega
  exact ⟨i0, i0 + 1, rfl, by first | rfl | rw [HW0.out], ⟨by omega⟩, ⟨by omega⟩, ⟨by have := HI0.out; have := HN.out; omega⟩, ⟨by rw [ey, HE.out.2]; omega⟩, ⟨by rw [ey, HE.out.1]; exact Kd.R_below SR0.out B2.out⟩, ⟨grown_of_below B2.out _⟩⟩
 case round =>
  clear SR0 HE
  obtain ⟨x, y, rfl, rfl, H0, HXY, HI, HKX, SR, SG⟩ := hrel
  cases gk with
  | zero =>
   have hnl : decide (y < (n : Int)) = false := decide_eq_false (by have := HI.out; omega)
   have hyn : y.toNat = O.length := by have := HI.out; have := HN.out; omega
   have HXN := Aside0.mk (show x < n by have := HXY.out; have := HI.out; omega)
   have hc1 := cut_itF g' n c x H0.out (by have := HXN.out; omega) (by have := HXN.out; have := HNC.out; have := H0.out; omega)
   have hc2 := cut_itT (some ⟨g', 0, none⟩) n c x H0.out (by have := HXN.out; omega) HNC.out
   obtain ⟨m2, hm2⟩ : ∃ m2, m2 = n - x.toNat := ⟨_, rfl⟩
   obtain ⟨c2, hc2'⟩ : ∃ c2, c2 = c - x.toNat := ⟨_, rfl⟩
   rw [← hm2, ← hc2'] at hc1
   have HM2 := Aside0.mk (show x.toNat + m2 = n ∧ 0 < m2 by rw [hm2]; have := HXN.out; have := H0.out; omega)
   have HEN := Aside0.mk (show (curL (goQ hs) O y.toNat).take x.toNat = O.filter (fun o => !goQ hs o) by rw [HKX.out, hyn]; exact curL_end O)
   clear hm2 hc2' hyn
   go_wp2_with ((with_reducible refine gate_builtin (b := .clear) (xs := #[.tmp 38]) rfl ?_); refine Kd.R_clear kIt base rfl (.tmp 38) 61 73 _ 40 rfl Try.underlying61 info73 rfl one_zIt (g := g') (n := n) (m := m2) (i := x.toNat) (cap := c) (c' := c2) (off := x.toNat * 3) rfl rfl HM2.out.1 HM2.out.2 SR.out ?_; intro w12 hr12 hg12; have SR12 := Aside0.mk hr12; have SG12 := Aside0.mk (World.grownBy.trans SG.out hg12); clear hr12 hg12)
   go_ret
   have hr := SR12.out
   rw [← List.map_take, HEN.out] at hr
   exact ⟨_, rfl, hr, SG12.out⟩
  | succ k1 =>
   have hlt := (show y < (n : Int) by have := HI.out; omega)
   have h0 := (show (0 : Int) ≤ y by have := H0.out; have := HXY.out; omega)
   have HYL := Aside0.mk (show y.toNat < O.length by have := HN.out; omega)
   have HIN := Aside0.mk (show x < (n : Int) by have := HXY.out; omega)
   obtain ⟨ad, A1, c1, e_, x0, x1, x2, hi1⟩ := at_ItM SR.out y h0 hlt
   cases e_
   obtain ⟨o, ho⟩ : ∃ o, o = O[y.toNat]'(HYL.out) := ⟨_, rfl⟩
   have HOY := Aside0.mk ho
   have hy : rd_It ((curL (goQ hs) O y.toNat).map Prod.fst) y = o.1 := by
    unfold rd_It
    rw [List.getD_eq_getElem?_getD, List.getElem?_map, curL_get O y.toNat HYL.out, ho]
    rfl
   rw [hy] at x0 x1 x2 hi1
   obtain ⟨m1, hm1⟩ : ∃ m1, m1 = o.1.b.f1.length := ⟨_, rfl⟩
   rw [← hm1] at x1 hi1
   rw [add_plain] at x0 x1 x2
   replace x1 : wr.cell? ⟨g', y.toNat * 3 + 1, none⟩ = some (.slice A1 m1 c1) := x1
   replace x2 : wr.cell? ⟨g', y.toNat * 3 + 2, none⟩ = some (.pointer (some ⟨o.1.p, 0, none⟩)) := x2
   have HMM := Aside0.mk (kIt_mkM wr base (fun k => ok k ∧ k ≠ g') o.1 (Kd.R_mono hi1 (fun k hk => ⟨hk.1, fun e => hk.2 (by rw [e]; rfl)⟩)))
   have HM := Aside0.mk (show o ∈ O by rw [ho]; exact List.getElem_mem _)
   obtain ⟨cold, hcl, _, hcc, _⟩ := Kd.R_elem SR.out zIt x H0.out HIN.out
   have HCL := Aside0.mk hcl
   have HCC := Aside0.mk hcc
   have hd : decide (y < (n : Int)) = true := decide_eq_true hlt
   have hb0 : y < 9223372036854775807 := by have := HL.out; have := HN.out; omega
   have hw : wrap64 (y + 1) = y + 1 := w64 (by omega) (by omega)
   have hwx : wrap64 (x + 1) = x + 1 := w64 (by have := H0.out; omega) (by have := HIN.out; have := HL.out; have := HN.out; omega)
   have h0t := eq_true h0
   have hltt := eq_true hlt
   have h0x := H0.out
   have h0xt := eq_true h0x
   have hltx := HIN.out
   have hltxt := eq_true hltx
   clear hy hm1 hi1 ho hcl hcc
   cases hq : goQ hs o with
   | true =>
    have HQ := Aside0.mk hq
    clear hq
    go_wp2_with (first
     | ((with_reducible refine gate_dst (N := 7) rfl ?_); refine box_event ?hg (N := 7) ?hd (cs := #[.int .i64 0, .slice none 0 0, .pointer none]) (t := 73) ?hr ?_; (case hd => rfl); (case hg => rfl); (case hr => first | (go_simp; done) | (go_simp; rfl) | rfl | kernel_rfl); intro gi hg w8 hbox hb; have HB9 := Aside0.mk (show Below wr.heap.size wr (((w8.setCell ⟨gi, 0, none⟩ (.int .i64 o.1.b.f0)).setCell ⟨gi, 1, none⟩ (.slice A1 m1 c1)).setCell ⟨gi, 2, none⟩ (.pointer (some ⟨o.1.p, 0, none⟩))) from below_set (below_set (below_set hb (Nat.le_of_eq hg.symm)) (Nat.le_of_eq hg.symm)) (Nat.le_of_eq hg.symm)); have BI9 := Aside0.mk (blk_put (blk_put (blk_put hbox 0 (.int .i64 o.1.b.f0) (cs' := #[.int .i64 o.1.b.f0, .slice none 0 0, .pointer none]) rfl) 1 (.slice A1 m1 c1) (cs' := #[.int .i64 o.1.b.f0, .slice A1 m1 c1, .pointer none]) rfl) 2 (.pointer (some ⟨o.1.p, 0, none⟩)) (cs' := #[.int .i64 o.1.b.f0, .slice A1 m1 c1, .pointer (some ⟨o.1.p, 0, none⟩)]) rfl); have q0 := (blk_cell hbox 0).trans rfl; have q1 := (blk_cell hbox 1).trans rfl; have q2 := (blk_cell hbox 2).trans rfl; have af0 := blk_frozen hbox 0; have af1 := blk_frozen hbox 1; have af2 := blk_frozen hbox 2; have i0 : (((w8.setCell ⟨gi, 0, none⟩ (.int .i64 o.1.b.f0)).setCell ⟨gi, 1, none⟩ (.slice A1 m1 c1)).setCell ⟨gi, 2, none⟩ (.pointer (some ⟨o.1.p, 0, none⟩))).cell? ⟨gi, 0, none⟩ = some (.int .i64 o.1.b.f0) := (blk_cell BI9.out 0).trans rfl; have i1 : (((w8.setCell ⟨gi, 0, none⟩ (.int .i64 o.1.b.f0)).setCell ⟨gi, 1, none⟩ (.slice A1 m1 c1)).setCell ⟨gi, 2, none⟩ (.pointer (some ⟨o.1.p, 0, none⟩))).cell? ⟨gi, 1, none⟩ = some (.slice A1 m1 c1) := (blk_cell BI9.out 1).trans rfl; have i2 : (((w8.setCell ⟨gi, 0, none⟩ (.int .i64 o.1.b.f0)).setCell ⟨gi, 1, none⟩ (.slice A1 m1 c1)).setCell ⟨gi, 2, none⟩ (.pointer (some ⟨o.1.p, 0, none⟩))).cell? ⟨gi, 2, none⟩ = some (.pointer (some ⟨o.1.p, 0, none⟩)) := (blk_cell BI9.out 2).trans rfl; clear hb hbox hg)
     | (go_at_call 37; (with_reducible refine (got_pred B o.1.p o.1.b.f0 A1 m1 c1 KK a0 a1 a2 a3 _ _ ((HH.out o HM.out).trans (congrArg some HQ.out)) (blk_below (blk_grown HA.out SG.out HBG.out) HB9.out)).mono ?_); rintro e2 w10 ⟨rfl, hb⟩; have HB10 := Aside0.mk (below_step HB9.out hb); have BI10 := Aside0.mk (blk_below BI9.out hb); obtain ⟨j0, j1, j2⟩ := cA3 BI10.out; clear hb))
    go_roundg k1
    case measure => have := HI.out; omega
    case rel =>
     have ey : (y + 1).toNat = y.toNat + 1 := by omega
     have hk := keepL_skip (q := goQ hs) O y.toNat HYL.out (by rw [← HOY.out]; exact HQ.out)
     have hcu : curL (goQ hs) O (y.toNat + 1) = curL (goQ hs) O y.toNat := by unfold curL; rw [hk]
     exact ⟨x, y + 1, rfl, by first | rfl | simp [hw], H0, ⟨by have := HXY.out; omega⟩, ⟨by have := HI.out; omega⟩, ⟨by rw [ey, hk]; exact HKX.out⟩, ⟨by rw [ey, hcu]; exact Kd.R_below SR.out HB10.out⟩, ⟨World.grownBy.trans SG.out (grown_of_below HB10.out _)⟩⟩
   | false =>
    have HQ := Aside0.mk hq
    clear hq
    go_wp2_with (first
     | ((with_reducible refine gate_dst (N := 7) rfl ?_); refine box_event ?hg (N := 7) ?hd (cs := #[.int .i64 0, .slice none 0 0, .pointer none]) (t := 73) ?hr ?_; (case hd => rfl); (case hg => rfl); (case hr => first | (go_simp; done) | (go_simp; rfl) | rfl | kernel_rfl); intro gi hg w8 hbox hb; have HB9 := Aside0.mk (show Below wr.heap.size wr (((w8.setCell ⟨gi, 0, none⟩ (.int .i64 o.1.b.f0)).setCell ⟨gi, 1, none⟩ (.slice A1 m1 c1)).setCell ⟨gi, 2, none⟩ (.pointer (some ⟨o.1.p, 0, none⟩))) from below_set (below_set (below_set hb (Nat.le_of_eq hg.symm)) (Nat.le_of_eq hg.symm)) (Nat.le_of_eq hg.symm)); have BI9 := Aside0.mk (blk_put (blk_put (blk_put hbox 0 (.int .i64 o.1.b.f0) (cs' := #[.int .i64 o.1.b.f0, .slice none 0 0, .pointer none]) rfl) 1 (.slice A1 m1 c1) (cs' := #[.int .i64 o.1.b.f0, .slice A1 m1 c1, .pointer none]) rfl) 2 (.pointer (some ⟨o.1.p, 0, none⟩)) (cs' := #[.int .i64 o.1.b.f0, .slice A1 m1 c1, .pointer (some ⟨o.1.p, 0, none⟩)]) rfl); have q0 := (blk_cell hbox 0).trans rfl; have q1 := (blk_cell hbox 1).trans rfl; have q2 := (blk_cell hbox 2).trans rfl; have af0 := blk_frozen hbox 0; have af1 := blk_frozen hbox 1; have af2 := blk_frozen hbox 2; have i0 : (((w8.setCell ⟨gi, 0, none⟩ (.int .i64 o.1.b.f0)).setCell ⟨gi, 1, none⟩ (.slice A1 m1 c1)).setCell ⟨gi, 2, none⟩ (.pointer (some ⟨o.1.p, 0, none⟩))).cell? ⟨gi, 0, none⟩ = some (.int .i64 o.1.b.f0) := (blk_cell BI9.out 0).trans rfl; have i1 : (((w8.setCell ⟨gi, 0, none⟩ (.int .i64 o.1.b.f0)).setCell ⟨gi, 1, none⟩ (.slice A1 m1 c1)).setCell ⟨gi, 2, none⟩ (.pointer (some ⟨o.1.p, 0, none⟩))).cell? ⟨gi, 1, none⟩ = some (.slice A1 m1 c1) := (blk_cell BI9.out 1).trans rfl; have i2 : (((w8.setCell ⟨gi, 0, none⟩ (.int .i64 o.1.b.f0)).setCell ⟨gi, 1, none⟩ (.slice A1 m1 c1)).setCell ⟨gi, 2, none⟩ (.pointer (some ⟨o.1.p, 0, none⟩))).cell? ⟨gi, 2, none⟩ = some (.pointer (some ⟨o.1.p, 0, none⟩)) := (blk_cell BI9.out 2).trans rfl; clear hb hbox hg)
     | (go_at_call 37; (with_reducible refine (got_pred B o.1.p o.1.b.f0 A1 m1 c1 KK a0 a1 a2 a3 _ _ ((HH.out o HM.out).trans (congrArg some HQ.out)) (blk_below (blk_grown HA.out SG.out HBG.out) HB9.out)).mono ?_); rintro e2 w10 ⟨rfl, hb⟩; have HB10 := Aside0.mk (below_step HB9.out hb); have BI10 := Aside0.mk (blk_below BI9.out hb); obtain ⟨j0, j1, j2⟩ := cA3 BI10.out; clear hb)
     | ((with_reducible refine gate_ (.store 73 (.tmp 33) (.tmp 32)) rfl ?_); refine Kd.R_store kIt (w0 := w10) base rfl rfl 73 (.tmp 33) (.tmp 32) rfl 73 (g := g') (n := n) (cap := c) (o' := x.toNat * 3 + 0) x 0 ((curL (goQ hs) O y.toNat).map Prod.fst) o.1 (.agg #[.int .i64 o.1.b.f0, .slice A1 m1 c1, .pointer (some ⟨o.1.p, 0, none⟩)]) [.int .i64 o.1.b.f0, .slice A1 m1 c1, .pointer (some ⟨o.1.p, 0, none⟩)] cold ok (fun k => ok k ∧ k ≠ g') ?aA rfl rfl rfl ?aT ?aN ?aO ?aI ?aJ HCL.out ?aC le3 ?aM (fun k h => h) ?aB ?_; (case aA => first | rfl | (simp [add_plain]; done)); (case aT => exact sz_It); (case aN => exact one3 _ _ _ _); (case aO => exact Kd.R_below SR.out HB10.out); (case aI => exact H0.out); (case aJ => exact HIN.out); (case aC => exact fun q u hu => cell_below' HB10.out (HCC.out q u hu)); (case aM => rw [seg3 cold HCL.out]; exact Kd.M_below HMM.out HB10.out); (case aB => exact Below.refl _ _); intro w12 hr hb12 hg12; have SR12 := Aside0.mk hr; have SG12 := Aside0.mk (World.grownBy.trans (World.grownBy.trans SG.out (grown_of_below HB10.out _)) hg12); clear hr hb12 hg12))
    go_roundg k1
    case measure => have := HI.out; omega
    case rel =>
     have ey : (y + 1).toNat = y.toNat + 1 := by omega
     have ex : (x + 1).toNat = x.toNat + 1 := by have := H0.out; omega
     have hqq : goQ hs (O[y.toNat]'(HYL.out)) = false := by rw [← HOY.out]; exact HQ.out
     have hk := keepL_put O y.toNat HYL.out hqq
     have hcu := curL_put O y.toNat HYL.out hqq
     have hr := SR12.out
     rw [HKX.out, HOY.out, ← List.map_set, hcu] at hr
     exact ⟨x + 1, y + 1, by first | rfl | simp [hwx], by first | rfl | simp [hw], ⟨by have := H0.out; omega⟩, ⟨by have := HXY.out; omega⟩, ⟨by have := HI.out; omega⟩, ⟨by rw [ey, hk, ex, List.length_append, HKX.out]; rfl⟩, ⟨by rw [ey]; exact hr⟩, SG12⟩
def far (a b : Int) : Int := (b - a) % 65536
theorem far_range (a b : Int) : 0 ≤ far a b ∧ far a b < 65536 := by unfold far; omega
theorem serial_Far_eq (k : Nat) (a b : Int) : serial_Far.f (k + 3) a b = some (far a b) := by
 unfold serial_Far.f serial_of.f
 simp only [serial_of.l0, List.length_cons, List.length_nil]
 simp [rd, wrap64, IntKind.wrap_u16, far]
 omega
theorem serial_Far_ev (a b : Int) : Ev (fun k => serial_Far.f k a b) (far a b) := Ev.from 3 (fun k => serial_Far_eq k a b)
def hasB (nx : Int) (m : Nat) (n : Int) : Bool := decide (32768 ≤ far nx n) || (decide (1 ≤ far nx n) && (decide (far nx n ≤ 16) && m.testBit (far nx n - 1).toNat))
theorem mask_has_eq (m : Nat) (t : Int) (hm : m < 65536) (h1 : 1 ≤ t) (h2 : t ≤ 16) : ack_mask_has.f (m : Int) t = some (m.testBit (t - 1).toNat) := by
 unfold ack_mask_has.f
 rw [w64 (by omega) (by omega), if_pos (by omega)]
 congr 1
 unfold shr
 rw [Nat.min_eq_left (by simp [IntKind.bits]; omega)]
 rw [show ((m : Int) / 2 ^ (t - 1).toNat) = ((m / 2 ^ (t - 1).toNat : Nat) : Int) by simp]
 have hq : m / 2 ^ (t - 1).toNat ≤ m := Nat.div_le_self _ _
 have hb := bits_and_i64 (m / 2 ^ (t - 1).toNat) 1 (by omega) (by decide)
 rw [show ((1 : Nat) : Int) = 1 from rfl] at hb
 rw [hb, Nat.and_one_is_mod, Nat.testBit_eq_decide_div_mod_eq]
 rw [Bool.eq_iff_iff]
 simp only [beq_iff_eq, decide_eq_true_eq]
 omega
theorem ack_Has_ev (nx : Int) (m : Nat) (n : Int) (h0 : 0 ≤ nx) (h1 : nx ≤ 65535) (hm : m < 65536) : Ev (fun k => ack_Has.f k 0 0 nx m n) (hasB nx m n) := by
 have hr : ack_right.f 0 0 nx m = some true := by
  unfold ack_right.f
  simp only [if_pos (show (0 : Int) ≥ 0 by decide), if_pos (show (0 : Int) < 64 by decide), if_pos (show (0 : Int) ≤ 4294967295 by decide), if_pos (show nx ≥ 0 by omega), if_pos h1, if_pos (show (m : Int) ≥ 0 by omega)]
  rw [decide_eq_true (show (m : Int) ≤ 65535 by omega)]
 unfold ack_Has.f
 simp only [hr, Option.bind_some, if_true]
 refine Ev.bind (serial_Far_ev _ _) ?_
 have hf := far_range nx n
 unfold hasB
 by_cases c0 : far nx n ≥ 32768
 ·simp only [if_pos c0]
  rw [decide_eq_true (show 32768 ≤ far nx n from c0)]
  exact Ev.now _
 ·simp only [if_neg c0]
  rw [decide_eq_false (show ¬ 32768 ≤ far nx n from c0), Bool.false_or]
  by_cases c1 : far nx n ≥ 1
  ·simp only [if_pos c1]
   rw [decide_eq_true (show 1 ≤ far nx n from c1), Bool.true_and]
   by_cases c2 : far nx n ≤ 16
   ·simp only [if_pos c2, mask_has_eq m _ hm c1 c2, Option.bind_some]
    rw [decide_eq_true c2, Bool.true_and]
    exact Ev.now _
   ·simp only [if_neg c2]
    rw [decide_eq_false c2, Bool.false_and]
    exact Ev.now _
  ·simp only [if_neg c1]
   rw [decide_eq_false (show ¬ 1 ≤ far nx n from c1), Bool.false_and]
   exact Ev.now _
def SA (a : S36) : Prop := (0 ≤ a.f0 ∧ a.f0 < 64) ∧ (0 ≤ a.f1 ∧ a.f1 ≤ 4294967295) ∧ (0 ≤ a.f2 ∧ a.f2 ≤ 65535) ∧ (0 ≤ a.f3 ∧ a.f3 ≤ 65535)
instance (a : S36) : Decidable (SA a) := by unfold SA; infer_instance
theorem right_eq (a : S36) : ack_right.f a.f0 a.f1 a.f2 a.f3 = some (decide (SA a)) := by
 unfold ack_right.f
 by_cases h1 : a.f0 ≥ 0
 ·rw [if_pos h1]
  by_cases h2 : a.f0 < 64
  ·rw [if_pos h2]
   by_cases h3 : a.f1 ≥ 0
   ·rw [if_pos h3]
    by_cases h4 : a.f1 ≤ 4294967295
    ·rw [if_pos h4]
     by_cases h5 : a.f2 ≥ 0
     ·rw [if_pos h5]
      by_cases h6 : a.f2 ≤ 65535
      ·rw [if_pos h6]
       by_cases h7 : a.f3 ≥ 0
       ·rw [if_pos h7]
        congr 1
        by_cases h8 : a.f3 ≤ 65535
        ·rw [decide_eq_true h8, decide_eq_true (show SA a from ⟨⟨h1, h2⟩, ⟨h3, h4⟩, ⟨h5, h6⟩, h7, h8⟩)]
        ·rw [decide_eq_false h8, decide_eq_false fun x : SA a => h8 x.2.2.2.2]
       ·rw [if_neg h7, decide_eq_false fun x : SA a => h7 x.2.2.2.1]
      ·rw [if_neg h6, decide_eq_false fun x : SA a => h6 x.2.2.1.2]
     ·rw [if_neg h5, decide_eq_false fun x : SA a => h5 x.2.2.1.1]
    ·rw [if_neg h4, decide_eq_false fun x : SA a => h4 x.2.1.2]
   ·rw [if_neg h3, decide_eq_false fun x : SA a => h3 x.2.1.1]
  ·rw [if_neg h2, decide_eq_false fun x : SA a => h2 x.1.2]
 ·rw [if_neg h1, decide_eq_false fun x : SA a => h1 x.1.1]
def hasA (a : S36) (n : Int) : Bool := decide (SA a) && hasB a.f2 a.f3.toNat n
theorem has_ev (a : S36) (n : Int) : Ev (fun k => ack_Has.f k a.f0 a.f1 a.f2 a.f3 n) (hasA a n) := by
 unfold ack_Has.f hasA
 simp only [right_eq, Option.bind_some]
 by_cases c : SA a
 ·obtain ⟨m, hm⟩ := Int.eq_ofNat_of_zero_le c.2.2.2.1
  have hlt : m < 65536 := by have := c.2.2.2.2; omega
  simp only [decide_eq_true c, if_true, Bool.true_and, hm, Int.toNat_natCast]
  have hr := ack_Has_ev a.f2 m n c.2.2.1.1 c.2.2.1.2 hlt
  unfold ack_Has.f at hr
  have hr2 : ack_right.f 0 0 a.f2 m = some true := by
   rw [right_eq ⟨0, 0, a.f2, m⟩]
   congr 1
   exact decide_eq_true (show SA ⟨0, 0, a.f2, m⟩ from ⟨⟨Int.le_refl 0, by show (0 : Int) < 64; omega⟩, ⟨Int.le_refl 0, by show (0 : Int) ≤ 4294967295; omega⟩, c.2.2.1, by show (0 : Int) ≤ m; omega, by show (m : Int) ≤ 65535; omega⟩)
  simp only [hr2, Option.bind_some, if_true] at hr
  exact hr
 ·simp only [decide_eq_false c, Bool.false_eq_true, if_false, Bool.false_and]
  exact Ev.now _
def sck.T5 : Bool × List (List Nat × List Nat) := (true, [([], []), ([0], [0]), ([1], [1]), ([2, 1, 1], [1, 2]), ([1, 3], [1, 3]), ([4, 3], [4]), ([5], [5]), ([6, 5], [5, 6]), ([7, 5, 5], [5, 7]), ([8], [8]), ([8], [8]), ([10, 8], [8, 10]), ([9, 11, 8], [8, 9, 11]), ([12, 8], [8, 12]), ([13, 8], [8, 13]), ([8], [8]), ([15, 8], [8, 15]), ([14, 16, 8], [8, 14, 16]), ([8, 17, 5], [5, 8, 17]), ([5, 18], [5, 18]), ([19, 8, 0, 1, 2, 3, 4, 5, 6, 7, 8, 9, 10, 11, 12, 13, 14, 15, 16, 17, 18, 19], [0, 19])])
def sck.B5 : List Nat := [0, 1, 3, 7, 15, 31, 63, 127, 255, 511, 511, 1535, 4095, 8191, 16383, 511, 33279, 131071, 262143, 524287, 1048575]
theorem sck.tab5 : rtab .any (opsOf Try.f35 5) = sck.T5 := by kernel_rfl
theorem sck.bits5 : waitsOk sck.T5.2 sck.B5 = true := by kernel_rfl
theorem ack_oneY {a0 a1 a2 a3 : Int} {w : World} {gl : Nat} (hs : SA ⟨a0, a1, a2, a3⟩) (hv : w.heap[gl]? = some (.cells #[.int .i64 a0, .int .i64 a1, .int .i64 a2, .int .i64 a3] 36 (0, 0))) :
  Calls Try.prog 35 #[.slice (some ⟨gl, 0, none⟩) 1 1] w fun e w' => e = .returned (.int .i64 0) ∧ Below w.heap.size w w' := by
 obtain ⟨b, hb⟩ : ∃ b, b = true := ⟨_, rfl⟩
 have HB := Aside0.mk (show ack_right.f a0 a1 a2 a3 = some b from (right_eq ⟨a0, a1, a2, a3⟩).trans (congrArg some ((decide_eq_true hs).trans hb.symm)))
 subst hb
 have HC := Aside0.mk hv
 clear hs hv
 go_enter Try.func35, Try.ntmps35
 go_wp2
 go_loopg [3, 16] 1 (fun kq v3 v16 wr => ∃ x : Int, v16 = .int .i64 x ∧ v3 = .bool (if x = 0 then true else true) ∧ Aside0 (0 ≤ x) ∧ Aside0 (x + kq = 1) ∧ Aside0 (Below w.heap.size w wr))
 case atStart => exact ⟨0, rfl, rfl, ⟨by omega⟩, ⟨by omega⟩, ⟨Below.refl _ _⟩⟩
 case round =>
  obtain ⟨x, rfl, rfl, H0, HI, BL⟩ := hrel
  cases gk with
  | zero =>
   have hx : x = 1 := by have := HI.out; omega
   subst hx
   rw [if_neg (by decide)]
   go_wp2
   go_ret
   exact ⟨rfl, BL.out⟩
  | succ k1 =>
   have hx : x = 0 := by have := HI.out; have := H0.out; omega
   subst hx
   rw [if_pos rfl]
   have HC2 := blk_below HC.out BL.out
   have e0 : wr.cell? ⟨gl, 0, none⟩ = some (.int .i64 a0) := (blk_cell HC2 0).trans rfl
   have e1 : wr.cell? ⟨gl, 1, none⟩ = some (.int .i64 a1) := (blk_cell HC2 1).trans rfl
   have e2 : wr.cell? ⟨gl, 2, none⟩ = some (.int .i64 a2) := (blk_cell HC2 2).trans rfl
   have e3 : wr.cell? ⟨gl, 3, none⟩ = some (.int .i64 a3) := (blk_cell HC2 3).trans rfl
   clear HC2
   go_upto_region 5 with ((with_reducible refine gate_dst (N := 5) rfl ?_); refine box_event ?hg (N := 5) ?hd (cs := #[.int .i64 0, .int .i64 0, .int .i64 0, .int .i64 0]) (t := 36) ?hr ?_; (case hd => rfl); (case hg => rfl); (case hr => first | (go_simp; done) | (go_simp; rfl) | rfl | kernel_rfl); intro gb hg w3 hbox hb; have BL3 := Aside0.mk (below_step BL.out (show Below wr.heap.size wr ((((w3.setCell ⟨gb, 0, none⟩ (.int .i64 a0)).setCell ⟨gb, 1, none⟩ (.int .i64 a1)).setCell ⟨gb, 2, none⟩ (.int .i64 a2)).setCell ⟨gb, 3, none⟩ (.int .i64 a3)) from below_set (below_set (below_set (below_set (hb) (Nat.le_of_eq hg.symm)) (Nat.le_of_eq hg.symm)) (Nat.le_of_eq hg.symm)) (Nat.le_of_eq hg.symm))); have BB3 := Aside0.mk (blk_put (blk_put (blk_put (blk_put (hbox) 0 (.int .i64 a0) (cs' := #[.int .i64 a0, .int .i64 0, .int .i64 0, .int .i64 0]) rfl) 1 (.int .i64 a1) (cs' := #[.int .i64 a0, .int .i64 a1, .int .i64 0, .int .i64 0]) rfl) 2 (.int .i64 a2) (cs' := #[.int .i64 a0, .int .i64 a1, .int .i64 a2, .int .i64 0]) rfl) 3 (.int .i64 a3) (cs' := #[.int .i64 a0, .int .i64 a1, .int .i64 a2, .int .i64 a3]) rfl); have c0 := (blk_cell hbox 0).trans rfl; have f0 := blk_frozen hbox 0; have c1 := (blk_cell hbox 1).trans rfl; have f1 := blk_frozen hbox 1; have c2 := (blk_cell hbox 2).trans rfl; have f2 := blk_frozen hbox 2; have c3 := (blk_cell hbox 3).trans rfl; have f3 := blk_frozen hbox 3; have d0 : ((((w3.setCell ⟨gb, 0, none⟩ (.int .i64 a0)).setCell ⟨gb, 1, none⟩ (.int .i64 a1)).setCell ⟨gb, 2, none⟩ (.int .i64 a2)).setCell ⟨gb, 3, none⟩ (.int .i64 a3)).cell? ⟨gb, 0, none⟩ = some (.int .i64 a0) := (blk_cell BB3.out 0).trans rfl; have d1 : ((((w3.setCell ⟨gb, 0, none⟩ (.int .i64 a0)).setCell ⟨gb, 1, none⟩ (.int .i64 a1)).setCell ⟨gb, 2, none⟩ (.int .i64 a2)).setCell ⟨gb, 3, none⟩ (.int .i64 a3)).cell? ⟨gb, 1, none⟩ = some (.int .i64 a1) := (blk_cell BB3.out 1).trans rfl; have d2 : ((((w3.setCell ⟨gb, 0, none⟩ (.int .i64 a0)).setCell ⟨gb, 1, none⟩ (.int .i64 a1)).setCell ⟨gb, 2, none⟩ (.int .i64 a2)).setCell ⟨gb, 3, none⟩ (.int .i64 a3)).cell? ⟨gb, 2, none⟩ = some (.int .i64 a2) := (blk_cell BB3.out 2).trans rfl; have d3 : ((((w3.setCell ⟨gb, 0, none⟩ (.int .i64 a0)).setCell ⟨gb, 1, none⟩ (.int .i64 a1)).setCell ⟨gb, 2, none⟩ (.int .i64 a2)).setCell ⟨gb, 3, none⟩ (.int .i64 a3)).cell? ⟨gb, 3, none⟩ = some (.int .i64 a3) := (blk_cell BB3.out 3).trans rfl; clear hb hbox hg)
   refine start_ (n := 21) (S := fun w' => w'.cell? ⟨gb, 0, none⟩ = some (.int .i64 a0) ∧ w'.cell? ⟨gb, 1, none⟩ = some (.int .i64 a1) ∧ w'.cell? ⟨gb, 2, none⟩ = some (.int .i64 a2) ∧ w'.cell? ⟨gb, 3, none⟩ = some (.int .i64 a3)) (ds := [3]) #[false, false, false, false, false, false, false, false, false, false, false, false, false, false, false, false, false, false, false, false, false] (by kernel_rfl) rfl rfl ⟨d0, d1, d2, d3⟩ (fun hHeld => ?_); refine with_tabW sck.tab5 sck.bits5 (fun HT_ HW_ => ?_)
   refine pureA (i := 0) (N := some 21) HT_ ?_
   refine pureA (i := 1) (N := some 22) HT_ ?_
   refine takeA (i := 2) (N := some 23) HT_ HW_ hHeld ?_
   refine last_ (i := 3) (N := some 24) #[true, true, true, true, false, false, false, false, false, false, false, false, false, false, false, false, false, false, false, false, false] rfl rfl (one_of HT_.out (by kernel_rfl)) (by decide) (fun K hK => ?_)
   refine goes_ Try.func57 (by kernel_rfl) rfl #[.agg #[.int .i64 a0, .int .i64 a1, .int .i64 a2, .int .i64 a3]] (by rfl) rfl rfl (by simp only [List.map_toArray, List.map_cons, List.map_nil]; rfl) ?_
   with_reducible refine (ack_right.calls a0 a1 a2 a3 _ _ HB.out).mono ?_
   rintro e w4 ⟨rfl, hw4⟩
   refine ⟨_, rfl, ?_⟩
   have BL4 := Aside0.mk (below_step (below_step BL3.out (below_drew (Below.refl _ _))) hw4)
   clear hw4
   refine hK.out _ _ ?_
   clear hK K
   refine normA (N := 24) ?_
   refine pureA (i := 4) (N := some 25) HT_ ?_
   refine pureA (i := 5) (N := some 26) HT_ ?_
   refine pureA (i := 6) (N := some 27) HT_ ?_
   refine pureA (i := 7) (N := some 28) HT_ ?_
   refine pureA (i := 8) (N := some 29) HT_ ?_
   refine pureN (i := 9) (N := some 30) HT_ ?_
   refine pureN (i := 10) (N := some 31) HT_ ?_
   refine pureN (i := 11) (N := some 32) HT_ ?_
   refine pureN (i := 12) (N := some 33) HT_ ?_
   refine pureN (i := 13) (N := some 34) HT_ ?_
   refine pureN (i := 14) (N := some 35) HT_ ?_
   refine pureN (i := 15) (N := some 36) HT_ ?_
   refine pureN (i := 16) (N := some 37) HT_ ?_
   refine pureN (i := 17) (N := some 38) HT_ ?_
   refine pureA (i := 18) (N := some 39) HT_ ?_
   refine pureA (i := 19) (N := some 40) HT_ ?_
   refine pureA (i := 20) (N := some 3) HT_ ?_
   refine done_ (done_of HT_.out (by kernel_rfl)) ?_
   go_wp2
   go_roundg k1
   case measure => have := HI.out; omega
   case rel => exact ⟨1, by first | rfl | simp [wrap64], by first | rfl | simp, ⟨by decide⟩, ⟨by have := HI.out; omega⟩, BL4⟩
theorem ack_oneN {a0 a1 a2 a3 : Int} {w : World} {gl : Nat} (hs : ¬ SA ⟨a0, a1, a2, a3⟩) (hv : w.heap[gl]? = some (.cells #[.int .i64 a0, .int .i64 a1, .int .i64 a2, .int .i64 a3] 36 (0, 0))) :
  Calls Try.prog 35 #[.slice (some ⟨gl, 0, none⟩) 1 1] w fun e w' => e = .returned (.int .i64 1) ∧ Below w.heap.size w w' := by
 obtain ⟨b, hb⟩ : ∃ b, b = false := ⟨_, rfl⟩
 have HB := Aside0.mk (show ack_right.f a0 a1 a2 a3 = some b from (right_eq ⟨a0, a1, a2, a3⟩).trans (congrArg some ((decide_eq_false hs).trans hb.symm)))
 subst hb
 have HC := Aside0.mk hv
 clear hs hv
 go_enter Try.func35, Try.ntmps35
 go_wp2
 go_loopg [3, 16] 1 (fun kq v3 v16 wr => ∃ x : Int, v16 = .int .i64 x ∧ v3 = .bool (if x = 0 then true else false) ∧ Aside0 (0 ≤ x) ∧ Aside0 (x + kq = 1) ∧ Aside0 (Below w.heap.size w wr))
 case atStart => exact ⟨0, rfl, rfl, ⟨by omega⟩, ⟨by omega⟩, ⟨Below.refl _ _⟩⟩
 case round =>
  obtain ⟨x, rfl, rfl, H0, HI, BL⟩ := hrel
  cases gk with
  | zero =>
   have hx : x = 1 := by have := HI.out; omega
   subst hx
   rw [if_neg (by decide)]
   go_wp2
   go_ret
   exact ⟨rfl, BL.out⟩
  | succ k1 =>
   have hx : x = 0 := by have := HI.out; have := H0.out; omega
   subst hx
   rw [if_pos rfl]
   have HC2 := blk_below HC.out BL.out
   have e0 : wr.cell? ⟨gl, 0, none⟩ = some (.int .i64 a0) := (blk_cell HC2 0).trans rfl
   have e1 : wr.cell? ⟨gl, 1, none⟩ = some (.int .i64 a1) := (blk_cell HC2 1).trans rfl
   have e2 : wr.cell? ⟨gl, 2, none⟩ = some (.int .i64 a2) := (blk_cell HC2 2).trans rfl
   have e3 : wr.cell? ⟨gl, 3, none⟩ = some (.int .i64 a3) := (blk_cell HC2 3).trans rfl
   clear HC2
   go_upto_region 5 with ((with_reducible refine gate_dst (N := 5) rfl ?_); refine box_event ?hg (N := 5) ?hd (cs := #[.int .i64 0, .int .i64 0, .int .i64 0, .int .i64 0]) (t := 36) ?hr ?_; (case hd => rfl); (case hg => rfl); (case hr => first | (go_simp; done) | (go_simp; rfl) | rfl | kernel_rfl); intro gb hg w3 hbox hb; have BL3 := Aside0.mk (below_step BL.out (show Below wr.heap.size wr ((((w3.setCell ⟨gb, 0, none⟩ (.int .i64 a0)).setCell ⟨gb, 1, none⟩ (.int .i64 a1)).setCell ⟨gb, 2, none⟩ (.int .i64 a2)).setCell ⟨gb, 3, none⟩ (.int .i64 a3)) from below_set (below_set (below_set (below_set (hb) (Nat.le_of_eq hg.symm)) (Nat.le_of_eq hg.symm)) (Nat.le_of_eq hg.symm)) (Nat.le_of_eq hg.symm))); have BB3 := Aside0.mk (blk_put (blk_put (blk_put (blk_put (hbox) 0 (.int .i64 a0) (cs' := #[.int .i64 a0, .int .i64 0, .int .i64 0, .int .i64 0]) rfl) 1 (.int .i64 a1) (cs' := #[.int .i64 a0, .int .i64 a1, .int .i64 0, .int .i64 0]) rfl) 2 (.int .i64 a2) (cs' := #[.int .i64 a0, .int .i64 a1, .int .i64 a2, .int .i64 0]) rfl) 3 (.int .i64 a3) (cs' := #[.int .i64 a0, .int .i64 a1, .int .i64 a2, .int .i64 a3]) rfl); have c0 := (blk_cell hbox 0).trans rfl; have f0 := blk_frozen hbox 0; have c1 := (blk_cell hbox 1).trans rfl; have f1 := blk_frozen hbox 1; have c2 := (blk_cell hbox 2).trans rfl; have f2 := blk_frozen hbox 2; have c3 := (blk_cell hbox 3).trans rfl; have f3 := blk_frozen hbox 3; have d0 : ((((w3.setCell ⟨gb, 0, none⟩ (.int .i64 a0)).setCell ⟨gb, 1, none⟩ (.int .i64 a1)).setCell ⟨gb, 2, none⟩ (.int .i64 a2)).setCell ⟨gb, 3, none⟩ (.int .i64 a3)).cell? ⟨gb, 0, none⟩ = some (.int .i64 a0) := (blk_cell BB3.out 0).trans rfl; have d1 : ((((w3.setCell ⟨gb, 0, none⟩ (.int .i64 a0)).setCell ⟨gb, 1, none⟩ (.int .i64 a1)).setCell ⟨gb, 2, none⟩ (.int .i64 a2)).setCell ⟨gb, 3, none⟩ (.int .i64 a3)).cell? ⟨gb, 1, none⟩ = some (.int .i64 a1) := (blk_cell BB3.out 1).trans rfl; have d2 : ((((w3.setCell ⟨gb, 0, none⟩ (.int .i64 a0)).setCell ⟨gb, 1, none⟩ (.int .i64 a1)).setCell ⟨gb, 2, none⟩ (.int .i64 a2)).setCell ⟨gb, 3, none⟩ (.int .i64 a3)).cell? ⟨gb, 2, none⟩ = some (.int .i64 a2) := (blk_cell BB3.out 2).trans rfl; have d3 : ((((w3.setCell ⟨gb, 0, none⟩ (.int .i64 a0)).setCell ⟨gb, 1, none⟩ (.int .i64 a1)).setCell ⟨gb, 2, none⟩ (.int .i64 a2)).setCell ⟨gb, 3, none⟩ (.int .i64 a3)).cell? ⟨gb, 3, none⟩ = some (.int .i64 a3) := (blk_cell BB3.out 3).trans rfl; clear hb hbox hg)
   refine start_ (n := 21) (S := fun w' => w'.cell? ⟨gb, 0, none⟩ = some (.int .i64 a0) ∧ w'.cell? ⟨gb, 1, none⟩ = some (.int .i64 a1) ∧ w'.cell? ⟨gb, 2, none⟩ = some (.int .i64 a2) ∧ w'.cell? ⟨gb, 3, none⟩ = some (.int .i64 a3)) (ds := [3]) #[false, false, false, false, false, false, false, false, false, false, false, false, false, false, false, false, false, false, false, false, false] (by kernel_rfl) rfl rfl ⟨d0, d1, d2, d3⟩ (fun hHeld => ?_); refine with_tabW sck.tab5 sck.bits5 (fun HT_ HW_ => ?_)
   refine pureA (i := 0) (N := some 21) HT_ ?_
   refine pureA (i := 1) (N := some 22) HT_ ?_
   refine takeA (i := 2) (N := some 23) HT_ HW_ hHeld ?_
   refine last_ (i := 3) (N := some 24) #[true, true, true, true, false, false, false, false, false, false, false, false, false, false, false, false, false, false, false, false, false] rfl rfl (one_of HT_.out (by kernel_rfl)) (by decide) (fun K hK => ?_)
   refine goes_ Try.func57 (by kernel_rfl) rfl #[.agg #[.int .i64 a0, .int .i64 a1, .int .i64 a2, .int .i64 a3]] (by rfl) rfl rfl (by simp only [List.map_toArray, List.map_cons, List.map_nil]; rfl) ?_
   with_reducible refine (ack_right.calls a0 a1 a2 a3 _ _ HB.out).mono ?_
   rintro e w4 ⟨rfl, hw4⟩
   refine ⟨_, rfl, ?_⟩
   have BL4 := Aside0.mk (below_step (below_step BL3.out (below_drew (Below.refl _ _))) hw4)
   clear hw4
   refine hK.out _ _ ?_
   clear hK K
   refine normA (N := 24) ?_
   refine pureA (i := 4) (N := some 25) HT_ ?_
   refine pureA (i := 5) (N := some 26) HT_ ?_
   refine pureN (i := 6) (N := some 27) HT_ ?_
   refine pureN (i := 7) (N := some 28) HT_ ?_
   refine pureN (i := 8) (N := some 29) HT_ ?_
   refine pureN (i := 9) (N := some 30) HT_ ?_
   refine pureN (i := 10) (N := some 31) HT_ ?_
   refine pureN (i := 11) (N := some 32) HT_ ?_
   refine pureN (i := 12) (N := some 33) HT_ ?_
   refine pureN (i := 13) (N := some 34) HT_ ?_
   refine pureN (i := 14) (N := some 35) HT_ ?_
   refine pureN (i := 15) (N := some 36) HT_ ?_
   refine pureN (i := 16) (N := some 37) HT_ ?_
   refine pureN (i := 17) (N := some 38) HT_ ?_
   refine pureN (i := 18) (N := some 39) HT_ ?_
   refine pureA (i := 19) (N := some 40) HT_ ?_
   refine pureA (i := 20) (N := some 3) HT_ ?_
   refine done_ (done_of HT_.out (by kernel_rfl)) ?_
   go_wp2
   go_roundg k1
   case measure => have := HI.out; omega
   case rel => exact ⟨1, by first | rfl | simp [wrap64], by first | rfl | simp, ⟨by decide⟩, ⟨by have := HI.out; omega⟩, BL4⟩
theorem got_del {w : World} {base n c B : Nat} {ok : Nat → Prop} {A : Option Addr} {O : List (It × Int)} (hR : kIt.R 73 w base ok (.slice A n c) (O.map Prod.fst)) (hbs : base ≤ w.heap.size) (hn : n = O.length) (hl : O.length ≤ 1000000) (KK : Nat) (a0 a1 a2 a3 : Int) (hs : Int → Bool) (hA : w.heap[B]? = some (.cells #[.int .i64 a0, .int .i64 a1, .int .i64 a2, .int .i64 a3] 36 (0, 0))) (hh : ∀ o ∈ O, ack_Has.f KK a0 a1 a2 a3 o.1.b.f0 = some (hs o.1.b.f0)) (hB : some B ≠ (Value.slice A n c).ownBlock) :
  Calls Try.prog 36 #[.slice A n c, .func (.func 37) #[] #[.pointer (some ⟨B, 0, none⟩)]] w fun e w' => ∃ m, e = .returned (.slice A m c) ∧ kIt.R 73 w' base ok (.slice A m c) ((O.filter (fun o => !goQ hs o)).map Prod.fst) ∧ w.grownBy w' (Value.slice A n c).ownBlock ∧ m = (O.filter (fun o => !goQ hs o)).length := by
 rcases ixB_at (q := goQ hs) O 0 with ⟨h1, h2⟩ | ⟨i, h1, h2, h3, h4⟩
 ·refine (got_del_none A c n B O w hn (Kd.R_reads' hR).2.2 hl KK a0 a1 a2 a3 hs hA hh h2).mono ?_
  rintro e w' ⟨rfl, hb⟩
  have hf : O.filter (fun o => !goQ hs o) = O := List.filter_eq_self.2 (fun o ho => by rw [h2 o ho]; rfl)
  rw [hf]
  exact ⟨n, rfl, Kd.R_below hR hb, grown_of_below hb _, hn⟩
 ·obtain ⟨gq, cap, ev, _, _⟩ := Kd.R_form hR (by rw [List.length_map]; omega)
  injection ev with ea en ec
  subst ea
  refine (got_del_some gq c n B O w base ok hR hbs hn hl KK a0 a1 a2 a3 hs hA hh (fun e => hB (by rw [e]; rfl)) i h1 (by rw [h2]; omega) h3 h4).mono ?_
  rintro e w' ⟨m, rfl, hr, hg⟩
  exact ⟨m, rfl, hr, hg, by have := (Kd.R_reads' hr).1; rw [List.length_map] at this; exact this⟩
section
variable {w0 w w' : World} {F : Nat → Prop} {g : Nat} {wn tr nx : Int} {W : List S34} {O O2 : List (It × Int)} {vw vo v2 : Value}
theorem Sd.del (h : Sd w0 w F g wn tr W O nx vw vo) (hs : O2.Sublist O) (hr : kIt.R 73 w' w0.heap.size (fun k => F k ∧ k ≠ g ∧ some k ≠ vw.ownBlock ∧ ∀ o ∈ O, k ≠ o.1.p) v2 (O2.map Prod.fst)) (hg : w.grownBy w' vo.ownBlock) (hv : v2.ownBlock = vo.ownBlock) :
  Sd w0 (w'.setCell ⟨g, 3, none⟩ v2) F g wn tr W O2 nx vw v2 := by
 have hw0 := below_size h.bl
 have hbase : ∀ k, vo.ownBlock = some k → w0.heap.size ≤ k := fun k hk => Kd.R_base h.rowo k hk
 have hgw : some g ≠ vo.ownBlock := fun e => (h.rowo.1 g e.symm).2.1 rfl
 have hx := (hg.block g (blk_lt h.blk) hgw).trans h.blk
 refine ⟨(pw_below_grown h.bl _ hw0 hg hbase).setCell h.new _, blk_put hx 3 v2 rfl, h.new, fun k hk => Nat.lt_of_lt_of_le (h.lt k hk) (Nat.le_trans hg.size (set_size _ _ _)), h.fg, ?_, ?_, fun o ho => ?_, h.apart.sublist hs⟩
 ·refine Kd.R_mono (Kd.R_far (p := ⟨g, 3, none⟩) (Kd.R_grown h.roww hg (fun k hk => hk.2.2.1)) (fun k hk e => hk.2.1 e) v2) (fun k hk => ⟨hk.1, hk.2.1, by rw [hv]; exact hk.2.2.1, fun o ho => hk.2.2.2 o (hs.subset ho)⟩)
 ·exact Kd.R_mono (Kd.R_far (p := ⟨g, 3, none⟩) hr (fun k hk e => hk.2.1 e) v2) (fun k hk => ⟨hk.1, hk.2.1, hk.2.2.1, fun o ho => hk.2.2.2 o (hs.subset ho)⟩)
 ·obtain ⟨a, b, c, d⟩ := h.cnt o (hs.subset ho)
  have hne : some o.1.p ≠ vo.ownBlock := fun e => (h.rowo.1 _ e.symm).2.2.2 o (hs.subset ho) rfl
  exact ⟨a, b, c, (Below.heap_setCell w' ⟨g, 3, none⟩ v2 o.1.p b).trans ((hg.block _ (blk_lt d) hne).trans d)⟩
theorem Sd.delX (h : Sd w0 w F g wn tr W O nx vw vo) (hs : O2.Sublist O) (hg : w.grownBy w' vo.ownBlock) (hv : v2.ownBlock = vo.ownBlock) :
  SX w F (Wr g vw vo O) (w'.setCell ⟨g, 3, none⟩ v2) F (Wr g vw v2 O2) := by
 refine ⟨Nat.le_trans hg.size (set_size _ _ _), fun k hk hr => (Below.heap_setCell w' ⟨g, 3, none⟩ v2 k (fun e => hr (.inl e))).trans (hg.block k hk (fun e => hr (.inr (.inr (.inl e))))), fun k hk => .inl hk, fun k hk => ?_⟩
 rcases hk with e | e | e | ⟨o, ho, e⟩
 ·exact .inl (.inl e)
 ·exact .inl (.inr (.inl e))
 ·exact .inl (.inr (.inr (.inl (by rw [← hv]; exact e))))
 ·exact .inl (.inr (.inr (.inr ⟨o, hs.subset ho, e⟩)))
end
def sgo.T1 : Bool × List (List Nat × List Nat) := (true, [([], []), ([0], [0]), ([1], [1]), ([2], [2]), ([3, 2], [2, 3]), ([4, 2, 2], [2, 4]), ([5, 2], [2, 5]), ([2, 6], [2, 6]), ([7, 5], [7]), ([8], [8]), ([9, 8, 8], [8, 9]), ([8], [8]), ([11, 8], [8, 11]), ([10, 12, 10, 8], [8, 10, 12]), ([8], [8]), ([14, 13, 8], [8, 14]), ([8], [8]), ([16, 8], [8, 16]), ([17, 8], [8, 17]), ([18, 8], [8, 18]), ([15, 19, 15, 8], [8, 15, 19]), ([13, 20, 8], [8, 13, 20]), ([8, 21], [8, 21])])
def sgo.B1 : List Nat := [0, 1, 3, 7, 15, 31, 63, 127, 255, 511, 1023, 511, 2559, 8191, 511, 32767, 511, 66047, 197119, 459263, 1048575, 2097151, 4194303]
theorem sgo.tab1 : rtab .any (opsOf Try.f14 1) = sgo.T1 := by kernel_rfl
theorem sgo.bits1 : waitsOk sgo.T1.2 sgo.B1 = true := by kernel_rfl
theorem sgot_bad {w0 w : World} {F : Nat → Prop} {g : Nat} {wn tr nx : Int} {W : List S34} {O : List (It × Int)} {vw vo : Value} (h : Sd w0 w F g wn tr W O nx vw vo) (a0 a1 a2 a3 : Int) (hk : ¬ SA ⟨a0, a1, a2, a3⟩) :
  Calls Try.prog 14 #[.pointer (some ⟨g, 0, none⟩), .agg #[.int .i64 a0, .int .i64 a1, .int .i64 a2, .int .i64 a3]] w fun e w' => e = .returned (.int .i64 0) ∧ Below w.heap.size w w' := by
 have HS := Aside0.mk h
 have HK := Aside0.mk hk
 clear h hk
 go_enter Try.func14, Try.ntmps14
 go_upto_region 1 with ((with_reducible refine gate_dst (N := 3) rfl ?_); refine box_event ?hg (N := 3) ?hd (cs := #[.int .i64 a0, .int .i64 a1, .int .i64 a2, .int .i64 a3]) (t := 36) ?hr ?_; (case hd => rfl); (case hg => rfl); (case hr => first | (go_simp; done) | (go_simp; rfl) | rfl | kernel_rfl); intro gA hgA w2 hbox hb; have BA2 := Aside0.mk hbox; have BB2 := Aside0.mk hb; have S2 := Aside0.mk (HS.out.below hb); obtain ⟨x0, x1, x2, x3⟩ := cA4 BA2.out; have x4 : w2.cell? ⟨g, 4, none⟩ = some (.int .i64 nx) := (blk_cell S2.out.blk 4).trans rfl; clear hb hbox hgA)
 refine start_ (n := 23) (S := fun w' => w'.cell? ⟨gA, 0, none⟩ = some (.int .i64 a0) ∧ w'.cell? ⟨gA, 1, none⟩ = some (.int .i64 a1) ∧ w'.cell? ⟨gA, 2, none⟩ = some (.int .i64 a2) ∧ w'.cell? ⟨gA, 3, none⟩ = some (.int .i64 a3) ∧ w'.cell? ⟨g, 4, none⟩ = some (.int .i64 nx)) (ds := [5]) #[false, false, false, false, false, false, false, false, false, false, false, false, false, false, false, false, false, false, false, false, false, false, false] (by kernel_rfl) rfl rfl ⟨x0, x1, x2, x3, x4⟩ (fun hHeld => ?_); refine with_tabW sgo.tab1 sgo.bits1 (fun HT_ HW_ => ?_)
 refine pureA (i := 0) (N := some 6) HT_ ?_
 refine pureA (i := 1) (N := some 7) HT_ ?_
 refine pureA (i := 2) (N := some 8) HT_ ?_
 refine takeA (i := 3) (N := some 9) HT_ HW_ hHeld ?_
 refine oneA (i := 4) (N := some 10) HT_ (fun K hK => ?_)
 refine lit1_step ?hg (N := 10) ?hd (cs := #[.int .i64 a0, .int .i64 a1, .int .i64 a2, .int .i64 a3]) (t := 36) (n := 1) ?hr ?_
 (case hd => rfl)
 (case hg => rfl)
 (case hr => first | (go_simp; done) | (go_simp; rfl))
 intro gl hgl w3 hbox hb3
 have S3 := Aside0.mk (S2.out.below (below_step (below_drew (Below.refl _ _)) hb3))
 have BB3 := Aside0.mk (below_step BB2.out (below_step (below_drew (Below.refl _ _)) hb3))
 have BL := Aside0.mk hbox
 have BA3 := Aside0.mk (blk_below (blk_below BA2.out (below_drew (Below.refl _ _))) hb3)
 refine hK.out _ _ ⟨(hb3.cell (World.block_lt_of_cell? _ _ hHeld.1)).trans hHeld.1, (hb3.cell (World.block_lt_of_cell? _ _ hHeld.2.1)).trans hHeld.2.1, (hb3.cell (World.block_lt_of_cell? _ _ hHeld.2.2.1)).trans hHeld.2.2.1, (hb3.cell (World.block_lt_of_cell? _ _ hHeld.2.2.2.1)).trans hHeld.2.2.2.1, (hb3.cell (World.block_lt_of_cell? _ _ hHeld.2.2.2.2)).trans hHeld.2.2.2.2⟩ (fun hHeld => ?_)
 clear hK K
 refine normA (N := 10) ?_
 refine last_ (i := 5) (N := some 11) #[true, true, true, true, true, true, false, false, false, false, false, false, false, false, false, false, false, false, false, false, false, false, false] rfl rfl (one_of HT_.out (by kernel_rfl)) (by decide) (fun K hK => ?_)
 refine goes_ Try.func35 (by kernel_rfl) rfl #[.slice (some ⟨gl, 0, none⟩) 1 1] (by rfl) rfl rfl (by simp only [List.map_toArray, List.map_cons, List.map_nil]; rfl) ?_
 with_reducible refine (ack_oneN HK.out BL.out).mono ?_
 rintro e w4 ⟨rfl, hb4⟩
 refine ⟨_, rfl, ?_⟩
 have S4 := Aside0.mk (S3.out.below hb4)
 have BB4 := Aside0.mk (below_step BB3.out hb4)
 have BA4 := Aside0.mk (blk_below BA3.out hb4)
 refine hK.out _ _ ?_
 clear hK K
 refine normA (N := 11) ?_
 refine pureA (i := 6) (N := some 12) HT_ ?_
 refine pureA (i := 7) (N := some 13) HT_ ?_
 refine pureA (i := 8) (N := some 14) HT_ ?_
 refine pureN (i := 9) (N := some 15) HT_ ?_
 refine pureN (i := 10) (N := some 16) HT_ ?_
 refine pureN (i := 11) (N := some 17) HT_ ?_
 refine pureN (i := 12) (N := some 18) HT_ ?_
 refine pureN (i := 13) (N := some 19) HT_ ?_
 refine pureN (i := 14) (N := some 20) HT_ ?_
 refine pureN (i := 15) (N := some 21) HT_ ?_
 refine pureN (i := 16) (N := some 22) HT_ ?_
 refine pureN (i := 17) (N := some 23) HT_ ?_
 refine pureN (i := 18) (N := some 24) HT_ ?_
 refine pureN (i := 19) (N := some 25) HT_ ?_
 refine pureN (i := 20) (N := some 26) HT_ ?_
 refine pureN (i := 21) (N := some 27) HT_ ?_
 refine pureA (i := 22) (N := some 28) HT_ ?_
 refine done_ (done_of HT_.out (by kernel_rfl)) ?_
 go_wp2
 go_ret
 exact ⟨rfl, BB4.out⟩
theorem sgot_in {w0 w : World} {F : Nat → Prop} {g : Nat} {wn tr nx : Int} {W : List S34} {O : List (It × Int)} {vw vo : Value} (h : Sd w0 w F g wn tr W O nx vw vo) (hl : O.length ≤ 1000000) (KK : Nat) (a0 a1 a2 a3 : Int) (hk : SA ⟨a0, a1, a2, a3⟩) (f1 f2 : Int) (h1 : serial_Far.f KK (firstL O nx) a2 = some f1) (h2 : serial_Far.f KK (firstL O nx) nx = some f2) (hs : Int → Bool) (hh : ∀ o ∈ O, ack_Has.f KK a0 a1 a2 a3 o.1.b.f0 = some (hs o.1.b.f0)) :
  Calls Try.prog 14 #[.pointer (some ⟨g, 0, none⟩), .agg #[.int .i64 a0, .int .i64 a1, .int .i64 a2, .int .i64 a3]] w fun e w' => (f1 > f2 ∧ e = .returned (.int .i64 0) ∧ Below w.heap.size w w') ∨ (¬ f1 > f2 ∧ ∃ vo', e = .returned (.int .i64 ((O.length : Int) - ((O.filter (fun o => !goQ hs o)).length : Int))) ∧ Sd w0 w' F g wn tr W (O.filter (fun o => !goQ hs o)) nx vw vo' ∧ SX w F (Wr g vw vo O) w' F (Wr g vw vo' (O.filter (fun o => !goQ hs o)))) := by
 obtain ⟨fst, hfs⟩ : ∃ fst, fst = firstL O nx := ⟨_, rfl⟩
 rw [← hfs] at h1 h2
 obtain ⟨Ao, co, rfl⟩ := Kd.R_slice h.rowo
 obtain ⟨n, hn⟩ : ∃ n, n = (O.map Prod.fst).length := ⟨_, rfl⟩
 rw [← hn] at h ⊢
 have HS := Aside0.mk h
 have HN := Aside0.mk (show n = O.length by rw [hn, List.length_map])
 have HL := Aside0.mk hl
 have HH := Aside0.mk hh
 have HK := Aside0.mk hk
 have HFS := Aside0.mk hfs
 have HF1 := Aside0.mk h1
 have HF2 := Aside0.mk h2
 have HLF := Aside0.mk (show (O.filter (fun o => !goQ hs o)).length ≤ O.length from List.length_filter_le _ _)
 clear h hk hfs h1 h2 hn hl hh
 go_enter Try.func14, Try.ntmps14
 go_upto_region 1 with ((with_reducible refine gate_dst (N := 3) rfl ?_); refine box_event ?hg (N := 3) ?hd (cs := #[.int .i64 a0, .int .i64 a1, .int .i64 a2, .int .i64 a3]) (t := 36) ?hr ?_; (case hd => rfl); (case hg => rfl); (case hr => first | (go_simp; done) | (go_simp; rfl) | rfl | kernel_rfl); intro gA hgA w2 hbox hb; have BA2 := Aside0.mk hbox; have BB2 := Aside0.mk hb; have S2 := Aside0.mk (HS.out.below hb); obtain ⟨x0, x1, x2, x3⟩ := cA4 BA2.out; have x4 : w2.cell? ⟨g, 4, none⟩ = some (.int .i64 nx) := (blk_cell S2.out.blk 4).trans rfl; clear hb hbox hgA)
 refine start_ (n := 23) (S := fun w' => w'.cell? ⟨gA, 0, none⟩ = some (.int .i64 a0) ∧ w'.cell? ⟨gA, 1, none⟩ = some (.int .i64 a1) ∧ w'.cell? ⟨gA, 2, none⟩ = some (.int .i64 a2) ∧ w'.cell? ⟨gA, 3, none⟩ = some (.int .i64 a3) ∧ w'.cell? ⟨g, 4, none⟩ = some (.int .i64 nx)) (ds := [20]) #[false, false, false, false, false, false, false, false, false, false, false, false, false, false, false, false, false, false, false, false, false, false, false] (by kernel_rfl) rfl rfl ⟨x0, x1, x2, x3, x4⟩ (fun hHeld => ?_); refine with_tabW sgo.tab1 sgo.bits1 (fun HT_ HW_ => ?_)
 refine pureA (i := 0) (N := some 6) HT_ ?_
 refine pureA (i := 1) (N := some 7) HT_ ?_
 refine pureA (i := 2) (N := some 8) HT_ ?_
 refine takeA (i := 3) (N := some 9) HT_ HW_ hHeld ?_
 refine oneA (i := 4) (N := some 10) HT_ (fun K hK => ?_)
 refine lit1_step ?hg (N := 10) ?hd (cs := #[.int .i64 a0, .int .i64 a1, .int .i64 a2, .int .i64 a3]) (t := 36) (n := 1) ?hr ?_
 (case hd => rfl)
 (case hg => rfl)
 (case hr => first | (go_simp; done) | (go_simp; rfl))
 intro gl hgl w3 hbox hb3
 have S3 := Aside0.mk (S2.out.below (below_step (below_drew (Below.refl _ _)) hb3))
 have BB3 := Aside0.mk (below_step BB2.out (below_step (below_drew (Below.refl _ _)) hb3))
 have BL := Aside0.mk hbox
 have BA3 := Aside0.mk (blk_below (blk_below BA2.out (below_drew (Below.refl _ _))) hb3)
 refine hK.out _ _ ⟨(hb3.cell (World.block_lt_of_cell? _ _ hHeld.1)).trans hHeld.1, (hb3.cell (World.block_lt_of_cell? _ _ hHeld.2.1)).trans hHeld.2.1, (hb3.cell (World.block_lt_of_cell? _ _ hHeld.2.2.1)).trans hHeld.2.2.1, (hb3.cell (World.block_lt_of_cell? _ _ hHeld.2.2.2.1)).trans hHeld.2.2.2.1, (hb3.cell (World.block_lt_of_cell? _ _ hHeld.2.2.2.2)).trans hHeld.2.2.2.2⟩ (fun hHeld => ?_)
 clear hK K
 refine normA (N := 10) ?_
 refine oneA (i := 5) (N := some 11) HT_ (fun K hK => ?_)
 refine goes_ Try.func35 (by kernel_rfl) rfl #[.slice (some ⟨gl, 0, none⟩) 1 1] (by rfl) rfl rfl (by simp only [List.map_toArray, List.map_cons, List.map_nil]; rfl) ?_
 with_reducible refine (ack_oneY HK.out BL.out).mono ?_
 rintro e w4 ⟨rfl, hb4⟩
 refine ⟨_, rfl, ?_⟩
 have S4 := Aside0.mk (S3.out.below hb4)
 have BB4 := Aside0.mk (below_step BB3.out hb4)
 have BA4 := Aside0.mk (blk_below BA3.out hb4)
 refine hK.out _ _ ⟨(hb4.cell (World.block_lt_of_cell? _ _ hHeld.1)).trans hHeld.1, (hb4.cell (World.block_lt_of_cell? _ _ hHeld.2.1)).trans hHeld.2.1, (hb4.cell (World.block_lt_of_cell? _ _ hHeld.2.2.1)).trans hHeld.2.2.1, (hb4.cell (World.block_lt_of_cell? _ _ hHeld.2.2.2.1)).trans hHeld.2.2.2.1, (hb4.cell (World.block_lt_of_cell? _ _ hHeld.2.2.2.2)).trans hHeld.2.2.2.2⟩ (fun hHeld => ?_)
 clear hK K
 refine normA (N := 11) ?_
 refine pureA (i := 6) (N := some 12) HT_ ?_
 refine pureA (i := 7) (N := some 13) HT_ ?_
 refine pureA (i := 8) (N := some 14) HT_ ?_
 refine pureA (i := 9) (N := some 15) HT_ ?_
 refine pureA (i := 11) (N := some 17) HT_ ?_
 refine pureA (i := 14) (N := some 20) HT_ ?_
 refine pureA (i := 16) (N := some 22) HT_ ?_
 refine pureA (i := 17) (N := some 23) HT_ ?_
 refine pureA (i := 18) (N := some 24) HT_ ?_
 refine takeA (i := 12) (N := some 18) HT_ HW_ hHeld ?_
 refine takeA (i := 19) (N := some 25) HT_ HW_ hHeld ?_
 refine oneA (i := 10) (N := some 16) HT_ (fun K hK => ?_)
 refine goes_ Try.func28 (by kernel_rfl) rfl #[.pointer (some ⟨g, 0, none⟩)] (by rfl) rfl rfl (by simp only [List.map_toArray, List.map_cons, List.map_nil]; rfl) ?_
 with_reducible refine (sfirst_s S4.out).mono ?_
 rintro e w5 ⟨rfl, hw5⟩
 refine ⟨_, rfl, ?_⟩
 subst hw5
 rw [← HFS.out]
 refine hK.out _ _ ⟨hHeld.1, hHeld.2.1, hHeld.2.2.1, hHeld.2.2.2.1, hHeld.2.2.2.2⟩ (fun hHeld => ?_)
 clear hK K
 refine normA (N := 16) ?_
 refine oneA (i := 13) (N := some 19) HT_ (fun K hK => ?_)
 refine goes_ Try.func24 (by kernel_rfl) rfl #[.int .i64 fst, .int .i64 a2] (by rfl) rfl rfl (by simp only [List.map_toArray, List.map_cons, List.map_nil]; rfl) ?_
 with_reducible refine (serial_Far.calls KK fst a2 f1 _ HF1.out).mono ?_
 rintro e w5 ⟨rfl, hb5⟩
 refine ⟨_, rfl, ?_⟩
 have S5 := Aside0.mk (S4.out.below hb5)
 have BB5 := Aside0.mk (below_step BB4.out hb5)
 have BA5 := Aside0.mk (blk_below BA4.out hb5)
 refine hK.out _ _ ⟨(hb5.cell (World.block_lt_of_cell? _ _ hHeld.1)).trans hHeld.1, (hb5.cell (World.block_lt_of_cell? _ _ hHeld.2.1)).trans hHeld.2.1, (hb5.cell (World.block_lt_of_cell? _ _ hHeld.2.2.1)).trans hHeld.2.2.1, (hb5.cell (World.block_lt_of_cell? _ _ hHeld.2.2.2.1)).trans hHeld.2.2.2.1, (hb5.cell (World.block_lt_of_cell? _ _ hHeld.2.2.2.2)).trans hHeld.2.2.2.2⟩ (fun hHeld => ?_)
 clear hK K
 refine normA (N := 19) ?_
 refine oneA (i := 15) (N := some 21) HT_ (fun K hK => ?_)
 refine goes_ Try.func28 (by kernel_rfl) rfl #[.pointer (some ⟨g, 0, none⟩)] (by rfl) rfl rfl (by simp only [List.map_toArray, List.map_cons, List.map_nil]; rfl) ?_
 with_reducible refine (sfirst_s S5.out).mono ?_
 rintro e w6 ⟨rfl, hw6⟩
 refine ⟨_, rfl, ?_⟩
 subst hw6
 rw [← HFS.out]
 refine hK.out _ _ ⟨hHeld.1, hHeld.2.1, hHeld.2.2.1, hHeld.2.2.2.1, hHeld.2.2.2.2⟩ (fun hHeld => ?_)
 clear hK K
 refine normA (N := 21) ?_
 refine last_ (i := 20) (N := some 26) #[true, true, true, true, true, true, true, true, true, true, true, true, true, true, true, true, true, true, true, true, true, false, false] rfl rfl (one_of HT_.out (by kernel_rfl)) (by decide) (fun K hK => ?_)
 refine goes_ Try.func24 (by kernel_rfl) rfl #[.int .i64 fst, .int .i64 nx] (by rfl) rfl rfl (by simp only [List.map_toArray, List.map_cons, List.map_nil]; rfl) ?_
 with_reducible refine (serial_Far.calls KK fst nx f2 _ HF2.out).mono ?_
 rintro e w7 ⟨rfl, hb7⟩
 refine ⟨_, rfl, ?_⟩
 have S7 := Aside0.mk (S5.out.below hb7)
 have BB7 := Aside0.mk (below_step BB5.out hb7)
 have BA7 := Aside0.mk (blk_below BA5.out hb7)
 have z3 : w7.cell? ⟨g, 3, none⟩ = some (.slice Ao n co) := (blk_cell S7.out.blk 3).trans rfl
 clear hb7
 refine hK.out _ _ ?_
 clear hK K
 refine normA (N := 26) ?_
 refine pureA (i := 21) (N := some 27) HT_ ?_
 refine pureA (i := 22) (N := some 28) HT_ ?_
 refine done_ (done_of HT_.out (by kernel_rfl)) ?_
 cases bq : decide (f1 > f2) with
 | true =>
  have HQ := Aside0.mk (of_decide_eq_true bq)
  go_wp2
  go_ret
  exact .inl ⟨HQ.out, rfl, BB7.out⟩
 | false =>
  have HQ := Aside0.mk (of_decide_eq_false bq)
  go_wp2_with (go_at_call 36; (with_reducible refine (got_del S7.out.rowo (below_size S7.out.bl) HN.out HL.out KK a0 a1 a2 a3 hs BA7.out HH.out (Kd.R_ne S7.out.rowo BA7.out (by decide))).mono ?_); rintro e w8 ⟨m, rfl, hr, hg, hm⟩; have HR8 := Aside0.mk hr; have HG8 := Aside0.mk hg; have HM8 := Aside0.mk hm; have BG8 := Aside0.mk (blk_grown S7.out.blk hg (Kd.R_ne S7.out.rowo S7.out.blk (by decide))); have z38 : w8.cell? ⟨g, 3, none⟩ = some (.slice Ao n co) := (blk_cell BG8.out 3).trans rfl; have zf8 := blk_frozen BG8.out 3; have BG9 := Aside0.mk (blk_put BG8.out 3 (.slice Ao m co) (cs' := SdC wn tr vw (.slice Ao m co) nx) rfl); have z39 : (w8.setCell ⟨g, 3, none⟩ (.slice Ao m co)).cell? ⟨g, 3, none⟩ = some (.slice Ao m co) := (blk_cell BG9.out 3).trans rfl; have hwm : wrap64 ((n : Int) - (m : Int)) = (n : Int) - (m : Int) := w64 (by have := HN.out; have := HL.out; have := HM8.out; have := HLF.out; omega) (by have := HN.out; have := HL.out; omega); clear hr hg hm)
  go_ret
  have hsub : (O.filter (fun o => !goQ hs o)).Sublist O := List.filter_sublist
  refine .inr ⟨HQ.out, by rw [← HN.out, ← HM8.out]; rfl, .slice Ao m co, S7.out.del hsub HR8.out HG8.out ?_, (SX.of_below F _ BB7.out).trans (S7.out.delX hsub HG8.out ?_)⟩
  ·cases Ao <;> rfl
  ·cases Ao <;> rfl
def sgn.T1 : Bool × List (List Nat × List Nat) := (true, [([], []), ([0], [0]), ([1], [1]), ([2], [2]), ([3, 2], [2, 3]), ([4, 2, 2], [2, 4]), ([5, 2], [2, 5]), ([2, 6], [2, 6]), ([7, 5], [7]), ([8], [8]), ([9, 8, 8], [8, 9]), ([8], [8]), ([11, 8], [8, 11]), ([10, 12, 10, 8], [8, 10, 12]), ([8], [8]), ([14, 13, 8], [8, 14]), ([8], [8]), ([16, 8], [8, 16]), ([17, 8], [8, 17]), ([18, 8], [8, 18]), ([15, 19, 15, 8], [8, 15, 19]), ([13, 20, 8], [8, 13, 20]), ([8, 21], [8, 21])])
def sgn.B1 : List Nat := [0, 1, 3, 7, 15, 31, 63, 127, 255, 511, 1023, 511, 2559, 8191, 511, 32767, 511, 66047, 197119, 459263, 1048575, 2097151, 4194303]
end Go.Proofs.Ytclbempnhelmoaa.P
namespace Go.Proofs.Ytclbempnhelmoaa.P
open Go.RowKit YtclbempnhelmoaaW.PrintWords YtclbempnhelmoaaW.PrintLast YtclbempnhelmoaaW.PrintMore
open Classical
structure AS where
 W : List S34
 D : List (S48 × Int)
 nx : Int
def fstA (s : AS) : Int := match s.D with | [] => s.nx | d :: _ => d.1.f0
noncomputable def packA (s : AS) : List S48 := packGo 512 s.W (s.nx % 65536) []
noncomputable def XA (wn : Int) (s : AS) : List S48 := (packA s).takeWhile (fun b => decide (far (fstA s) b.f0 < wn))
noncomputable def sendA (wn : Int) (s : AS) : AS := ⟨s.W.drop (goneL (XA wn s)), s.D ++ (XA wn s).map (fun b => (b, 1)), nextL s.nx (XA wn s)⟩
noncomputable def pushE (o : S34) (s : AS) : Int := if OR o then (if s.W.length < 1024 then 0 else 8) else 1
noncomputable def pushA (o : S34) (s : AS) : AS := if OR o ∧ s.W.length < 1024 then ⟨s.W ++ [o], s.D, s.nx⟩ else s
def fullA (tr : Int) (s : AS) : Prop := ∃ d ∈ s.D, d.2 ≥ tr
noncomputable def againA (tr : Int) (s : AS) : AS := if fullA tr s then s else ⟨s.W, s.D.map (fun d => (d.1, d.2 + 1)), s.nx⟩
noncomputable def againL (tr : Int) (s : AS) : List S48 := if fullA tr s then [] else s.D.map Prod.fst
def hasA' (a : S36) (d : S48 × Int) : Bool := hasA a d.1.f0
def takesA (a : S36) (s : AS) : Prop := SA a ∧ ¬ far (fstA s) a.f2 > far (fstA s) s.nx
noncomputable def gotA (a : S36) (s : AS) : AS := if takesA a s then ⟨s.W, s.D.filter (fun d => !hasA' a d), s.nx⟩ else s
def OkA (tr : Int) (n : Nat) (s : AS) : Prop := Rights s.W ∧ s.W.length ≤ 1024 ∧ s.D.length ≤ n ∧ (∀ d ∈ s.D, 0 ≤ d.2 ∧ d.2 ≤ tr) ∧ (0 ≤ s.nx ∧ s.nx ≤ 65535)
def Hr {α : Type} (d : Kd α) (e : Nat) (w0 w : World) (F R : Nat → Prop) (v : Value) (xs : List α) : Prop := d.R e w w0.heap.size (fun k => ¬ R k) v xs ∧ ∀ k, v.ownBlock = some k → ¬ F k
theorem Hr.step {α : Type} {d : Kd α} {e : Nat} {w0 w w' : World} {F R F' R' : Nat → Prop} {v : Value} {xs : List α} (h : Hr d e w0 w F R v xs) (hs : SX w F R w' F' R') : Hr d e w0 w' F' R' v xs := by
 refine ⟨?_, fun k hk hF => ?_⟩
 ·refine Kd.R_mono (Kd.R_step (Kd.R_mono (Kd.R_bound h.1) (ok' := fun k => ¬ R k ∧ k < w.heap.size) (fun k hk => ⟨hk.1, hk.2.2.1⟩)) (fun k hk hl => hs.fr k hl hk.1)) (fun k hk hR => ?_)
  rcases hs.wr k hR with e1 | e1
  ·exact hk.1 e1
  ·have := hk.2; omega
 ·have hl := Kd.R_lt h.1 k hk
  rcases hs.fp k hF with e1 | e1
  ·exact h.2 k hk e1
  ·omega
theorem Hr.nil {α : Type} (d : Kd α) (e : Nat) (w0 w : World) (F R : Nat → Prop) : Hr d e w0 w F R (.slice none 0 0) [] := ⟨Kd.R_nil _ _ _ _ _, fun k hk => by simp [Value.ownBlock] at hk⟩
theorem fstA_dat (O : List (It × Int)) (W : List S34) (nx : Int) : firstL O nx = fstA ⟨W, dat O, nx⟩ := by cases O <;> rfl
theorem dat_b (O : List (It × Int)) : (O.map Prod.fst).map It.b = (dat O).map Prod.fst := by unfold dat; rw [List.map_map, List.map_map]; rfl
theorem dat_bump (O : List (It × Int)) : dat (bumpA O) = (dat O).map (fun d => (d.1, d.2 + 1)) := by unfold dat bumpA; rw [List.map_map, List.map_map]; rfl
theorem dat_filter (O : List (It × Int)) (q : Int → Bool) : dat (O.filter (fun o => !goQ q o)) = (dat O).filter (fun d => !q d.1.f0) := by unfold dat; rw [List.filter_map]; rfl
theorem dat_len (O : List (It × Int)) : (dat O).length = O.length := List.length_map ..
theorem dat_mem {O : List (It × Int)} {Q : Int → Prop} (h : ∀ d ∈ dat O, Q d.2) : ∀ o ∈ O, Q o.2 := fun o ho => h _ (List.mem_map_of_mem ho)
structure Sn (w0 w : World) (F R : Nat → Prop) (g : Nat) (wn tr : Int) (s : AS) : Prop where
 ex : ∃ O vw vo, Sd w0 w F g wn tr s.W O s.nx vw vo ∧ dat O = s.D ∧ R = Wr g vw vo O
theorem Sn.below {w0 w w' : World} {F R : Nat → Prop} {g : Nat} {wn tr : Int} {s : AS} (h : Sn w0 w F R g wn tr s) (hb : Below w.heap.size w w') : Sn w0 w' F R g wn tr s := by
 obtain ⟨O, vw, vo, h1, h2, h3⟩ := h
 exact ⟨O, vw, vo, h1.below hb, h2, h3⟩
theorem Sn.bl {w0 w : World} {F R : Nat → Prop} {g : Nat} {wn tr : Int} {s : AS} (h : Sn w0 w F R g wn tr s) : Below w0.heap.size w0 w := by
 obtain ⟨O, vw, vo, h1, h2, h3⟩ := h
 exact h1.bl
theorem Sn.lt {w0 w : World} {F R : Nat → Prop} {g : Nat} {wn tr : Int} {s : AS} (h : Sn w0 w F R g wn tr s) : ∀ k, F k → k < w.heap.size := by
 obtain ⟨O, vw, vo, h1, h2, h3⟩ := h
 exact h1.lt
theorem Sn.rf {w0 w : World} {F R : Nat → Prop} {g : Nat} {wn tr : Int} {s : AS} (h : Sn w0 w F R g wn tr s) : ∀ k, R k → F k := by
 obtain ⟨O, vw, vo, h1, h2, rfl⟩ := h
 exact h1.wr
abbrev objV (o : S34) : Value := .agg #[.int .i64 o.f0, .int .i64 o.f1, .bool o.f2.f0, .int .i64 o.f2.f1, .int .i64 o.f2.f2, .int .i64 o.f2.f3, .int .i64 o.f2.f4, .int .i64 o.f2.f5, .int .i64 o.f3.f0, .int .i64 o.f3.f1, .int .i64 o.f3.f2, .int .i64 o.f4]
abbrev ackV (a : S36) : Value := .agg #[.int .i64 a.f0, .int .i64 a.f1, .int .i64 a.f2, .int .i64 a.f3]
section
variable {w0 w : World} {F R : Nat → Prop} {g : Nat} {wn tr : Int} {s : AS} {n : Nat}
theorem new_a {w0 w : World} (hb : Below w0.heap.size w0 w) (wn tr : Int) (h1 : 1 ≤ wn) (h2 : wn ≤ 16) (h3 : 1 ≤ tr) (h4 : tr ≤ 100) :
  Calls Try.prog 9 #[.int .i64 wn, .int .i64 tr] w fun e w' => ∃ g F R, e = .returned (.tuple #[.pointer (some ⟨g, 0, none⟩), .int .i64 0]) ∧ Sn w0 w' F R g wn tr ⟨[], [], 0⟩ ∧ Below w.heap.size w w' ∧ ∀ k, F k → w.heap.size ≤ k := by
 refine (snew_ok hb wn tr (decide_eq_false (by omega)) (decide_eq_false (by omega)) (decide_eq_false (by omega)) (decide_eq_false (by omega))).mono ?_
 rintro e w' ⟨g, F, rfl, hs, hf, hb2⟩
 exact ⟨g, F, _, rfl, ⟨[], _, _, hs, rfl, rfl⟩, hb2, hf⟩
theorem new_no (w : World) (wn tr : Int) (h : ¬ (1 ≤ wn ∧ wn ≤ 16 ∧ 1 ≤ tr ∧ tr ≤ 100)) :
  Calls Try.prog 9 #[.int .i64 wn, .int .i64 tr] w fun e w' => e = .returned (.tuple #[.pointer none, .int .i64 1]) ∧ w = w' := by
 refine snew_bad wn tr w _ _ _ _ rfl rfl rfl rfl ?_
 by_cases a : wn < 1
 ·simp [a]
 by_cases b : wn > 16
 ·simp [b]
 by_cases c : tr < 1
 ·simp [c]
 have d : tr > 100 := by omega
 simp [d]
theorem push_a (h : Sn w0 w F R g wn tr s) (o : S34) :
  Calls Try.prog 11 #[.pointer (some ⟨g, 0, none⟩), objV o] w fun e w' => ∃ F' R', e = .returned (.int .i64 (pushE o s)) ∧ Sn w0 w' F' R' g wn tr (pushA o s) ∧ SX w F R w' F' R' := by
 obtain ⟨O, vw, vo, hd, h2, rfl⟩ := h
 obtain ⟨K, hK⟩ := oc_eq o.f0 o.f1 o.f2.f0 o.f2.f1 o.f2.f2 o.f2.f3 o.f2.f4 o.f2.f5 o.f3.f0 o.f3.f1 o.f3.f2 o.f4
 have hk := hK K (Nat.le_refl _)
 unfold pushE pushA
 by_cases ho : OR o
 ·rw [if_pos (show RO o.f0 o.f1 o.f2.f0 o.f2.f1 o.f2.f2 o.f2.f3 o.f2.f4 o.f2.f5 o.f3.f0 o.f3.f1 o.f3.f2 o.f4 from ho)] at hk
  rw [if_pos ho]
  by_cases hl : s.W.length < 1024
  ·rw [if_pos hl, if_pos ⟨ho, hl⟩]
   refine (spush_ok hd hl K _ _ _ _ _ _ _ _ _ _ _ _ hk).mono ?_
   rintro e w' ⟨rfl, F', v2, hs, hx⟩
   exact ⟨F', _, rfl, ⟨O, v2, vo, hs, h2, rfl⟩, hx⟩
  ·rw [if_neg hl, if_neg (fun e => hl e.2)]
   refine (spush_full hd hl K _ _ _ _ _ _ _ _ _ _ _ _ hk).mono ?_
   rintro e w' ⟨rfl, hs, hb⟩
   exact ⟨F, _, rfl, ⟨O, vw, vo, hs, h2, rfl⟩, SX.of_below _ _ hb⟩
 ·rw [if_neg (show ¬ RO o.f0 o.f1 o.f2.f0 o.f2.f1 o.f2.f2 o.f2.f3 o.f2.f4 o.f2.f5 o.f3.f0 o.f3.f1 o.f3.f2 o.f4 from ho)] at hk
  rw [if_neg ho, if_neg (fun e => ho e.1)]
  refine (spush_bad hd K _ _ _ _ _ _ _ _ _ _ _ _ 1 (by decide) hk).mono ?_
  rintro e w' ⟨rfl, hs, hb⟩
  exact ⟨F, _, rfl, ⟨O, vw, vo, hs, h2, rfl⟩, SX.of_below _ _ hb⟩
theorem flat_sum (B : List S48) : goneL B = (B.flatMap (fun b => b.f1)).length := by
 unfold goneL
 induction B with
 | nil => rfl
 | cons b B ih => rw [List.map_cons, List.sum_cons, List.flatMap_cons, List.length_append, ih]
theorem packA_gone (s : AS) : goneL (packA s) = s.W.length := by
 rw [flat_sum, packA, pack_flat]
 rfl
theorem send_a (h : Sn w0 w F R g wn tr s) (hk : OkA tr n s) (hn : n ≤ 900000) :
  Calls Try.prog 12 #[.pointer (some ⟨g, 0, none⟩)] w fun e w' => ∃ v F' R', e = .returned v ∧ Sn w0 w' F' R' g wn tr (sendA wn s) ∧ SX w F R w' F' R' ∧ Hr k48 48 w0 w' F' R' v (XA wn s) ∧ (∀ k, v.ownBlock = some k → w.heap.size ≤ k) ∧ k48.R 48 w' w0.heap.size (fun k => w.heap.size ≤ k ∧ ¬ R' k) v (XA wn s) := by
 obtain ⟨O, vw, vo, hd, h2, rfl⟩ := h
 obtain ⟨k1, k2, k3, k4, k5⟩ := hk
 have hf : firstL O s.nx = fstA s := by rw [fstA_dat O s.W, h2]
 have hlen : (packA s).length ≤ 1024 := by
  have h1 := packA_gone s
  have h3 : (packA s).length ≤ goneL (packA s) := by
   have hr : ∀ b ∈ packA s, 1 ≤ b.f1.length := fun b hb => (pack_right 512 (by omega) s.W (s.nx % 65536) [] (by simpa using k1) (by simp) (fun e => absurd rfl e) (by omega) (by omega) b hb).1.2.1.1
   generalize packA s = B at hr ⊢
   unfold goneL
   induction B with
   | nil => simp
   | cons b B ih =>
    have := hr b List.mem_cons_self
    have := ih (fun x hx => hr x (List.mem_cons_of_mem _ hx))
    rw [List.map_cons, List.sum_cons, List.length_cons]
    omega
  omega
 refine (ssend_s hd k2 (by have := dat_len O; rw [h2] at this; omega) 3 (packA s) rfl k1 (by omega) hlen (fun b => decide (far (fstA s) b.f0 < wn)) (fun b hb => ?_) (by rw [packA_gone]; exact Nat.le_refl _)).mono ?_
 ·rw [hf]
  unfold serial_Within.f
  rw [serial_Far_eq]
  rfl
 ·rintro e w' ⟨v, F', vw', vo', O', rfl, hs, hx, hr, ho, hda⟩
  refine ⟨v, F', _, rfl, ⟨O', vw', vo', hs, ?_, rfl⟩, hx, ⟨Kd.R_mono hr (fun k hk => hk.2), fun k hk => (ho k hk).2⟩, fun k hk => (ho k hk).1, hr⟩
  rw [hda, h2]
  rfl
theorem again_a (h : Sn w0 w F R g wn tr s) (hk : OkA tr n s) (hn : n ≤ 900000) (ht : tr ≤ 100) :
  Calls Try.prog 13 #[.pointer (some ⟨g, 0, none⟩)] w fun e w' => ∃ v R', e = .returned (.tuple #[v, .bool (decide (¬ fullA tr s))]) ∧ Sn w0 w' F R' g wn tr (againA tr s) ∧ SX w F R w' F R' ∧ Hr k48 48 w0 w' F R' v (againL tr s) ∧ ∀ k, v.ownBlock = some k → w.heap.size ≤ k := by
 obtain ⟨O, vw, vo, hd, h2, rfl⟩ := h
 obtain ⟨k1, k2, k3, k4, k5⟩ := hk
 have hol : O.length ≤ 1000000 := by have := dat_len O; rw [h2] at this; omega
 have hob : ∀ o ∈ O, 0 ≤ o.2 ∧ o.2 ≤ 1000000 := fun o ho => by
  have := dat_mem (O := O) (Q := fun x => 0 ≤ x ∧ x ≤ tr) (by rw [h2]; exact k4) o ho
  omega
 unfold againA againL
 by_cases hq : fullA tr s
 ·rw [if_pos hq, if_pos hq, decide_eq_false (fun e => e hq)]
  obtain ⟨d, hd1, hd2⟩ := hq
  rw [← h2] at hd1
  obtain ⟨o, ho, rfl⟩ := List.mem_map.1 hd1
  refine (sagain_bad hd hol hob ⟨o, ho, hd2⟩).mono ?_
  rintro e w' ⟨rfl, hb⟩
  exact ⟨_, _, rfl, ⟨O, vw, vo, hd.below hb, h2, rfl⟩, SX.of_below _ _ hb, Hr.nil _ _ _ _ _ _, fun k hk => by simp [Value.ownBlock] at hk⟩
 ·rw [if_neg hq, if_neg hq, decide_eq_true hq]
  refine (sagain_ok hd hol hob (fun o ho e => hq ⟨_, by rw [← h2]; exact List.mem_map_of_mem ho, e⟩)).mono ?_
  rintro e w' ⟨v, rfl, hs, hx, hr, ho⟩
  refine ⟨v, _, rfl, ⟨bumpA O, vw, vo, hs, by rw [dat_bump, h2], rfl⟩, hx, ⟨?_, fun k hk => (ho k hk).2⟩, fun k hk => (ho k hk).1⟩
  rw [dat_b, h2] at hr
  refine Kd.R_mono hr (fun k hk hR => ?_)
  have hR2 : Wr g vw vo O k := Wr.bump (O2 := bumpA O) (by unfold bumpA; rw [List.map_map]; rfl) k hR
  rcases hk with e | e
  ·have := hd.lt k (hd.wr k hR2); omega
  ·exact e.2 hR2
theorem got_a (h : Sn w0 w F R g wn tr s) (hk : OkA tr n s) (hn : n ≤ 900000) (a : S36) :
  Calls Try.prog 14 #[.pointer (some ⟨g, 0, none⟩), ackV a] w fun e w' => ∃ R', e = .returned (.int .i64 ((s.D.length : Int) - ((gotA a s).D.length : Int))) ∧ Sn w0 w' F R' g wn tr (gotA a s) ∧ SX w F R w' F R' := by
 obtain ⟨O, vw, vo, hd, h2, rfl⟩ := h
 obtain ⟨k1, k2, k3, k4, k5⟩ := hk
 have hol : O.length ≤ 1000000 := by have := dat_len O; rw [h2] at this; omega
 have hf : firstL O s.nx = fstA s := by rw [fstA_dat O s.W, h2]
 unfold gotA
 by_cases t1 : SA a
 ·obtain ⟨K2, hh⟩ := Ev.all (g := fun (o : It × Int) k => ack_Has.f k a.f0 a.f1 a.f2 a.f3 o.1.b.f0) (r := fun o => hasA a o.1.b.f0) O (fun o _ => has_ev a o.1.b.f0)
  refine (sgot_in hd hol (K2 + 3) a.f0 a.f1 a.f2 a.f3 t1 (far (fstA s) a.f2) (far (fstA s) s.nx) (by rw [hf, serial_Far_eq]) (by rw [hf, serial_Far_eq]) (hasA a) (fun o ho => hh _ (by omega) o ho)).mono ?_
  rintro e w' (⟨t2, rfl, hb⟩ | ⟨t2, vo', rfl, hs, hx⟩)
  ·rw [if_neg (fun h => h.2 t2), Int.sub_self]
   exact ⟨_, rfl, ⟨O, vw, vo, hd.below hb, h2, rfl⟩, SX.of_below _ _ hb⟩
  ·rw [if_pos ⟨t1, t2⟩]
   have hdf := dat_filter O (hasA a)
   rw [h2] at hdf
   refine ⟨_, ?_, ⟨_, vw, vo', hs, hdf, rfl⟩, hx⟩
   rw [← dat_len, ← dat_len, hdf, h2]
   rfl
 ·rw [if_neg (fun h => t1 h.1), Int.sub_self]
  refine (sgot_bad hd a.f0 a.f1 a.f2 a.f3 t1).mono ?_
  rintro e w' ⟨rfl, hb⟩
  exact ⟨_, rfl, ⟨O, vw, vo, hd.below hb, h2, rfl⟩, SX.of_below _ _ hb⟩
theorem wait_a (h : Sn w0 w F R g wn tr s) (hk : OkA tr n s) :
  Calls Try.prog 23 #[.pointer (some ⟨g, 0, none⟩)] w fun e w' => ∃ v, e = .returned v ∧ k34.R 34 w' w.heap.size (fun _ => True) v s.W ∧ Below w.heap.size w w' := by
 obtain ⟨O, vw, vo, hd, h2, rfl⟩ := h
 exact swait_s hd hk.2.1
theorem out_a (h : Sn w0 w F R g wn tr s) (hk : OkA tr n s) (hn : n ≤ 900000) :
  Calls Try.prog 15 #[.pointer (some ⟨g, 0, none⟩)] w fun e w' => ∃ v, e = .returned v ∧ Below w.heap.size w w' ∧ Hr k48 48 w0 w' F R v (s.D.map Prod.fst) ∧ ∀ k, v.ownBlock = some k → w.heap.size ≤ k := by
 obtain ⟨O, vw, vo, hd, h2, rfl⟩ := h
 have hol : O.length ≤ 1000000 := by have := dat_len O; rw [h2] at this; have := hk.2.2.1; omega
 refine (sout_s hd hol).mono ?_
 rintro e w' ⟨v, rfl, ho⟩
 have hr := ho.row
 rw [dat_b, h2] at hr
 refine ⟨v, rfl, ho.bl, ⟨Kd.R_mono hr (fun k hk hR => ?_), fun k hk hF => ?_⟩, ho.own⟩
 ·rcases hk with e | e
  ·have := hd.lt k (hd.wr k hR); omega
  ·exact e.2 hR
 ·have := ho.own k hk
  have := hd.lt k hF
  omega
end
theorem nextN_eq (a : Int) (h : -9223372036854775808 ≤ a ∧ a ≤ 9223372036854775807) : nextN a = nx a := Option.some.inj ((nxt_eq a).symm.trans (next_eq a h))
theorem nextN_range (a : Int) : 0 ≤ nextN a ∧ nextN a ≤ 65535 := by
 unfold nextN
 have hu : ∀ x : Int, IntKind.u16.wrap x = x % 65536 := fun x => by simp [IntKind.wrap, IntKind.bits, IntKind.signed]
 rw [hu, hu, w64 (by omega) (by omega)]
 omega
theorem nextL_range : ∀ (X : List S48) (n : Int), 0 ≤ n ∧ n ≤ 65535 → 0 ≤ nextL n X ∧ nextL n X ≤ 65535 := by
 intro X
 induction X with
 | nil => intro n h; exact h
 | cons b X ih => intro n h; exact ih _ (nextN_range _)
theorem XA_len {wn : Int} {s : AS} (h : Rights s.W) : (XA wn s).length ≤ s.W.length := by
 have h1 := packA_gone s
 have hr : ∀ b ∈ packA s, 1 ≤ b.f1.length := fun b hb => (pack_right 512 (by omega) s.W (s.nx % 65536) [] (by simpa using h) (by simp) (fun e => absurd rfl e) (by omega) (by omega) b hb).1.2.1.1
 have h2 : (packA s).length ≤ goneL (packA s) := by
  generalize packA s = B at hr ⊢
  unfold goneL
  induction B with
  | nil => simp
  | cons b B ih =>
   have := hr b List.mem_cons_self
   have := ih (fun x hx => hr x (List.mem_cons_of_mem _ hx))
   rw [List.map_cons, List.sum_cons, List.length_cons]
   omega
 have h3 : (XA wn s).length ≤ (packA s).length := (List.takeWhile_prefix _).length_le
 omega
section
variable {tr : Int} {n : Nat} {s : AS}
theorem OkA.nil (tr : Int) (n : Nat) : OkA tr n ⟨[], [], 0⟩ := ⟨(fun o ho => by cases ho), by decide, Nat.zero_le _, (fun d hd => by cases hd), by decide⟩
theorem OkA.more (h : OkA tr n s) {m : Nat} (hm : n ≤ m) : OkA tr m s := ⟨h.1, h.2.1, Nat.le_trans h.2.2.1 hm, h.2.2.2⟩
theorem OkA.push (h : OkA tr n s) (o : S34) : OkA tr n (pushA o s) := by
 unfold pushA
 split
 ·rename_i hc
  refine ⟨fun x hx => ?_, ?_, h.2.2.1, h.2.2.2⟩
  ·rcases List.mem_append.1 hx with hx | hx
   ·exact h.1 x hx
   ·rw [List.mem_singleton.1 hx]; exact hc.1
  ·show (s.W ++ [o]).length ≤ 1024
   rw [List.length_append]
   have := hc.2
   simp
   omega
 ·exact h
theorem OkA.send (h : OkA tr n s) (wn : Int) (ht : 1 ≤ tr) : OkA tr (n + 1024) (sendA wn s) := by
 refine ⟨fun x hx => h.1 x (List.mem_of_mem_drop hx), ?_, ?_, fun d hd => ?_, nextL_range _ _ h.2.2.2.2⟩
 ·show (s.W.drop _).length ≤ 1024
  rw [List.length_drop]
  have := h.2.1
  omega
 ·show (s.D ++ (XA wn s).map _).length ≤ n + 1024
  rw [List.length_append, List.length_map]
  have := h.2.2.1
  have := XA_len (wn := wn) h.1
  have := h.2.1
  omega
 ·rcases List.mem_append.1 (show d ∈ s.D ++ (XA wn s).map (fun b => (b, 1)) from hd) with hd | hd
  ·exact h.2.2.2.1 d hd
  ·obtain ⟨b, _, rfl⟩ := List.mem_map.1 hd
   exact ⟨by show (0 : Int) ≤ 1; decide, ht⟩
theorem OkA.again (h : OkA tr n s) : OkA tr n (againA tr s) := by
 unfold againA
 split
 ·exact h
 ·rename_i hf
  refine ⟨h.1, h.2.1, by show (s.D.map _).length ≤ n; rw [List.length_map]; exact h.2.2.1, fun d hd => ?_, h.2.2.2.2⟩
  obtain ⟨e, he, rfl⟩ := List.mem_map.1 (show d ∈ s.D.map (fun d => (d.1, d.2 + 1)) from hd)
  have h1 := h.2.2.2.1 e he
  have h2 : ¬ e.2 ≥ tr := fun x => hf ⟨e, he, x⟩
  exact ⟨by show 0 ≤ e.2 + 1; omega, by show e.2 + 1 ≤ tr; omega⟩
theorem OkA.got (h : OkA tr n s) (a : S36) : OkA tr n (gotA a s) := by
 unfold gotA
 split
 ·exact ⟨h.1, h.2.1, Nat.le_trans (List.length_filter_le _ _) h.2.2.1, fun d hd => h.2.2.2.1 d (List.mem_filter.1 hd).1, h.2.2.2.2⟩
 ·exact h
end
theorem pack_one (o : S34) (D : List (S48 × Int)) (n : Int) : packA ⟨[o], D, n⟩ = [⟨n % 65536, [o]⟩] := by
 unfold packA
 rw [pack_fit (fit_nil (by decide) o), pack_nil _ _ _ (by simp)]
 rfl
theorem XA_one (o : S34) (wn : Int) (h : 1 ≤ wn) : XA wn ⟨[o], [], 0⟩ = [⟨0, [o]⟩] := by
 unfold XA
 rw [pack_one]
 have : far 0 0 < wn := by unfold far; omega
 simp [fstA, this]
theorem send_one (o : S34) (wn : Int) (h : 1 ≤ wn) : sendA wn ⟨[o], [], 0⟩ = ⟨[], [(⟨0, [o]⟩, 1)], 1⟩ := by
 unfold sendA
 rw [XA_one o wn h]
 have h1 : nextL 0 [(⟨0, [o]⟩ : S48)] = 1 := (nextN_eq 0 (by decide)).trans (by decide)
 have h2 : goneL [(⟨0, [o]⟩ : S48)] = 1 := rfl
 simp only [h1, h2, List.drop_succ_cons, List.drop_zero, List.nil_append, List.map_cons, List.map_nil]
theorem again_one (b : S48) (tr c n : Int) (h : c < tr) : againA tr ⟨[], [(b, c)], n⟩ = ⟨[], [(b, c + 1)], n⟩ ∧ againL tr ⟨[], [(b, c)], n⟩ = [b] ∧ ¬ fullA tr ⟨[], [(b, c)], n⟩ := by
 have hf : ¬ fullA tr ⟨[], [(b, c)], n⟩ := by
  rintro ⟨d, hd, h2⟩
  rw [List.mem_singleton.1 hd] at h2
  have : c ≥ tr := h2
  omega
 unfold againA againL
 rw [if_neg hf, if_neg hf]
 exact ⟨rfl, rfl, hf⟩
theorem again_full (b : S48) (tr c n : Int) (h : tr ≤ c) : againA tr ⟨[], [(b, c)], n⟩ = ⟨[], [(b, c)], n⟩ ∧ againL tr ⟨[], [(b, c)], n⟩ = [] ∧ fullA tr ⟨[], [(b, c)], n⟩ := by
 have hf : fullA tr ⟨[], [(b, c)], n⟩ := ⟨_, List.mem_singleton.2 rfl, h⟩
 unfold againA againL
 rw [if_pos hf, if_pos hf]
 exact ⟨rfl, rfl, hf⟩
theorem again_none (tr n : Int) : againA tr ⟨[], [], n⟩ = ⟨[], [], n⟩ ∧ againL tr ⟨[], [], n⟩ = [] ∧ ¬ fullA tr ⟨[], [], n⟩ := by
 have hf : ¬ fullA tr ⟨[], [], n⟩ := by rintro ⟨d, hd, _⟩; cases hd
 unfold againA againL
 rw [if_neg hf, if_neg hf]
 exact ⟨rfl, rfl, hf⟩
theorem got_one (o : S34) (c : Int) : gotA ⟨0, 0, 1, 0⟩ ⟨[], [(⟨0, [o]⟩, c)], 1⟩ = ⟨[], [], 1⟩ := by
 unfold gotA
 rw [if_pos ⟨by decide, by show ¬ far 0 1 > far 0 1; omega⟩]
 have : hasA ⟨0, 0, 1, 0⟩ 0 = true := by decide
 simp [hasA', this]
abbrev oEx : S34 := (⟨1, 5, ⟨false, 0, 0, 0, 0, 0⟩, ⟨0, 0, 0⟩, 0⟩ : S34)
theorem oEx_right : OR oEx := by
 show RO 1 5 false 0 0 0 0 0 0 0 0 0
 decide
section
variable {w0 w : World} {F R : Nat → Prop} {g : Nat}
theorem aw_push (h : Sn w0 w F R g 1 2 ⟨[], [], 0⟩) : Calls Try.prog 11 #[.pointer (some ⟨g, 0, none⟩), .agg #[.int .i64 1, .int .i64 5, .bool false, .int .i64 0, .int .i64 0, .int .i64 0, .int .i64 0, .int .i64 0, .int .i64 0, .int .i64 0, .int .i64 0, .int .i64 0]] w fun e w' => ∃ F' R', e = .returned (.int .i64 0) ∧ Sn w0 w' F' R' g 1 2 ⟨[oEx], [], 0⟩ := by
 refine (push_a h oEx).mono ?_
 rintro e w' ⟨F', R', rfl, hn, _⟩
 have e1 : pushE oEx ⟨[], [], 0⟩ = 0 := by unfold pushE; rw [if_pos oEx_right, if_pos (by decide)]
 have e2 : pushA oEx ⟨[], [], 0⟩ = ⟨[oEx], [], 0⟩ := by unfold pushA; rw [if_pos ⟨oEx_right, by decide⟩]; rfl
 rw [e1]
 rw [e2] at hn
 exact ⟨F', R', rfl, hn⟩
theorem ok_one (o : S34) (ho : OR o) (tr : Int) : OkA tr 1 ⟨[o], [], 0⟩ := ⟨fun x hx => by rw [List.mem_singleton.1 hx]; exact ho, by show 1 ≤ 1024; decide, Nat.zero_le _, (fun d hd => by cases hd), by show (0 : Int) ≤ 0 ∧ (0 : Int) ≤ 65535; decide⟩
theorem ok_out (b : S48) (tr c n : Int) (h : 0 ≤ c ∧ c ≤ tr) (hn : 0 ≤ n ∧ n ≤ 65535) : OkA tr 1 ⟨[], [(b, c)], n⟩ := ⟨(fun x hx => by cases hx), Nat.zero_le _, Nat.le_refl _, fun d hd => by rw [List.mem_singleton.1 hd]; exact h, hn⟩
theorem ok_none (tr n : Int) (hn : 0 ≤ n ∧ n ≤ 65535) : OkA tr 1 ⟨[], [], n⟩ := ⟨(fun x hx => by cases hx), Nat.zero_le _, Nat.zero_le _, (fun d hd => by cases hd), hn⟩
theorem one_send {wn tr : Int} {o : S34} (ho : OR o) (hw : 1 ≤ wn) (h : Sn w0 w F R g wn tr ⟨[o], [], 0⟩) : Calls Try.prog 12 #[.pointer (some ⟨g, 0, none⟩)] w fun e w' => ∃ A c F' R', e = .returned (.slice A 1 c) ∧ Sn w0 w' F' R' g wn tr ⟨[], [(⟨0, [o]⟩, 1)], 1⟩ ∧ Hr k48 48 w0 w' F' R' (.slice A 1 c) [⟨0, [o]⟩] := by
 refine (send_a h (ok_one o ho tr) (by decide)).mono ?_
 rintro e w' ⟨v, F', R', rfl, hn, _, hr, _⟩
 rw [send_one o wn hw] at hn
 rw [XA_one o wn hw] at hr
 obtain ⟨A, c, rfl⟩ := Kd.R_slice hr.1
 exact ⟨A, c, F', R', rfl, hn, hr⟩
theorem one_again {wn tr c : Int} {b : S48} (hc : 0 ≤ c ∧ c < tr) (ht : tr ≤ 100) (h : Sn w0 w F R g wn tr ⟨[], [(b, c)], 1⟩) : Calls Try.prog 13 #[.pointer (some ⟨g, 0, none⟩)] w fun e w' => ∃ A k R', e = .returned (.tuple #[.slice A 1 k, .bool true]) ∧ Sn w0 w' F R' g wn tr ⟨[], [(b, c + 1)], 1⟩ ∧ SX w F R w' F R' ∧ Hr k48 48 w0 w' F R' (.slice A 1 k) [b] := by
 obtain ⟨e1, e2, e3⟩ := again_one b tr c 1 hc.2
 refine (again_a h (ok_out b tr c 1 (by omega) (by decide)) (by decide) ht).mono ?_
 rintro e w' ⟨v, R', rfl, hn, hx, hr, _⟩
 rw [decide_eq_true e3]
 rw [e1] at hn
 rw [e2] at hr
 obtain ⟨A, k, rfl⟩ := Kd.R_slice hr.1
 exact ⟨A, k, R', rfl, hn, hx, hr⟩
theorem one_full {wn tr c : Int} {b : S48} (hc : 0 ≤ c ∧ c = tr) (ht : tr ≤ 100) (h : Sn w0 w F R g wn tr ⟨[], [(b, c)], 1⟩) : Calls Try.prog 13 #[.pointer (some ⟨g, 0, none⟩)] w fun e w' => ∃ A k R', e = .returned (.tuple #[.slice A 0 k, .bool false]) ∧ Sn w0 w' F R' g wn tr ⟨[], [(b, c)], 1⟩ ∧ SX w F R w' F R' := by
 obtain ⟨e1, e2, e3⟩ := again_full b tr c 1 (by omega)
 refine (again_a h (ok_out b tr c 1 (by omega) (by decide)) (by decide) ht).mono ?_
 rintro e w' ⟨v, R', rfl, hn, hx, hr, _⟩
 rw [decide_eq_false (fun h => h e3)]
 rw [e1] at hn
 rw [e2] at hr
 obtain ⟨A, k, rfl⟩ := Kd.R_slice hr.1
 exact ⟨A, k, R', rfl, hn, hx⟩
theorem one_none {wn tr : Int} (ht : tr ≤ 100) (h : Sn w0 w F R g wn tr ⟨[], [], 1⟩) : Calls Try.prog 13 #[.pointer (some ⟨g, 0, none⟩)] w fun e w' => ∃ A k R', e = .returned (.tuple #[.slice A 0 k, .bool true]) ∧ Sn w0 w' F R' g wn tr ⟨[], [], 1⟩ ∧ SX w F R w' F R' := by
 obtain ⟨e1, e2, e3⟩ := again_none tr 1
 refine (again_a h (ok_none tr 1 (by decide)) (by decide) ht).mono ?_
 rintro e w' ⟨v, R', rfl, hn, hx, hr, _⟩
 rw [decide_eq_true e3]
 rw [e1] at hn
 rw [e2] at hr
 obtain ⟨A, k, rfl⟩ := Kd.R_slice hr.1
 exact ⟨A, k, R', rfl, hn, hx⟩
theorem one_got {wn tr c : Int} {o : S34} (hc : 0 ≤ c ∧ c ≤ tr) (h : Sn w0 w F R g wn tr ⟨[], [(⟨0, [o]⟩, c)], 1⟩) : Calls Try.prog 14 #[.pointer (some ⟨g, 0, none⟩), .agg #[.int .i64 0, .int .i64 0, .int .i64 1, .int .i64 0]] w fun e w' => ∃ R', e = .returned (.int .i64 1) ∧ Sn w0 w' F R' g wn tr ⟨[], [], 1⟩ ∧ SX w F R w' F R' := by
 refine (got_a h (ok_out _ tr c 1 (by omega) (by decide)) (by decide) ⟨0, 0, 1, 0⟩).mono ?_
 rintro e w' ⟨R', rfl, hn, hx⟩
 rw [got_one o c] at hn ⊢
 exact ⟨R', rfl, hn, hx⟩
theorem aw_send (h : Sn w0 w F R g 1 2 ⟨[oEx], [], 0⟩) : Calls Try.prog 12 #[.pointer (some ⟨g, 0, none⟩)] w fun e w' => ∃ A c F' R', e = .returned (.slice A 1 c) ∧ Sn w0 w' F' R' g 1 2 ⟨[], [(⟨0, [oEx]⟩, 1)], 1⟩ ∧ Hr k48 48 w0 w' F' R' (.slice A 1 c) [⟨0, [oEx]⟩] := one_send oEx_right (by decide) h
theorem aw_again1 (h : Sn w0 w F R g 1 2 ⟨[], [(⟨0, [oEx]⟩, 1)], 1⟩) : Calls Try.prog 13 #[.pointer (some ⟨g, 0, none⟩)] w fun e w' => ∃ A k R', e = .returned (.tuple #[.slice A 1 k, .bool true]) ∧ Sn w0 w' F R' g 1 2 ⟨[], [(⟨0, [oEx]⟩, 2)], 1⟩ ∧ SX w F R w' F R' :=
 (one_again (by decide) (by decide) h).mono (fun _ _ ⟨A, k, R', e, h1, h2, _⟩ => ⟨A, k, R', e, h1, h2⟩)
theorem aw_again2 (h : Sn w0 w F R g 1 2 ⟨[], [(⟨0, [oEx]⟩, 2)], 1⟩) : Calls Try.prog 13 #[.pointer (some ⟨g, 0, none⟩)] w fun e w' => ∃ A k R', e = .returned (.tuple #[.slice A 0 k, .bool false]) ∧ Sn w0 w' F R' g 1 2 ⟨[], [(⟨0, [oEx]⟩, 2)], 1⟩ ∧ SX w F R w' F R' := one_full (by decide) (by decide) h
theorem aw_got (h : Sn w0 w F R g 1 2 ⟨[], [(⟨0, [oEx]⟩, 2)], 1⟩) : Calls Try.prog 14 #[.pointer (some ⟨g, 0, none⟩), .agg #[.int .i64 0, .int .i64 0, .int .i64 1, .int .i64 0]] w fun e w' => ∃ R', e = .returned (.int .i64 1) ∧ Sn w0 w' F R' g 1 2 ⟨[], [], 1⟩ ∧ SX w F R w' F R' := one_got (by decide) h
theorem aw_again3 (h : Sn w0 w F R g 1 2 ⟨[], [], 1⟩) : Calls Try.prog 13 #[.pointer (some ⟨g, 0, none⟩)] w fun e w' => ∃ A k R', e = .returned (.tuple #[.slice A 0 k, .bool true]) ∧ Sn w0 w' F R' g 1 2 ⟨[], [], 1⟩ ∧ SX w F R w' F R' := one_none (by decide) h
end
theorem awake_a (w : World) : Calls Try.prog 10 #[] w fun e w' => e = .returned (.bool true) ∧ Below w.heap.size w w' := by
 go_enter Try.func10, Try.ntmps10
 go_wp2_with (first
  | (go_at_call 9; (with_reducible refine (new_a (Below.refl _ _) 1 2 (by decide) (by decide) (by decide) (by decide)).mono ?_); rintro x_ w1 ⟨g, F1, R1, rfl, hn, hb, _⟩; have M1 := Aside0.mk hn; have B1 := Aside0.mk hb; clear hn hb)
  | (go_at_call 11; (with_reducible refine (aw_push M1.out).mono ?_); rintro x_ w2 ⟨F2, R2, rfl, hn⟩; have M2 := Aside0.mk hn; clear hn)
  | (go_at_call 12; (with_reducible refine (aw_send M2.out).mono ?_); rintro x_ w3 ⟨A3, c3, F3, R3, rfl, hn, hr⟩; have M3 := Aside0.mk hn; have HR3 := Aside0.mk hr; clear hn hr)
  | (go_at_call 13; (with_reducible refine (aw_again1 M3.out).mono ?_); rintro x_ w4 ⟨A4, c4, R4, rfl, hn, hx⟩; have M4 := Aside0.mk hn; have HR4 := Aside0.mk (HR3.out.step hx); clear hn hx)
  | (go_at_call 13; (with_reducible refine (aw_again2 M4.out).mono ?_); rintro x_ w5 ⟨A5, c5, R5, rfl, hn, hx⟩; have M5 := Aside0.mk hn; have HR5 := Aside0.mk (HR4.out.step hx); clear hn hx)
  | (go_at_call 14; (with_reducible refine (aw_got M5.out).mono ?_); rintro x_ w6 ⟨R6, rfl, hn, hx⟩; have M6 := Aside0.mk hn; have HR6 := Aside0.mk (HR5.out.step hx); clear hn hx)
  | (go_at_call 13; (with_reducible refine (aw_again3 M6.out).mono ?_); rintro x_ w7 ⟨A7, c7, R7, rfl, hn, hx⟩; have M7 := Aside0.mk hn; have HR7 := Aside0.mk (HR6.out.step hx); clear hn hx; obtain ⟨ad, A8, c8, e_, z0, _, _, _⟩ := at_T48 (Kd.R_reads' HR7.out.1).2.2 0 (Int.le_refl _) (by decide); cases e_; have e0 : ad.add ((0 : Int).toNat * 2) = ad := (by show ad.add 0 = ad; cases ad; simp [Addr.add]); rw [e0] at z0; replace z0 : w7.cell? ad = some (.int .i64 0) := z0; clear e0))
 go_ret
 exact ⟨rfl, M7.out.bl⟩
end Go.Proofs.Ytclbempnhelmoaa.P
namespace Go.Proofs.Ytclbempnhelmoaa.P
open Go.RowKit YtclbempnhelmoaaW.PrintWords YtclbempnhelmoaaW.PrintLast YtclbempnhelmoaaW.PrintMore
theorem cells17 {w : World} {g t : Nat} {v0 v1 v2 v3 v4 v5 v6 v7 v8 v9 v10 v11 v12 v13 v14 v15 v16 : Value} (h : w.heap[g]? = some (.cells #[v0, v1, v2, v3, v4, v5, v6, v7, v8, v9, v10, v11, v12, v13, v14, v15, v16] t (0, 0))) : w.cell? ⟨g, 0, none⟩ = some v0 ∧ w.cell? ⟨g, 1, none⟩ = some v1 ∧ w.cell? ⟨g, 2, none⟩ = some v2 ∧ w.cell? ⟨g, 3, none⟩ = some v3 ∧ w.cell? ⟨g, 4, none⟩ = some v4 ∧ w.cell? ⟨g, 5, none⟩ = some v5 ∧ w.cell? ⟨g, 6, none⟩ = some v6 ∧ w.cell? ⟨g, 7, none⟩ = some v7 ∧ w.cell? ⟨g, 8, none⟩ = some v8 ∧ w.cell? ⟨g, 9, none⟩ = some v9 ∧ w.cell? ⟨g, 10, none⟩ = some v10 ∧ w.cell? ⟨g, 11, none⟩ = some v11 ∧ w.cell? ⟨g, 12, none⟩ = some v12 ∧ w.cell? ⟨g, 13, none⟩ = some v13 ∧ w.cell? ⟨g, 14, none⟩ = some v14 ∧ w.cell? ⟨g, 15, none⟩ = some v15 ∧ w.cell? ⟨g, 16, none⟩ = some v16 := ⟨(blk_cell h 0).trans rfl, (blk_cell h 1).trans rfl, (blk_cell h 2).trans rfl, (blk_cell h 3).trans rfl, (blk_cell h 4).trans rfl, (blk_cell h 5).trans rfl, (blk_cell h 6).trans rfl, (blk_cell h 7).trans rfl, (blk_cell h 8).trans rfl, (blk_cell h 9).trans rfl, (blk_cell h 10).trans rfl, (blk_cell h 11).trans rfl, (blk_cell h 12).trans rfl, (blk_cell h 13).trans rfl, (blk_cell h 14).trans rfl, (blk_cell h 15).trans rfl, (blk_cell h 16).trans rfl⟩
theorem Hr.row {α : Type} {d : Kd α} {e : Nat} {w0 w : World} {F R : Nat → Prop} {v : Value} {xs : List α} (h : Hr d e w0 w F R v xs) : d.R e w w0.heap.size (fun k => ¬ R k) v xs := h.1
theorem Hr.own {α : Type} {d : Kd α} {e : Nat} {w0 w : World} {F R : Nat → Prop} {v : Value} {xs : List α} (h : Hr d e w0 w F R v xs) : ∀ k, v.ownBlock = some k → ¬ F k := h.2
theorem Sn.keepb {w0 w w' : World} {F R F' R' : Nat → Prop} {g : Nat} {wn tr : Int} {s : AS} {b : Nat} {o : Obj} (h : Sn w0 w F R g wn tr s) (hs : SX w F R w' F' R') (hb : w.heap[b]? = some o) (hF : ¬ F b) : w'.heap[b]? = some o ∧ ¬ F' b := by
 refine ⟨(hs.fr b (blk_lt hb) (fun hR => hF (h.rf b hR))).trans hb, fun h2 => ?_⟩
 rcases hs.fp b h2 with e | e
 ·exact hF e
 ·have := blk_lt hb
  omega
end Go.Proofs.Ytclbempnhelmoaa.P
namespace Go.Proofs.Ytclbempnhelmoaa.P
open Go.RowKit YtclbempnhelmoaaW.PrintWords YtclbempnhelmoaaW.PrintLast YtclbempnhelmoaaW.PrintMore
open YtclbempnhelmoaaW.PrintWords.Aside0 renaming mk → YA
attribute [local go_sem] max2_int min2_int max_two min_two max_three min_three max_four min_four
def thalwegref03_Left.f (a0 : Int) : Option (Int) := if (Int.tmod a0 65536) < 0 then (some (wrap64 ((Int.tmod a0 65536) + 65536))) else (some (Int.tmod a0 65536))
theorem thalwegref03_Left.calls (a0 : Int) (r : Int) (w : World) (h : thalwegref03_Left.f a0 = some r) :
  Calls Try.prog 62 #[.int .i64 a0] w fun e w' => e = .returned (.int .i64 r) ∧ Drawn0 w w' := by
 have H : (if (Int.tmod a0 65536) < 0 then (some (wrap64 ((Int.tmod a0 65536) + 65536))) else (some (Int.tmod a0 65536))) = some r := h
 clear h
 by_cases c2 : (Int.tmod a0 65536) < 0
 ·rw [if_pos c2] at H
  have c2b0 : decide ((Int.tmod a0 65536) < 0) = true := decide_eq_true c2; clear c2
  obtain rfl := Option.some.inj H
  go_enter Try.func62, Try.ntmps62
  go_wp2
  go_ret
  exact ⟨by first | rfl | (simp; done) | (simp [*]; done), by repeat (first | exact Drawn0.refl _ | apply Drawn0.step)⟩
 rw [if_neg c2] at H; have c2b0 : decide ((Int.tmod a0 65536) < 0) = false := decide_eq_false c2; clear c2
 obtain rfl := Option.some.inj H
 go_enter Try.func62, Try.ntmps62
 go_wp2
 go_ret
 exact ⟨by first | rfl | (simp; done) | (simp [*]; done), by repeat (first | exact Drawn0.refl _ | apply Drawn0.step)⟩
def thalwegref03_Next.f (a0 : Int) : Option (Int) := (thalwegref03_Left.f a0).bind fun t276 => (some (Int.tmod (wrap64 (t276 + 1)) 65536))
theorem thalwegref03_Next.calls (a0 : Int) (r : Int) (w : World) (h : thalwegref03_Next.f a0 = some r) :
  Calls Try.prog 43 #[.int .i64 a0] w fun e w' => e = .returned (.int .i64 r) ∧ Drawn0 w w' := by
 have H : ((thalwegref03_Left.f a0).bind fun t276 => (some (Int.tmod (wrap64 (t276 + 1)) 65536))) = some r := h
 clear h; replace H := Option.bind_eq_some_iff.mp H; obtain ⟨t276, A20, H⟩ := H
 replace H : (some (Int.tmod (wrap64 (t276 + 1)) 65536)) = some r := H
 have A2 := YA A20; clear A20
 obtain rfl := Option.some.inj H
 go_enter Try.func43, Try.ntmps43
 go_wp2_with (first | ((with_reducible refine gate_callee (f := 62) rfl ?_); refine goesA (some 4) Try.func62 #[.int .i64 a0] ?_; (with_reducible refine (thalwegref03_Left.calls a0 t276 _ A2.out).mono ?_); rintro e w' ⟨rfl, ⟨nd, rfl⟩⟩; refine ⟨_, rfl, ?_⟩))
 go_ret
 exact ⟨by first | rfl | (simp; done) | (simp [*]; done), by repeat (first | exact Drawn0.refl _ | apply Drawn0.step)⟩
def thalwegref04_Own.f (l0 : List (S34)) : Option ((List (S34))) := if ([] : List (S34)).length + l0.length < 1466015503701 then (some (([] : List (S34)) ++ l0)) else (none)
theorem thalwegref04_Own.calls (A0 : Option Addr) (c0 : Nat) (l0 : List (S34)) (r : List (S34)) (w : World) (hr0 : Kd.C k34 w A0 l0.length l0) (hc0 : l0.length ≤ c0) (h : thalwegref04_Own.f l0 = some r) :
  Calls Try.prog 44 #[.slice A0 l0.length c0] w fun e w' => ∃ v0_ : Value, e = .returned (v0_) ∧ Kd.R k34 34 w' w.heap.size (fun _ => True) v0_ r ∧ Below w.heap.size w w' := by
 have HR0 := YA hr0; have HC0 := YA hc0; clear hr0 hc0
 have HB := YA (Below.refl w.heap.size w)
 have H : (if ([] : List (S34)).length + l0.length < 1466015503701 then (some (([] : List (S34)) ++ l0)) else (none)) = some r := h
 clear h
 by_cases c2 : ([] : List (S34)).length + l0.length < 1466015503701
 rotate_left
 ·rw [if_neg c2] at H
  exact absurd H (by simp)
 rw [if_pos c2] at H; have LMc2 := YA c2; clear c2
 obtain ⟨y277, hy277⟩ : ∃ y_ : List (S34), y_ = (([] : List (S34)) ++ l0) := ⟨_, rfl⟩
 replace H : (some y277) = some r := by first | (rw [hy277]; with_reducible exact H) | (have H2_ := (Option.bind_some _ _).symm.trans H; rw [hy277]; with_reducible exact H2_) | (have H2_ := (Option.bind_some _ _).symm.trans H; with_reducible exact H2_) | with_reducible exact H | (rw [hy277]; exact H) | exact H
 have Ny277 := YA hy277; clear hy277
 obtain rfl := Option.some.inj H
 go_enter Try.func44, Try.ntmps44
 go_wp2_with (first | ((with_reducible refine gate_builtin (b := .append) (xs := #[.tmp 4, .tmp 5]) rfl ?_); at_builtin; refine Kd.R_append_rows k34 (w0 := w) w.heap.size rfl (.tmp 4) (.tmp 5) 46 34 (.agg #[(.int .i64 0), (.int .i64 0), (.bool false), (.int .i64 0), (.int .i64 0), (.int .i64 0), (.int .i64 0), (.int .i64 0), (.int .i64 0), (.int .i64 0), (.int .i64 0), (.int .i64 0)]) 96 rfl Try.underlying46 info34 rfl (by decide) (by omega) (.slice none 0 0) ([] : List (S34)) l0 _ _ _ (fun _ => True) (fun _ => False) rfl rfl ?aO ?aR (fun _ _ h => h) (fun _ h => h.elim) ?aF ?aB ?aS ?aL ?_; (case aR => repeat (first | exact HR0.out | (with_reducible refine Kd.C_alloc ?_ _) | (with_reducible refine Kd.C_drewN ?_ _) | (with_reducible refine Kd.C_drew ?_))); (case aB => exact (upB HB)); (case aF => exact (fun _ _ => trivial)); (case aO => exact ((Kd.R_nil _ _ _ _ (fun _ => True)))); (case aS => exact (below_size (upB HB))); (case aL => have := LMc2.out; omega); intro v278 w3 ho hb hg hat; rw [← Ny277.out] at ho; have n0_ := YA (hb); have n1_ := YA (ho); clear HB; have HB := n0_; have HO279 := n1_; clear n0_ n1_; clear ho hb hg hat))
 go_ret
 exact ⟨_, by first | rfl | (simp [errW_none, errW_some] <;> rfl) | (simp [*, errW_none, errW_some] <;> rfl), by (with_reducible repeat (first | apply Kd.R_alloc | apply Kd.R_drewN | apply Kd.R_drew)); exact HO279.out, by repeat (first | (with_reducible first | exact HB.out | apply below_alloc | apply pw_below_drewN | apply below_drew1) | exact HB.out)⟩
end Go.Proofs.Ytclbempnhelmoaa.P
namespace Go.Proofs.Ytclbempnhelmoaa.P
open Go.RowKit YtclbempnhelmoaaW.PrintWords YtclbempnhelmoaaW.PrintLast YtclbempnhelmoaaW.PrintMore
open YtclbempnhelmoaaW.PrintWords renaming below_alloc → YA, pw_below_drewN → YB, below_drew1 → YC, below_step → YD, below_size → YE, blk_cell → YF, blk_frozen → YG
open YtclbempnhelmoaaW.PrintWords.Aside0 renaming mk → YH
attribute [local go_sem] max2_int min2_int max_two min_two max_three min_three max_four min_four
def thalwegref03_Far.f (a0 : Int) (a1 : Int) : Option (Int) := (thalwegref03_Left.f a1).bind fun t390 => ((thalwegref03_Left.f a0).bind fun t391 => ((thalwegref03_Left.f (wrap64 (t390 - t391))).bind fun t392 => (some t392)))
theorem thalwegref03_Far.calls (a0 : Int) (a1 : Int) (r : Int) (w : World) (h : thalwegref03_Far.f a0 a1 = some r) :
  Calls Try.prog 42 #[.int .i64 a0, .int .i64 a1] w fun e w' => e = .returned (.int .i64 r) ∧ Drawn0 w w' := by
 have H : ((thalwegref03_Left.f a1).bind fun t390 => ((thalwegref03_Left.f a0).bind fun t391 => ((thalwegref03_Left.f (wrap64 (t390 - t391))).bind fun t392 => (some t392)))) = some r := h
 clear h; replace H := Option.bind_eq_some_iff.mp H; obtain ⟨t390, A30, H⟩ := H
 replace H : ((thalwegref03_Left.f a0).bind fun t391 => ((thalwegref03_Left.f (wrap64 (t390 - t391))).bind fun t392 => (some t392))) = some r := H
 have A3 := YH A30; clear A30; replace H := Option.bind_eq_some_iff.mp H; obtain ⟨t391, A40, H⟩ := H
 replace H : ((thalwegref03_Left.f (wrap64 (t390 - t391))).bind fun t392 => (some t392)) = some r := H
 have A4 := YH A40; clear A40; replace H := Option.bind_eq_some_iff.mp H; obtain ⟨t392, A50, H⟩ := H
 replace H : (some t392) = some r := H
 have A5 := YH A50; clear A50
 obtain rfl := Option.some.inj H
 go_enter Try.func42, Try.ntmps42
 go_wp2_with (first | ((with_reducible refine gate_callee (f := 62) rfl ?_); refine goesA (some 6) Try.func62 #[.int .i64 a1] ?_; (with_reducible refine (thalwegref03_Left.calls a1 t390 _ A3.out).mono ?_); rintro e w' ⟨rfl, ⟨nd, rfl⟩⟩; refine ⟨_, rfl, ?_⟩) | ((with_reducible refine gate_callee (f := 62) rfl ?_); refine goesA (some 8) Try.func62 #[.int .i64 a0] ?_; (with_reducible refine (thalwegref03_Left.calls a0 t391 _ A4.out).mono ?_); rintro e w' ⟨rfl, ⟨nd, rfl⟩⟩; refine ⟨_, rfl, ?_⟩) | ((with_reducible refine gate_callee (f := 62) rfl ?_); refine goesA (some 10) Try.func62 #[.int .i64 (wrap64 (t390 - t391))] ?_; (with_reducible refine (thalwegref03_Left.calls (wrap64 (t390 - t391)) t392 _ A5.out).mono ?_); rintro e w' ⟨rfl, ⟨nd, rfl⟩⟩; refine ⟨_, rfl, ?_⟩))
 go_ret
 exact ⟨by first | rfl | (simp; done) | (simp [*]; done), by repeat (first | exact Drawn0.refl _ | apply Drawn0.step)⟩
def thalwegref06_Epoch.f (a0 : Int) : Option (Bool) := if a0 ≥ 0 then (some (decide (a0 ≤ 4294967295))) else (some false)
theorem thalwegref06_Epoch.calls (a0 : Int) (r : Bool) (w : World) (h : thalwegref06_Epoch.f a0 = some r) :
  Calls Try.prog 63 #[.int .i64 a0] w fun e w' => e = .returned (.bool r) ∧ Drawn0 w w' := by
 have H : (if a0 ≥ 0 then (some (decide (a0 ≤ 4294967295))) else (some false)) = some r := h
 clear h
 by_cases c2 : a0 ≥ 0
 ·rw [if_pos c2] at H
  have c2b0 : decide (0 ≤ a0) = true := decide_eq_true c2; clear c2
  obtain rfl := Option.some.inj H
  go_enter Try.func63, Try.ntmps63
  go_wp2
  go_ret
  exact ⟨by first | rfl | (simp; done) | (simp [*]; done), by repeat (first | exact Drawn0.refl _ | apply Drawn0.step)⟩
 rw [if_neg c2] at H; have c2b0 : decide (0 ≤ a0) = false := decide_eq_false c2; clear c2
 obtain rfl := Option.some.inj H
 go_enter Try.func63, Try.ntmps63
 go_wp2
 go_ret
 exact ⟨by first | rfl | (simp; done) | (simp [*]; done), by repeat (first | exact Drawn0.refl _ | apply Drawn0.step)⟩
def thalwegref07_One.f (a0_0 : Int) (a0_1 : Int) (a0_2 : Int) (a0_3 : Int) : Option (Bool) := if a0_0 ≥ 0 then (if a0_0 < 64 then ((thalwegref06_Epoch.f a0_1).bind fun t394 => (if t394 = true then (if a0_2 ≥ 0 then (if a0_2 ≤ 65535 then (if a0_3 ≥ 0 then (some (decide (a0_3 ≤ 65535))) else (some false)) else (some false)) else (some false)) else (some false))) else (some false)) else (some false)
theorem thalwegref07_One.calls (a0_0 : Int) (a0_1 : Int) (a0_2 : Int) (a0_3 : Int) (r : Bool) (w : World) (h : thalwegref07_One.f a0_0 a0_1 a0_2 a0_3 = some r) :
  Calls Try.prog 45 #[.agg #[.int .i64 a0_0, .int .i64 a0_1, .int .i64 a0_2, .int .i64 a0_3]] w fun e w' => e = .returned (.bool r) ∧ Below w.heap.size w w' := by
 have hu36 := Try.underlying36
 have HB := YH (Below.refl w.heap.size w)
 have H : (if a0_0 ≥ 0 then (if a0_0 < 64 then ((thalwegref06_Epoch.f a0_1).bind fun t394 => (if t394 = true then (if a0_2 ≥ 0 then (if a0_2 ≤ 65535 then (if a0_3 ≥ 0 then (some (decide (a0_3 ≤ 65535))) else (some false)) else (some false)) else (some false)) else (some false))) else (some false)) else (some false)) = some r := h
 clear h
 by_cases c2 : a0_0 ≥ 0
 ·rw [if_pos c2] at H
  have c2b0 : decide (0 ≤ a0_0) = true := decide_eq_true c2; clear c2
  by_cases c3 : a0_0 < 64
  ·rw [if_pos c3] at H
   have c3b0 : decide (a0_0 < 64) = true := decide_eq_true c3; clear c3; replace H := Option.bind_eq_some_iff.mp H; obtain ⟨t394, A40, H⟩ := H
   replace H : (if t394 = true then (if a0_2 ≥ 0 then (if a0_2 ≤ 65535 then (if a0_3 ≥ 0 then (some (decide (a0_3 ≤ 65535))) else (some false)) else (some false)) else (some false)) else (some false)) = some r := H
   have A4 := YH A40; clear A40
   by_cases c5 : t394 = true
   ·subst c5
    have H1 : (if a0_2 ≥ 0 then (if a0_2 ≤ 65535 then (if a0_3 ≥ 0 then (some (decide (a0_3 ≤ 65535))) else (some false)) else (some false)) else (some false)) = some r := by rw [if_pos rfl] at H; exact H
    clear H
    have H := H1
    clear H1
    by_cases c6 : a0_2 ≥ 0
    ·rw [if_pos c6] at H
     have c6b0 : decide (0 ≤ a0_2) = true := decide_eq_true c6; clear c6
     by_cases c7 : a0_2 ≤ 65535
     ·rw [if_pos c7] at H
      have c7b0 : decide (a0_2 ≤ 65535) = true := decide_eq_true c7; clear c7
      by_cases c8 : a0_3 ≥ 0
      ·rw [if_pos c8] at H
       have c8b0 : decide (0 ≤ a0_3) = true := decide_eq_true c8; clear c8
       obtain rfl := Option.some.inj H
       go_enter Try.func45, Try.ntmps45
       go_wp2_with (first | ((with_reducible refine gate_dst (N := 1) rfl ?_); refine box_event ?hg (N := 1) ?hd (cs := #[.int .i64 a0_0, .int .i64 a0_1, .int .i64 a0_2, .int .i64 a0_3]) (t := 36) ?hr ?_; (case hd => rfl); (case hg => rfl); (case hr => first | (go_simp; done) | (go_simp; rfl)); intro gb393 hg w9 hbox hb; have n0_ := YH (YD (upB HB) hb); have n1_ := YH (hbox); have n2_ := YH ((by rw [hg]; exact (YE (upB HB)) : w.heap.size ≤ gb393)); have n3_ := YH ((by rw [hg]; exact (YE (upB HB)) : w.heap.size ≤ gb393)); clear HB; have HB := n0_; have BK393 := n1_; have GW393 := n2_; have GE393 := n3_; clear n0_ n1_ n2_ n3_; clear hb hbox hg; obtain ⟨q10_0, q10_1, q10_2, q10_3⟩ := cA4 BK393.out; obtain ⟨f10_0, f10_1, f10_2, f10_3⟩ := fA4 BK393.out) | (go_at_call 63; (with_reducible refine (thalwegref06_Epoch.calls a0_1 true _ A4.out).mono ?_); rintro e w' ⟨rfl, ⟨nd, rfl⟩⟩))
       go_ret
       exact ⟨by first | rfl | (simp [errW_none, errW_some] <;> rfl) | (simp [*, errW_none, errW_some] <;> rfl), by repeat (first | (with_reducible first | exact HB.out | apply YA | apply YB | apply YC | refine below_set ?_ GE393.out) | exact HB.out)⟩
      rw [if_neg c8] at H; have c8b0 : decide (0 ≤ a0_3) = false := decide_eq_false c8; clear c8
      obtain rfl := Option.some.inj H
      go_enter Try.func45, Try.ntmps45
      go_wp2_with (first | ((with_reducible refine gate_dst (N := 1) rfl ?_); refine box_event ?hg (N := 1) ?hd (cs := #[.int .i64 a0_0, .int .i64 a0_1, .int .i64 a0_2, .int .i64 a0_3]) (t := 36) ?hr ?_; (case hd => rfl); (case hg => rfl); (case hr => first | (go_simp; done) | (go_simp; rfl)); intro gb393 hg w11 hbox hb; have n0_ := YH (YD (upB HB) hb); have n1_ := YH (hbox); have n2_ := YH ((by rw [hg]; exact (YE (upB HB)) : w.heap.size ≤ gb393)); have n3_ := YH ((by rw [hg]; exact (YE (upB HB)) : w.heap.size ≤ gb393)); clear HB; have HB := n0_; have BK393 := n1_; have GW393 := n2_; have GE393 := n3_; clear n0_ n1_ n2_ n3_; clear hb hbox hg; obtain ⟨q12_0, q12_1, q12_2, q12_3⟩ := cA4 BK393.out; obtain ⟨f12_0, f12_1, f12_2, f12_3⟩ := fA4 BK393.out) | (go_at_call 63; (with_reducible refine (thalwegref06_Epoch.calls a0_1 true _ A4.out).mono ?_); rintro e w' ⟨rfl, ⟨nd, rfl⟩⟩))
      go_ret
      exact ⟨by first | rfl | (simp [errW_none, errW_some] <;> rfl) | (simp [*, errW_none, errW_some] <;> rfl), by repeat (first | (with_reducible first | exact HB.out | apply YA | apply YB | apply YC | refine below_set ?_ GE393.out) | exact HB.out)⟩
     rw [if_neg c7] at H; have c7b0 : decide (a0_2 ≤ 65535) = false := decide_eq_false c7; clear c7
     obtain rfl := Option.some.inj H
     go_enter Try.func45, Try.ntmps45
     go_wp2_with (first | ((with_reducible refine gate_dst (N := 1) rfl ?_); refine box_event ?hg (N := 1) ?hd (cs := #[.int .i64 a0_0, .int .i64 a0_1, .int .i64 a0_2, .int .i64 a0_3]) (t := 36) ?hr ?_; (case hd => rfl); (case hg => rfl); (case hr => first | (go_simp; done) | (go_simp; rfl)); intro gb393 hg w13 hbox hb; have n0_ := YH (YD (upB HB) hb); have n1_ := YH (hbox); have n2_ := YH ((by rw [hg]; exact (YE (upB HB)) : w.heap.size ≤ gb393)); have n3_ := YH ((by rw [hg]; exact (YE (upB HB)) : w.heap.size ≤ gb393)); clear HB; have HB := n0_; have BK393 := n1_; have GW393 := n2_; have GE393 := n3_; clear n0_ n1_ n2_ n3_; clear hb hbox hg; obtain ⟨q14_0, q14_1, q14_2, q14_3⟩ := cA4 BK393.out; obtain ⟨f14_0, f14_1, f14_2, f14_3⟩ := fA4 BK393.out) | (go_at_call 63; (with_reducible refine (thalwegref06_Epoch.calls a0_1 true _ A4.out).mono ?_); rintro e w' ⟨rfl, ⟨nd, rfl⟩⟩))
     go_ret
     exact ⟨by first | rfl | (simp [errW_none, errW_some] <;> rfl) | (simp [*, errW_none, errW_some] <;> rfl), by repeat (first | (with_reducible first | exact HB.out | apply YA | apply YB | apply YC | refine below_set ?_ GE393.out) | exact HB.out)⟩
    rw [if_neg c6] at H; have c6b0 : decide (0 ≤ a0_2) = false := decide_eq_false c6; clear c6
    obtain rfl := Option.some.inj H
    go_enter Try.func45, Try.ntmps45
    go_wp2_with (first | ((with_reducible refine gate_dst (N := 1) rfl ?_); refine box_event ?hg (N := 1) ?hd (cs := #[.int .i64 a0_0, .int .i64 a0_1, .int .i64 a0_2, .int .i64 a0_3]) (t := 36) ?hr ?_; (case hd => rfl); (case hg => rfl); (case hr => first | (go_simp; done) | (go_simp; rfl)); intro gb393 hg w15 hbox hb; have n0_ := YH (YD (upB HB) hb); have n1_ := YH (hbox); have n2_ := YH ((by rw [hg]; exact (YE (upB HB)) : w.heap.size ≤ gb393)); have n3_ := YH ((by rw [hg]; exact (YE (upB HB)) : w.heap.size ≤ gb393)); clear HB; have HB := n0_; have BK393 := n1_; have GW393 := n2_; have GE393 := n3_; clear n0_ n1_ n2_ n3_; clear hb hbox hg; obtain ⟨q16_0, q16_1, q16_2, q16_3⟩ := cA4 BK393.out; obtain ⟨f16_0, f16_1, f16_2, f16_3⟩ := fA4 BK393.out) | (go_at_call 63; (with_reducible refine (thalwegref06_Epoch.calls a0_1 true _ A4.out).mono ?_); rintro e w' ⟨rfl, ⟨nd, rfl⟩⟩))
    go_ret
    exact ⟨by first | rfl | (simp [errW_none, errW_some] <;> rfl) | (simp [*, errW_none, errW_some] <;> rfl), by repeat (first | (with_reducible first | exact HB.out | apply YA | apply YB | apply YC | refine below_set ?_ GE393.out) | exact HB.out)⟩
   replace c5 := Bool.eq_false_iff.mpr c5
   subst c5
   have H1 : (some false) = some r := by rw [if_neg (show ¬ (false = true) by decide)] at H; exact H
   clear H
   have H := H1
   clear H1
   obtain rfl := Option.some.inj H
   go_enter Try.func45, Try.ntmps45
   go_wp2_with (first | ((with_reducible refine gate_dst (N := 1) rfl ?_); refine box_event ?hg (N := 1) ?hd (cs := #[.int .i64 a0_0, .int .i64 a0_1, .int .i64 a0_2, .int .i64 a0_3]) (t := 36) ?hr ?_; (case hd => rfl); (case hg => rfl); (case hr => first | (go_simp; done) | (go_simp; rfl)); intro gb393 hg w17 hbox hb; have n0_ := YH (YD (upB HB) hb); have n1_ := YH (hbox); have n2_ := YH ((by rw [hg]; exact (YE (upB HB)) : w.heap.size ≤ gb393)); have n3_ := YH ((by rw [hg]; exact (YE (upB HB)) : w.heap.size ≤ gb393)); clear HB; have HB := n0_; have BK393 := n1_; have GW393 := n2_; have GE393 := n3_; clear n0_ n1_ n2_ n3_; clear hb hbox hg; obtain ⟨q18_0, q18_1, q18_2, q18_3⟩ := cA4 BK393.out; obtain ⟨f18_0, f18_1, f18_2, f18_3⟩ := fA4 BK393.out) | (go_at_call 63; (with_reducible refine (thalwegref06_Epoch.calls a0_1 false _ A4.out).mono ?_); rintro e w' ⟨rfl, ⟨nd, rfl⟩⟩))
   go_ret
   exact ⟨by first | rfl | (simp [errW_none, errW_some] <;> rfl) | (simp [*, errW_none, errW_some] <;> rfl), by repeat (first | (with_reducible first | exact HB.out | apply YA | apply YB | apply YC | refine below_set ?_ GE393.out) | exact HB.out)⟩
  rw [if_neg c3] at H; have c3b0 : decide (a0_0 < 64) = false := decide_eq_false c3; clear c3
  obtain rfl := Option.some.inj H
  go_enter Try.func45, Try.ntmps45
  go_wp2_with (first | ((with_reducible refine gate_dst (N := 1) rfl ?_); refine box_event ?hg (N := 1) ?hd (cs := #[.int .i64 a0_0, .int .i64 a0_1, .int .i64 a0_2, .int .i64 a0_3]) (t := 36) ?hr ?_; (case hd => rfl); (case hg => rfl); (case hr => first | (go_simp; done) | (go_simp; rfl)); intro gb393 hg w19 hbox hb; have n0_ := YH (YD (upB HB) hb); have n1_ := YH (hbox); have n2_ := YH ((by rw [hg]; exact (YE (upB HB)) : w.heap.size ≤ gb393)); have n3_ := YH ((by rw [hg]; exact (YE (upB HB)) : w.heap.size ≤ gb393)); clear HB; have HB := n0_; have BK393 := n1_; have GW393 := n2_; have GE393 := n3_; clear n0_ n1_ n2_ n3_; clear hb hbox hg; obtain ⟨q20_0, q20_1, q20_2, q20_3⟩ := cA4 BK393.out; obtain ⟨f20_0, f20_1, f20_2, f20_3⟩ := fA4 BK393.out))
  go_ret
  exact ⟨by first | rfl | (simp [errW_none, errW_some] <;> rfl) | (simp [*, errW_none, errW_some] <;> rfl), by repeat (first | (with_reducible first | exact HB.out | apply YA | apply YB | apply YC | refine below_set ?_ GE393.out) | exact HB.out)⟩
 rw [if_neg c2] at H; have c2b0 : decide (0 ≤ a0_0) = false := decide_eq_false c2; clear c2
 obtain rfl := Option.some.inj H
 go_enter Try.func45, Try.ntmps45
 go_wp2_with (first | ((with_reducible refine gate_dst (N := 1) rfl ?_); refine box_event ?hg (N := 1) ?hd (cs := #[.int .i64 a0_0, .int .i64 a0_1, .int .i64 a0_2, .int .i64 a0_3]) (t := 36) ?hr ?_; (case hd => rfl); (case hg => rfl); (case hr => first | (go_simp; done) | (go_simp; rfl)); intro gb393 hg w21 hbox hb; have n0_ := YH (YD (upB HB) hb); have n1_ := YH (hbox); have n2_ := YH ((by rw [hg]; exact (YE (upB HB)) : w.heap.size ≤ gb393)); have n3_ := YH ((by rw [hg]; exact (YE (upB HB)) : w.heap.size ≤ gb393)); clear HB; have HB := n0_; have BK393 := n1_; have GW393 := n2_; have GE393 := n3_; clear n0_ n1_ n2_ n3_; clear hb hbox hg; obtain ⟨q22_0, q22_1, q22_2, q22_3⟩ := cA4 BK393.out; obtain ⟨f22_0, f22_1, f22_2, f22_3⟩ := fA4 BK393.out))
 go_ret
 exact ⟨by first | rfl | (simp [errW_none, errW_some] <;> rfl) | (simp [*, errW_none, errW_some] <;> rfl), by repeat (first | (with_reducible first | exact HB.out | apply YA | apply YB | apply YC | refine below_set ?_ GE393.out) | exact HB.out)⟩
def thalwegref07_power.l0 : Nat → Int → Int → Int → Option (Int)
 | 0, _, _, _ => none
 | k + 1, x0, x3, x4 => if x4 < x0 then (thalwegref07_power.l0 k x0 (wrap64 (2 * x3)) (wrap64 (x4 + 1))) else (some x3)
def thalwegref07_power.f (k : Nat) (a0 : Int) : Option (Int) := thalwegref07_power.l0 k a0 1 0
theorem thalwegref07_power.calls (k : Nat) (a0 : Int) (r : Int) (w : World) (h : thalwegref07_power.f k a0 = some r) :
  Calls Try.prog 64 #[.int .i64 a0] w fun e w' => e = .returned (.int .i64 r) ∧ Drawn0 w w' := by
 have H : (thalwegref07_power.l0 k a0 1 0) = some r := h
 clear h
 have H' := YH H
 clear H
 go_enter Try.func64, Try.ntmps64
 go_wp2
 go_loopg [3, 4] k (fun kq v3 v4 w' => ∃ (x3_1 : Int) (x4_1 : Int), v3 = .int .i64 x3_1 ∧ v4 = .int .i64 x4_1 ∧ Aside0 (thalwegref07_power.l0 kq a0 x3_1 x4_1 = some r) ∧ Aside0 (kq ≤ k) ∧ Drawn0 w w')
 case atStart => exact ⟨(1), (0), (by first | rfl | (simp; done) | (simp [*]; done)), (by first | rfl | (simp; done) | (simp [*]; done)), H', ⟨Nat.le_refl _⟩, by repeat (first | exact Drawn0.refl _ | apply Drawn0.step)⟩
 case round =>
  clear H'
  obtain ⟨x3_1, x4_1, rfl, rfl, HA, HK1, ⟨m1, rfl⟩⟩ := hrel
  cases gk with
  | zero => exact absurd HA.out (by simp [thalwegref07_power.l0])
  | succ k1 =>
   have H := HA.out
   clear HA
   simp only [thalwegref07_power.l0] at H
   by_cases c2 : x4_1 < a0
   ·rw [if_pos c2] at H
    have c2b0 : decide (x4_1 < a0) = true := decide_eq_true c2; clear c2
    have H' := YH H
    clear H
    go_wp2
    go_roundg k1
    case measure => have := HK1.out; omega
    case rel => exact ⟨(wrap64 (2 * x3_1)), (wrap64 (x4_1 + 1)), (by first | rfl | (simp; done) | (simp [*]; done)), (by first | rfl | (simp; done) | (simp [*]; done)), H', ⟨by have := HK1.out; omega⟩, by repeat (first | exact Drawn0.refl _ | apply Drawn0.step)⟩
   rw [if_neg c2] at H; have c2b0 : decide (x4_1 < a0) = false := decide_eq_false c2; clear c2
   obtain rfl := Option.some.inj H
   go_wp2
   go_ret
   exact ⟨by first | rfl | (simp; done) | (simp [*]; done), by repeat (first | exact Drawn0.refl _ | apply Drawn0.step)⟩
end Go.Proofs.Ytclbempnhelmoaa.P
namespace Go.Proofs.Ytclbempnhelmoaa.P
open Go.RowKit YtclbempnhelmoaaW.PrintWords YtclbempnhelmoaaW.PrintLast YtclbempnhelmoaaW.PrintMore
theorem one_eq (a : S36) : thalwegref07_One.f a.f0 a.f1 a.f2 a.f3 = some (decide (SA a)) := by
 unfold thalwegref07_One.f thalwegref06_Epoch.f
 by_cases h1 : a.f0 ≥ 0
 ·rw [if_pos h1]
  by_cases h2 : a.f0 < 64
  ·rw [if_pos h2]
   by_cases h3 : a.f1 ≥ 0
   ·rw [if_pos h3]
    by_cases h4 : a.f1 ≤ 4294967295
    ·rw [decide_eq_true h4, Option.bind_some, if_pos rfl]
     by_cases h5 : a.f2 ≥ 0
     ·rw [if_pos h5]
      by_cases h6 : a.f2 ≤ 65535
      ·rw [if_pos h6]
       by_cases h7 : a.f3 ≥ 0
       ·rw [if_pos h7]
        congr 1
        by_cases h8 : a.f3 ≤ 65535
        ·rw [decide_eq_true h8, decide_eq_true (show SA a from ⟨⟨h1, h2⟩, ⟨h3, h4⟩, ⟨h5, h6⟩, h7, h8⟩)]
        ·rw [decide_eq_false h8, decide_eq_false fun x : SA a => h8 x.2.2.2.2]
       ·rw [if_neg h7, decide_eq_false fun x : SA a => h7 x.2.2.2.1]
      ·rw [if_neg h6, decide_eq_false fun x : SA a => h6 x.2.2.1.2]
     ·rw [if_neg h5, decide_eq_false fun x : SA a => h5 x.2.2.1.1]
    ·rw [decide_eq_false h4, Option.bind_some, if_neg (by decide), decide_eq_false fun x : SA a => h4 x.2.1.2]
   ·rw [if_neg h3, Option.bind_some, if_neg (by decide), decide_eq_false fun x : SA a => h3 x.2.1.1]
  ·rw [if_neg h2, decide_eq_false fun x : SA a => h2 x.1.2]
 ·rw [if_neg h1, decide_eq_false fun x : SA a => h1 x.1.1]
theorem left_eq7 (a : Int) (h : -9223372036854775808 ≤ a ∧ a < 9223372036854775808) : thalwegref03_Left.f a = some (a % 65536) := by
 unfold thalwegref03_Left.f
 have ht : Int.tmod a 65536 = if 0 ≤ a then a % 65536 else -((-a) % 65536) := by
  split
  ·exact Int.tmod_eq_emod_of_nonneg (by assumption)
  ·rw [show a = -(-a) by omega, Int.neg_tmod, Int.tmod_eq_emod_of_nonneg (by omega)]
   simp
 by_cases c : Int.tmod a 65536 < 0
 ·rw [if_pos c, w64 (by omega) (by omega)]
  congr 1
  split at ht <;> omega
 ·rw [if_neg c]
  congr 1
  split at ht <;> omega
theorem rfar_eq (a b : Int) (ha : (Lit.int .i64 a).wf = true) (hb : (Lit.int .i64 b).wf = true) : thalwegref03_Far.f a b = some (far a b) := by
 have h1 := bnd64 ha
 have h2 := bnd64 hb
 unfold thalwegref03_Far.f
 rw [left_eq7 a (by omega), left_eq7 b (by omega)]
 simp only [Option.bind_some]
 rw [w64 (x := b % 65536 - a % 65536) (by omega) (by omega), left_eq7 _ (by omega)]
 simp only [Option.bind_some]
 unfold far
 congr 1
 omega
theorem rpow_l0 (n : Nat) (hn : n ≤ 60) : ∀ (d i : Nat), i + d = n → Ev (fun k => thalwegref07_power.l0 k n ((2 ^ i : Nat) : Int) i) ((2 ^ n : Nat) : Int) := by
 intro d
 induction d with
 | zero =>
  intro i hi
  refine Ev.from 1 fun k => ?_
  simp only [thalwegref07_power.l0]
  rw [if_neg (by omega), show i = n by omega]
 | succ d ih =>
  intro i hi
  have hn2 := ih (i + 1) (by omega)
  have h1 : (i : Int) < (n : Int) := by omega
  have hw : wrap64 ((i : Int) + 1) = ((i + 1 : Nat) : Int) := by rw [w64 (by omega) (by omega)]; simp
  have hp : 2 ^ i ≤ 2 ^ 59 := Nat.pow_le_pow_right (by omega) (by omega)
  rw [show (2 : Nat) ^ 59 = 576460752303423488 by decide] at hp
  have hm : wrap64 (2 * ((2 ^ i : Nat) : Int)) = ((2 ^ (i + 1) : Nat) : Int) := by
   rw [Nat.pow_succ]
   generalize 2 ^ i = P at hp ⊢
   rw [w64 (by omega) (by omega)]
   omega
  refine Ev.step (f := fun k => _) (fun k => by simp only [thalwegref07_power.l0]; rfl) ?_
  simp only [if_pos h1, hw, hm]
  exact hn2
theorem rpow_ev (n : Nat) (hn : n ≤ 60) : Ev (fun k => thalwegref07_power.f k n) ((2 ^ n : Nat) : Int) := rpow_l0 n hn n 0 (by omega)
theorem bit_div (m j : Nat) (hm : m < 65536) (hj : j ≤ 15) : (Int.tmod (wrap64 (Int.tdiv (m : Int) ((2 ^ j : Nat) : Int))) 2 == 1) = m.testBit j := by
 have hq : m / 2 ^ j ≤ m := Nat.div_le_self _ _
 rw [show Int.tdiv (m : Int) ((2 ^ j : Nat) : Int) = ((m / 2 ^ j : Nat) : Int) from rfl, Nat.testBit_eq_decide_div_mod_eq]
 generalize m / 2 ^ j = q at hq ⊢
 rw [w64 (by omega) (by omega), Int.tmod_eq_emod_of_nonneg (by omega), Bool.eq_iff_iff]
 simp only [beq_iff_eq, decide_eq_true_eq]
 omega
end Go.Proofs.Ytclbempnhelmoaa.P
namespace Go.Proofs.Ytclbempnhelmoaa.P
open Go.RowKit YtclbempnhelmoaaW.PrintWords YtclbempnhelmoaaW.PrintLast YtclbempnhelmoaaW.PrintMore
open YtclbempnhelmoaaW.PrintWords.Aside0 renaming mk → YA
attribute [local go_sem] max2_int min2_int max_two min_two max_three min_three max_four min_four
attribute [local go_sem high] eqA34
def thalwegref04_Same.l0 : Nat → List (S34) → List (S34) → Int → Option (Bool)
 | 0, _, _, _ => none
 | k + 1, x0, x1, x5 => if x5 < (x0.length : Int) then (if 0 ≤ x5 then (if x5 < (x1.length : Int) then (if (!(((rd_T34 x0 x5).f0) == ((rd_T34 x1 x5).f0)) || (!(((rd_T34 x0 x5).f1) == ((rd_T34 x1 x5).f1)) || ((!(((rd_T34 x0 x5).f2.f0) == ((rd_T34 x1 x5).f2.f0)) || (!(((rd_T34 x0 x5).f2.f1) == ((rd_T34 x1 x5).f2.f1)) || (!(((rd_T34 x0 x5).f2.f2) == ((rd_T34 x1 x5).f2.f2)) || (!(((rd_T34 x0 x5).f2.f3) == ((rd_T34 x1 x5).f2.f3)) || (!(((rd_T34 x0 x5).f2.f4) == ((rd_T34 x1 x5).f2.f4)) || (!(((rd_T34 x0 x5).f2.f5) == ((rd_T34 x1 x5).f2.f5)))))))) || ((!(((rd_T34 x0 x5).f3.f0) == ((rd_T34 x1 x5).f3.f0)) || (!(((rd_T34 x0 x5).f3.f1) == ((rd_T34 x1 x5).f3.f1)) || (!(((rd_T34 x0 x5).f3.f2) == ((rd_T34 x1 x5).f3.f2))))) || (!(((rd_T34 x0 x5).f4) == ((rd_T34 x1 x5).f4))))))) = true then (some false) else (thalwegref04_Same.l0 k x0 x1 (wrap64 (x5 + 1)))) else (none)) else (none)) else (some true)
def thalwegref04_Same.f (k : Nat) (l0 : List (S34)) (l1 : List (S34)) : Option (Bool) := if (l0.length : Int) = (l1.length : Int) then (thalwegref04_Same.l0 k l0 l1 0) else (some false)
theorem thalwegref04_Same.calls (k : Nat) (A0 : Option Addr) (c0 : Nat) (l0 : List (S34)) (A1 : Option Addr) (c1 : Nat) (l1 : List (S34)) (r : Bool) (w : World) (hr0 : Kd.C k34 w A0 l0.length l0) (hc0 : l0.length ≤ c0) (hr1 : Kd.C k34 w A1 l1.length l1) (hc1 : l1.length ≤ c1) (h : thalwegref04_Same.f k l0 l1 = some r) :
  Calls Try.prog 22 #[.slice A0 l0.length c0, .slice A1 l1.length c1] w fun e w' => e = .returned (.bool r) ∧ Drawn0 w w' := by
 have hu34 := Try.underlying34
 have HR0 := YA hr0; have HC0 := YA hc0; clear hr0 hc0; have HR1 := YA hr1; have HC1 := YA hc1; clear hr1 hc1
 have H : (if (l0.length : Int) = (l1.length : Int) then (thalwegref04_Same.l0 k l0 l1 0) else (some false)) = some r := h
 clear h
 by_cases c3 : (l0.length : Int) = (l1.length : Int)
 ·rw [if_pos c3] at H
  have c3b0 : ((l0.length : Int) == (l1.length : Int)) = true := beq_iff_eq.mpr c3
  have c3b1 : ((l0.length : Int) != (l1.length : Int)) = false := bne_eq_false_iff_eq.mpr c3
  have c3b2 : (l0.length == l1.length) = true := by first | simpa using c3 | (simp at c3 ⊢; omega)
  clear c3
  have H' := YA H
  clear H
  go_enter Try.func22, Try.ntmps22
  go_wp2
  repeat (go_quiet (fail); try go_wp2)
  go_loopg [5] k (fun kq v5 w' => ∃ (x5_1 : Int), v5 = .int .i64 x5_1 ∧ Aside0 (thalwegref04_Same.l0 kq l0 l1 x5_1 = some r) ∧ Aside0 (kq ≤ k) ∧ Drawn0 w w')
  case atStart => exact ⟨(0), (by first | rfl | (simp; done) | (simp [*]; done)), H', ⟨Nat.le_refl _⟩, by repeat (first | exact Drawn0.refl _ | apply Drawn0.step)⟩
  case round =>
   clear H'
   try clear c1; try clear c2
   try clear p2; try clear c3
   try clear c3b0; try clear c3b1; try clear c3b2
   obtain ⟨x5_1, rfl, HA, HK1, ⟨m1, rfl⟩⟩ := hrel
   cases gk with
   | zero => exact absurd HA.out (by simp [thalwegref04_Same.l0])
   | succ k1 =>
    have H := HA.out
    clear HA
    simp only [thalwegref04_Same.l0] at H
    by_cases c4 : x5_1 < (l0.length : Int)
    ·rw [if_pos c4] at H
     have c4b0 : decide (x5_1 < (l0.length : Int)) = true := decide_eq_true c4
     clear c4
     by_cases c5 : 0 ≤ x5_1
     rotate_left
     ·rw [if_neg c5] at H
      exact absurd H (by simp)
     rw [if_pos c5] at H; have c5b0 : decide (0 ≤ x5_1) = true := decide_eq_true c5; clear c5
     by_cases c6 : x5_1 < (l1.length : Int)
     rotate_left
     ·rw [if_neg c6] at H
      exact absurd H (by simp)
     rw [if_pos c6] at H
     have c6b0 : decide (x5_1 < (l1.length : Int)) = true := decide_eq_true c6
     clear c6
     by_cases c7 : (!(((rd_T34 l0 x5_1).f0) == ((rd_T34 l1 x5_1).f0)) || (!(((rd_T34 l0 x5_1).f1) == ((rd_T34 l1 x5_1).f1)) || ((!(((rd_T34 l0 x5_1).f2.f0) == ((rd_T34 l1 x5_1).f2.f0)) || (!(((rd_T34 l0 x5_1).f2.f1) == ((rd_T34 l1 x5_1).f2.f1)) || (!(((rd_T34 l0 x5_1).f2.f2) == ((rd_T34 l1 x5_1).f2.f2)) || (!(((rd_T34 l0 x5_1).f2.f3) == ((rd_T34 l1 x5_1).f2.f3)) || (!(((rd_T34 l0 x5_1).f2.f4) == ((rd_T34 l1 x5_1).f2.f4)) || (!(((rd_T34 l0 x5_1).f2.f5) == ((rd_T34 l1 x5_1).f2.f5)))))))) || ((!(((rd_T34 l0 x5_1).f3.f0) == ((rd_T34 l1 x5_1).f3.f0)) || (!(((rd_T34 l0 x5_1).f3.f1) == ((rd_T34 l1 x5_1).f3.f1)) || (!(((rd_T34 l0 x5_1).f3.f2) == ((rd_T34 l1 x5_1).f3.f2))))) || (!(((rd_T34 l0 x5_1).f4) == ((rd_T34 l1 x5_1).f4))))))) = true
     ·rw [if_pos c7] at H
      have c7b0 : (!(((rd_T34 l0 x5_1).f0) == ((rd_T34 l1 x5_1).f0)) || (!(((rd_T34 l0 x5_1).f1) == ((rd_T34 l1 x5_1).f1)) || ((!(((rd_T34 l0 x5_1).f2.f0) == ((rd_T34 l1 x5_1).f2.f0)) || (!(((rd_T34 l0 x5_1).f2.f1) == ((rd_T34 l1 x5_1).f2.f1)) || (!(((rd_T34 l0 x5_1).f2.f2) == ((rd_T34 l1 x5_1).f2.f2)) || (!(((rd_T34 l0 x5_1).f2.f3) == ((rd_T34 l1 x5_1).f2.f3)) || (!(((rd_T34 l0 x5_1).f2.f4) == ((rd_T34 l1 x5_1).f2.f4)) || (!(((rd_T34 l0 x5_1).f2.f5) == ((rd_T34 l1 x5_1).f2.f5)))))))) || ((!(((rd_T34 l0 x5_1).f3.f0) == ((rd_T34 l1 x5_1).f3.f0)) || (!(((rd_T34 l0 x5_1).f3.f1) == ((rd_T34 l1 x5_1).f3.f1)) || (!(((rd_T34 l0 x5_1).f3.f2) == ((rd_T34 l1 x5_1).f3.f2))))) || (!(((rd_T34 l0 x5_1).f4) == ((rd_T34 l1 x5_1).f4))))))) = true := c7
      clear c7
      obtain rfl := Option.some.inj H
      have p101 : 0 ≤ (x5_1 : Int) := of_decide_eq_true (by first | (with_reducible assumption) | assumption)
      have q101 : x5_1 < (l0.length : Int) := of_decide_eq_true (by first | (with_reducible assumption) | assumption)
      obtain ⟨ad101, e101, hx101_0, hx101_1, hx101_2, hx101_3, hx101_4, hx101_5, hx101_6, hx101_7, hx101_8, hx101_9, hx101_10, hx101_11⟩ := at_T34 HR0.out x5_1 p101 q101
      cases e101
      replace p101 := eq_true p101
      replace q101 := eq_true q101
      have p102 : 0 ≤ (x5_1 : Int) := of_decide_eq_true (by first | (with_reducible assumption) | assumption)
      have q102 : x5_1 < (l1.length : Int) := of_decide_eq_true (by first | (with_reducible assumption) | assumption)
      obtain ⟨ad102, e102, hx102_0, hx102_1, hx102_2, hx102_3, hx102_4, hx102_5, hx102_6, hx102_7, hx102_8, hx102_9, hx102_10, hx102_11⟩ := at_T34 HR1.out x5_1 p102 q102
      cases e102
      replace p102 := eq_true p102
      replace q102 := eq_true q102
      go_wp2
      repeat (go_quiet (fail); try go_wp2)
      go_ret
      exact ⟨by first | rfl | (simp; done) | (simp [*]; done), by repeat (first | exact Drawn0.refl _ | apply Drawn0.step)⟩
     rw [if_neg c7] at H
     have c7b0 : (!(((rd_T34 l0 x5_1).f0) == ((rd_T34 l1 x5_1).f0)) || (!(((rd_T34 l0 x5_1).f1) == ((rd_T34 l1 x5_1).f1)) || ((!(((rd_T34 l0 x5_1).f2.f0) == ((rd_T34 l1 x5_1).f2.f0)) || (!(((rd_T34 l0 x5_1).f2.f1) == ((rd_T34 l1 x5_1).f2.f1)) || (!(((rd_T34 l0 x5_1).f2.f2) == ((rd_T34 l1 x5_1).f2.f2)) || (!(((rd_T34 l0 x5_1).f2.f3) == ((rd_T34 l1 x5_1).f2.f3)) || (!(((rd_T34 l0 x5_1).f2.f4) == ((rd_T34 l1 x5_1).f2.f4)) || (!(((rd_T34 l0 x5_1).f2.f5) == ((rd_T34 l1 x5_1).f2.f5)))))))) || ((!(((rd_T34 l0 x5_1).f3.f0) == ((rd_T34 l1 x5_1).f3.f0)) || (!(((rd_T34 l0 x5_1).f3.f1) == ((rd_T34 l1 x5_1).f3.f1)) || (!(((rd_T34 l0 x5_1).f3.f2) == ((rd_T34 l1 x5_1).f3.f2))))) || (!(((rd_T34 l0 x5_1).f4) == ((rd_T34 l1 x5_1).f4))))))) = false := by simpa using c7
     clear c7
     have H' := YA H
     clear H
     have p101 : 0 ≤ (x5_1 : Int) := of_decide_eq_true (by first | (with_reducible assumption) | assumption)
     have q101 : x5_1 < (l0.length : Int) := of_decide_eq_true (by first | (with_reducible assumption) | assumption)
     obtain ⟨ad101, e101, hx101_0, hx101_1, hx101_2, hx101_3, hx101_4, hx101_5, hx101_6, hx101_7, hx101_8, hx101_9, hx101_10, hx101_11⟩ := at_T34 HR0.out x5_1 p101 q101
     cases e101
     replace p101 := eq_true p101
     replace q101 := eq_true q101
     have p102 : 0 ≤ (x5_1 : Int) := of_decide_eq_true (by first | (with_reducible assumption) | assumption)
     have q102 : x5_1 < (l1.length : Int) := of_decide_eq_true (by first | (with_reducible assumption) | assumption)
     obtain ⟨ad102, e102, hx102_0, hx102_1, hx102_2, hx102_3, hx102_4, hx102_5, hx102_6, hx102_7, hx102_8, hx102_9, hx102_10, hx102_11⟩ := at_T34 HR1.out x5_1 p102 q102
     cases e102
     replace p102 := eq_true p102
     replace q102 := eq_true q102
     go_wp2
     repeat (go_quiet (fail); try go_wp2)
     go_roundg k1
     case measure => have := HK1.out; omega
     case rel => exact ⟨(wrap64 (x5_1 + 1)), (by first | rfl | (simp; done) | (simp [*]; done)), H', ⟨by have := HK1.out; omega⟩, by repeat (first | exact Drawn0.refl _ | apply Drawn0.step)⟩
    rw [if_neg c4] at H
    have c4b0 : decide (x5_1 < (l0.length : Int)) = false := decide_eq_false c4
    clear c4
    obtain rfl := Option.some.inj H
    go_wp2
    repeat (go_quiet (fail); try go_wp2)
    go_ret
    exact ⟨by first | rfl | (simp; done) | (simp [*]; done), by repeat (first | exact Drawn0.refl _ | apply Drawn0.step)⟩
 rw [if_neg c3] at H
 have c3b0 : ((l0.length : Int) == (l1.length : Int)) = false := beq_eq_false_iff_ne.mpr c3
 have c3b1 : ((l0.length : Int) != (l1.length : Int)) = true := bne_iff_ne.mpr c3
 have c3b2 : (l0.length == l1.length) = false := by first | simpa using c3 | (simp at c3 ⊢; omega)
 obtain rfl := Option.some.inj H
 go_enter Try.func22, Try.ntmps22
 go_wp2
 repeat (go_quiet (fail); try go_wp2)
 go_ret
 exact ⟨by first | rfl | (simp; done) | (simp [*]; done), by repeat (first | exact Drawn0.refl _ | apply Drawn0.step)⟩
end Go.Proofs.Ytclbempnhelmoaa.P
namespace Go.Proofs.Ytclbempnhelmoaa.P
open Go.RowKit YtclbempnhelmoaaW.PrintWords YtclbempnhelmoaaW.PrintLast YtclbempnhelmoaaW.PrintMore
open YtclbempnhelmoaaW.PrintWords.Aside0 renaming mk → YA
attribute [local go_sem] max2_int min2_int max_two min_two max_three min_three max_four min_four
def thalwegref05_Same.l0 : Nat → List (S48) → List (S48) → Int → Option (Bool)
 | 0, _, _, _ => none
 | k + 1, x0, x1, x5 => if x5 < (x0.length : Int) then (if 0 ≤ x5 then (if x5 < (x1.length : Int) then (if ((rd_T48 x0 x5).f0) = ((rd_T48 x1 x5).f0) then ((thalwegref04_Same.f k ((rd_T48 x0 x5).f1) ((rd_T48 x1 x5).f1)).bind fun t107 => (if t107 = true then (thalwegref05_Same.l0 k x0 x1 (wrap64 (x5 + 1))) else (some false))) else (some false)) else (none)) else (none)) else (some true)
def thalwegref05_Same.f (k : Nat) (l0 : List (S48)) (l1 : List (S48)) : Option (Bool) := if (l0.length : Int) = (l1.length : Int) then (thalwegref05_Same.l0 k l0 l1 0) else (some false)
theorem thalwegref05_Same.calls (k : Nat) (A0 : Option Addr) (c0 : Nat) (l0 : List (S48)) (A1 : Option Addr) (c1 : Nat) (l1 : List (S48)) (r : Bool) (w : World) (hr0 : Kd.C k48 w A0 l0.length l0) (hc0 : l0.length ≤ c0) (hr1 : Kd.C k48 w A1 l1.length l1) (hc1 : l1.length ≤ c1) (h : thalwegref05_Same.f k l0 l1 = some r) :
  Calls Try.prog 16 #[.slice A0 l0.length c0, .slice A1 l1.length c1] w fun e w' => e = .returned (.bool r) ∧ Drawn0 w w' := by
 have HR0 := YA hr0; have HC0 := YA hc0; clear hr0 hc0; have HR1 := YA hr1; have HC1 := YA hc1; clear hr1 hc1
 have H : (if (l0.length : Int) = (l1.length : Int) then (thalwegref05_Same.l0 k l0 l1 0) else (some false)) = some r := h
 clear h
 by_cases c3 : (l0.length : Int) = (l1.length : Int)
 ·rw [if_pos c3] at H
  have c3b0 : ((l0.length : Int) == (l1.length : Int)) = true := beq_iff_eq.mpr c3
  have c3b1 : ((l0.length : Int) != (l1.length : Int)) = false := bne_eq_false_iff_eq.mpr c3
  have c3b2 : (l0.length == l1.length) = true := by first | simpa using c3 | (simp at c3 ⊢; omega)
  clear c3
  have H' := YA H
  clear H
  go_enter Try.func16, Try.ntmps16
  go_wp2
  repeat (go_quiet (fail); try go_wp2)
  go_loopg [5] k (fun kq v5 w' => ∃ (x5_1 : Int), v5 = .int .i64 x5_1 ∧ Aside0 (thalwegref05_Same.l0 kq l0 l1 x5_1 = some r) ∧ Aside0 (kq ≤ k) ∧ Drawn0 w w')
  case atStart => exact ⟨(0), (by first | rfl | (simp; done) | (simp [*]; done)), H', ⟨Nat.le_refl _⟩, by repeat (first | exact Drawn0.refl _ | apply Drawn0.step)⟩
  case round =>
   clear H'
   try clear c1; try clear p2
   try clear c3; try clear c3b0
   try clear c3b1; try clear c3b2
   obtain ⟨x5_1, rfl, HA, HK1, ⟨m1, rfl⟩⟩ := hrel
   cases gk with
   | zero => exact absurd HA.out (by simp [thalwegref05_Same.l0])
   | succ k1 =>
    have H := HA.out
    clear HA
    simp only [thalwegref05_Same.l0] at H
    by_cases c4 : x5_1 < (l0.length : Int)
    ·rw [if_pos c4] at H
     have c4b0 : decide (x5_1 < (l0.length : Int)) = true := decide_eq_true c4
     clear c4
     by_cases c5 : 0 ≤ x5_1
     rotate_left
     ·rw [if_neg c5] at H
      exact absurd H (by simp)
     rw [if_pos c5] at H; have c5b0 : decide (0 ≤ x5_1) = true := decide_eq_true c5; clear c5
     by_cases c6 : x5_1 < (l1.length : Int)
     rotate_left
     ·rw [if_neg c6] at H
      exact absurd H (by simp)
     rw [if_pos c6] at H
     have c6b0 : decide (x5_1 < (l1.length : Int)) = true := decide_eq_true c6
     clear c6
     by_cases c7 : ((rd_T48 l0 x5_1).f0) = ((rd_T48 l1 x5_1).f0)
     ·rw [if_pos c7] at H
      have c7b0 : (((rd_T48 l0 x5_1).f0) == ((rd_T48 l1 x5_1).f0)) = true := beq_iff_eq.mpr c7
      have c7b1 : (((rd_T48 l0 x5_1).f0) != ((rd_T48 l1 x5_1).f0)) = false := bne_eq_false_iff_eq.mpr c7
      clear c7; replace H := Option.bind_eq_some_iff.mp H; obtain ⟨t107, A80, H⟩ := H
      replace H : (if t107 = true then (thalwegref05_Same.l0 k1 l0 l1 (wrap64 (x5_1 + 1))) else (some false)) = some r := H
      have A8 := YA A80; clear A80
      by_cases c9 : t107 = true
      ·subst c9
       have H1 : (thalwegref05_Same.l0 k1 l0 l1 (wrap64 (x5_1 + 1))) = some r := by rw [if_pos rfl] at H; exact H
       clear H
       have H := H1
       clear H1
       have H' := YA H
       clear H
       have p103 : 0 ≤ (x5_1 : Int) := of_decide_eq_true (by first | (with_reducible assumption) | assumption)
       have q103 : x5_1 < (l0.length : Int) := of_decide_eq_true (by first | (with_reducible assumption) | assumption)
       obtain ⟨ad103, A103_1, c103_1, e103, hx103_0, hx103_1, hl103_1, hi103_1⟩ := at_T48 HR0.out x5_1 p103 q103
       cases e103
       have HR103_1 := YA hi103_1; have HC103_1 := YA hl103_1; clear hi103_1 hl103_1
       replace p103 := eq_true p103
       replace q103 := eq_true q103
       have p104 : 0 ≤ (x5_1 : Int) := of_decide_eq_true (by first | (with_reducible assumption) | assumption)
       have q104 : x5_1 < (l1.length : Int) := of_decide_eq_true (by first | (with_reducible assumption) | assumption)
       obtain ⟨ad104, A104_1, c104_1, e104, hx104_0, hx104_1, hl104_1, hi104_1⟩ := at_T48 HR1.out x5_1 p104 q104
       cases e104
       have HR104_1 := YA hi104_1; have HC104_1 := YA hl104_1; clear hi104_1 hl104_1
       replace p104 := eq_true p104
       replace q104 := eq_true q104
       have p105 : 0 ≤ (x5_1 : Int) := of_decide_eq_true (by first | (with_reducible assumption) | assumption)
       have q105 : x5_1 < (l0.length : Int) := of_decide_eq_true (by first | (with_reducible assumption) | assumption)
       obtain ⟨ad105, A105_1, c105_1, e105, hx105_0, hx105_1, hl105_1, hi105_1⟩ := at_T48 HR0.out x5_1 p105 q105
       obtain rfl : ad103 = ad105 := (by injection e105)
       have HR105_1 := YA hi105_1; have HC105_1 := YA hl105_1; clear hi105_1 hl105_1
       replace p105 := eq_true p105
       replace q105 := eq_true q105
       have ea_ := Option.some.inj (hx103_1.symm.trans hx105_1)
       injection ea_ with ea_ en_ ec_
       subst ea_; subst ec_; clear en_
       have p106 : 0 ≤ (x5_1 : Int) := of_decide_eq_true (by first | (with_reducible assumption) | assumption)
       have q106 : x5_1 < (l1.length : Int) := of_decide_eq_true (by first | (with_reducible assumption) | assumption)
       obtain ⟨ad106, A106_1, c106_1, e106, hx106_0, hx106_1, hl106_1, hi106_1⟩ := at_T48 HR1.out x5_1 p106 q106
       obtain rfl : ad104 = ad106 := (by injection e106)
       have HR106_1 := YA hi106_1; have HC106_1 := YA hl106_1; clear hi106_1 hl106_1
       replace p106 := eq_true p106
       replace q106 := eq_true q106
       have ea_ := Option.some.inj (hx104_1.symm.trans hx106_1)
       injection ea_ with ea_ en_ ec_
       subst ea_; subst ec_; clear en_
       go_wp2_with (first | (go_at_call 22; (with_reducible refine (thalwegref04_Same.calls k1 _ _ ((rd_T48 l0 x5_1).f1) _ _ ((rd_T48 l1 x5_1).f1) true _ ?side1 ?side2 ?side3 ?side4 A8.out).mono ?_); (case side1 => repeat (first | exact HR105_1.out | (with_reducible refine Kd.C_alloc ?_ _) | (with_reducible refine Kd.C_drewN ?_ _) | (with_reducible refine Kd.C_drew ?_))); (case side2 => exact HC105_1.out); (case side3 => repeat (first | exact HR106_1.out | (with_reducible refine Kd.C_alloc ?_ _) | (with_reducible refine Kd.C_drewN ?_ _) | (with_reducible refine Kd.C_drew ?_))); (case side4 => exact HC106_1.out); rintro e w' ⟨rfl, ⟨nd, rfl⟩⟩; (try first | exact ⟨rfl, _, World.drewN_drewN _ _ _⟩ | exact ⟨rfl, _, Eq.trans (World.drewN_drewN _ _ _) (congrArg (World.drewN _) (Nat.add_assoc _ _ _))⟩)))
       repeat (go_quiet (first | (go_at_call 22; (with_reducible refine (thalwegref04_Same.calls k1 _ _ ((rd_T48 l0 x5_1).f1) _ _ ((rd_T48 l1 x5_1).f1) true _ ?side1 ?side2 ?side3 ?side4 A8.out).mono ?_); (case side1 => repeat (first | exact HR105_1.out | (with_reducible refine Kd.C_alloc ?_ _) | (with_reducible refine Kd.C_drewN ?_ _) | (with_reducible refine Kd.C_drew ?_))); (case side2 => exact HC105_1.out); (case side3 => repeat (first | exact HR106_1.out | (with_reducible refine Kd.C_alloc ?_ _) | (with_reducible refine Kd.C_drewN ?_ _) | (with_reducible refine Kd.C_drew ?_))); (case side4 => exact HC106_1.out); rintro e w' ⟨rfl, ⟨nd, rfl⟩⟩; (try first | exact ⟨rfl, _, World.drewN_drewN _ _ _⟩ | exact ⟨rfl, _, Eq.trans (World.drewN_drewN _ _ _) (congrArg (World.drewN _) (Nat.add_assoc _ _ _))⟩))); try go_wp2_with (first | (go_at_call 22; (with_reducible refine (thalwegref04_Same.calls k1 _ _ ((rd_T48 l0 x5_1).f1) _ _ ((rd_T48 l1 x5_1).f1) true _ ?side1 ?side2 ?side3 ?side4 A8.out).mono ?_); (case side1 => repeat (first | exact HR105_1.out | (with_reducible refine Kd.C_alloc ?_ _) | (with_reducible refine Kd.C_drewN ?_ _) | (with_reducible refine Kd.C_drew ?_))); (case side2 => exact HC105_1.out); (case side3 => repeat (first | exact HR106_1.out | (with_reducible refine Kd.C_alloc ?_ _) | (with_reducible refine Kd.C_drewN ?_ _) | (with_reducible refine Kd.C_drew ?_))); (case side4 => exact HC106_1.out); rintro e w' ⟨rfl, ⟨nd, rfl⟩⟩; (try first | exact ⟨rfl, _, World.drewN_drewN _ _ _⟩ | exact ⟨rfl, _, Eq.trans (World.drewN_drewN _ _ _) (congrArg (World.drewN _) (Nat.add_assoc _ _ _))⟩))))
       go_roundg k1
       case measure => have := HK1.out; omega
       case rel => exact ⟨(wrap64 (x5_1 + 1)), (by first | rfl | (simp; done) | (simp [*]; done)), H', ⟨by have := HK1.out; omega⟩, by repeat (first | exact Drawn0.refl _ | apply Drawn0.step)⟩
      replace c9 := Bool.eq_false_iff.mpr c9
      subst c9
      have H1 : (some false) = some r := by rw [if_neg (show ¬ (false = true) by decide)] at H; exact H
      clear H
      have H := H1
      clear H1
      obtain rfl := Option.some.inj H
      have p103 : 0 ≤ (x5_1 : Int) := of_decide_eq_true (by first | (with_reducible assumption) | assumption)
      have q103 : x5_1 < (l0.length : Int) := of_decide_eq_true (by first | (with_reducible assumption) | assumption)
      obtain ⟨ad103, A103_1, c103_1, e103, hx103_0, hx103_1, hl103_1, hi103_1⟩ := at_T48 HR0.out x5_1 p103 q103
      cases e103
      have HR103_1 := YA hi103_1; have HC103_1 := YA hl103_1; clear hi103_1 hl103_1
      replace p103 := eq_true p103
      replace q103 := eq_true q103
      have p104 : 0 ≤ (x5_1 : Int) := of_decide_eq_true (by first | (with_reducible assumption) | assumption)
      have q104 : x5_1 < (l1.length : Int) := of_decide_eq_true (by first | (with_reducible assumption) | assumption)
      obtain ⟨ad104, A104_1, c104_1, e104, hx104_0, hx104_1, hl104_1, hi104_1⟩ := at_T48 HR1.out x5_1 p104 q104
      cases e104
      have HR104_1 := YA hi104_1; have HC104_1 := YA hl104_1; clear hi104_1 hl104_1
      replace p104 := eq_true p104
      replace q104 := eq_true q104
      have p105 : 0 ≤ (x5_1 : Int) := of_decide_eq_true (by first | (with_reducible assumption) | assumption)
      have q105 : x5_1 < (l0.length : Int) := of_decide_eq_true (by first | (with_reducible assumption) | assumption)
      obtain ⟨ad105, A105_1, c105_1, e105, hx105_0, hx105_1, hl105_1, hi105_1⟩ := at_T48 HR0.out x5_1 p105 q105
      obtain rfl : ad103 = ad105 := (by injection e105)
      have HR105_1 := YA hi105_1; have HC105_1 := YA hl105_1; clear hi105_1 hl105_1
      replace p105 := eq_true p105
      replace q105 := eq_true q105
      have ea_ := Option.some.inj (hx103_1.symm.trans hx105_1)
      injection ea_ with ea_ en_ ec_
      subst ea_; subst ec_; clear en_
      have p106 : 0 ≤ (x5_1 : Int) := of_decide_eq_true (by first | (with_reducible assumption) | assumption)
      have q106 : x5_1 < (l1.length : Int) := of_decide_eq_true (by first | (with_reducible assumption) | assumption)
      obtain ⟨ad106, A106_1, c106_1, e106, hx106_0, hx106_1, hl106_1, hi106_1⟩ := at_T48 HR1.out x5_1 p106 q106
      obtain rfl : ad104 = ad106 := (by injection e106)
      have HR106_1 := YA hi106_1; have HC106_1 := YA hl106_1; clear hi106_1 hl106_1
      replace p106 := eq_true p106
      replace q106 := eq_true q106
      have ea_ := Option.some.inj (hx104_1.symm.trans hx106_1)
      injection ea_ with ea_ en_ ec_
      subst ea_; subst ec_; clear en_
      go_wp2_with (first | (go_at_call 22; (with_reducible refine (thalwegref04_Same.calls k1 _ _ ((rd_T48 l0 x5_1).f1) _ _ ((rd_T48 l1 x5_1).f1) false _ ?side1 ?side2 ?side3 ?side4 A8.out).mono ?_); (case side1 => repeat (first | exact HR105_1.out | (with_reducible refine Kd.C_alloc ?_ _) | (with_reducible refine Kd.C_drewN ?_ _) | (with_reducible refine Kd.C_drew ?_))); (case side2 => exact HC105_1.out); (case side3 => repeat (first | exact HR106_1.out | (with_reducible refine Kd.C_alloc ?_ _) | (with_reducible refine Kd.C_drewN ?_ _) | (with_reducible refine Kd.C_drew ?_))); (case side4 => exact HC106_1.out); rintro e w' ⟨rfl, ⟨nd, rfl⟩⟩; (try first | exact ⟨rfl, _, World.drewN_drewN _ _ _⟩ | exact ⟨rfl, _, Eq.trans (World.drewN_drewN _ _ _) (congrArg (World.drewN _) (Nat.add_assoc _ _ _))⟩)))
      repeat (go_quiet (first | (go_at_call 22; (with_reducible refine (thalwegref04_Same.calls k1 _ _ ((rd_T48 l0 x5_1).f1) _ _ ((rd_T48 l1 x5_1).f1) false _ ?side1 ?side2 ?side3 ?side4 A8.out).mono ?_); (case side1 => repeat (first | exact HR105_1.out | (with_reducible refine Kd.C_alloc ?_ _) | (with_reducible refine Kd.C_drewN ?_ _) | (with_reducible refine Kd.C_drew ?_))); (case side2 => exact HC105_1.out); (case side3 => repeat (first | exact HR106_1.out | (with_reducible refine Kd.C_alloc ?_ _) | (with_reducible refine Kd.C_drewN ?_ _) | (with_reducible refine Kd.C_drew ?_))); (case side4 => exact HC106_1.out); rintro e w' ⟨rfl, ⟨nd, rfl⟩⟩; (try first | exact ⟨rfl, _, World.drewN_drewN _ _ _⟩ | exact ⟨rfl, _, Eq.trans (World.drewN_drewN _ _ _) (congrArg (World.drewN _) (Nat.add_assoc _ _ _))⟩))); try go_wp2_with (first | (go_at_call 22; (with_reducible refine (thalwegref04_Same.calls k1 _ _ ((rd_T48 l0 x5_1).f1) _ _ ((rd_T48 l1 x5_1).f1) false _ ?side1 ?side2 ?side3 ?side4 A8.out).mono ?_); (case side1 => repeat (first | exact HR105_1.out | (with_reducible refine Kd.C_alloc ?_ _) | (with_reducible refine Kd.C_drewN ?_ _) | (with_reducible refine Kd.C_drew ?_))); (case side2 => exact HC105_1.out); (case side3 => repeat (first | exact HR106_1.out | (with_reducible refine Kd.C_alloc ?_ _) | (with_reducible refine Kd.C_drewN ?_ _) | (with_reducible refine Kd.C_drew ?_))); (case side4 => exact HC106_1.out); rintro e w' ⟨rfl, ⟨nd, rfl⟩⟩; (try first | exact ⟨rfl, _, World.drewN_drewN _ _ _⟩ | exact ⟨rfl, _, Eq.trans (World.drewN_drewN _ _ _) (congrArg (World.drewN _) (Nat.add_assoc _ _ _))⟩))))
      go_ret
      exact ⟨by first | rfl | (simp; done) | (simp [*]; done), by repeat (first | exact Drawn0.refl _ | apply Drawn0.step)⟩
     rw [if_neg c7] at H
     have c7b0 : (((rd_T48 l0 x5_1).f0) == ((rd_T48 l1 x5_1).f0)) = false := beq_eq_false_iff_ne.mpr c7
     have c7b1 : (((rd_T48 l0 x5_1).f0) != ((rd_T48 l1 x5_1).f0)) = true := bne_iff_ne.mpr c7
     obtain rfl := Option.some.inj H
     have p103 : 0 ≤ (x5_1 : Int) := of_decide_eq_true (by first | (with_reducible assumption) | assumption)
     have q103 : x5_1 < (l0.length : Int) := of_decide_eq_true (by first | (with_reducible assumption) | assumption)
     obtain ⟨ad103, A103_1, c103_1, e103, hx103_0, hx103_1, hl103_1, hi103_1⟩ := at_T48 HR0.out x5_1 p103 q103
     cases e103
     have HR103_1 := YA hi103_1; have HC103_1 := YA hl103_1; clear hi103_1 hl103_1
     replace p103 := eq_true p103
     replace q103 := eq_true q103
     have p104 : 0 ≤ (x5_1 : Int) := of_decide_eq_true (by first | (with_reducible assumption) | assumption)
     have q104 : x5_1 < (l1.length : Int) := of_decide_eq_true (by first | (with_reducible assumption) | assumption)
     obtain ⟨ad104, A104_1, c104_1, e104, hx104_0, hx104_1, hl104_1, hi104_1⟩ := at_T48 HR1.out x5_1 p104 q104
     cases e104
     have HR104_1 := YA hi104_1; have HC104_1 := YA hl104_1; clear hi104_1 hl104_1
     replace p104 := eq_true p104
     replace q104 := eq_true q104
     go_wp2
     repeat (go_quiet (fail); try go_wp2)
     go_ret
     exact ⟨by first | rfl | (simp; done) | (simp [*]; done), by repeat (first | exact Drawn0.refl _ | apply Drawn0.step)⟩
    rw [if_neg c4] at H
    have c4b0 : decide (x5_1 < (l0.length : Int)) = false := decide_eq_false c4
    clear c4
    obtain rfl := Option.some.inj H
    go_wp2
    repeat (go_quiet (fail); try go_wp2)
    go_ret
    exact ⟨by first | rfl | (simp; done) | (simp [*]; done), by repeat (first | exact Drawn0.refl _ | apply Drawn0.step)⟩
 rw [if_neg c3] at H
 have c3b0 : ((l0.length : Int) == (l1.length : Int)) = false := beq_eq_false_iff_ne.mpr c3
 have c3b1 : ((l0.length : Int) != (l1.length : Int)) = true := bne_iff_ne.mpr c3
 have c3b2 : (l0.length == l1.length) = false := by first | simpa using c3 | (simp at c3 ⊢; omega)
 obtain rfl := Option.some.inj H
 go_enter Try.func16, Try.ntmps16
 go_wp2
 repeat (go_quiet (fail); try go_wp2)
 go_ret
 exact ⟨by first | rfl | (simp; done) | (simp [*]; done), by repeat (first | exact Drawn0.refl _ | apply Drawn0.step)⟩
end Go.Proofs.Ytclbempnhelmoaa.P
namespace Go.Proofs.Ytclbempnhelmoaa.P
open Classical
open Go.RowKit YtclbempnhelmoaaW.PrintWords YtclbempnhelmoaaW.PrintLast YtclbempnhelmoaaW.PrintMore
theorem same_l0 (l : List S34) (h : l.length ≤ 100000) : ∀ (d : Nat) (i : Int), 0 ≤ i → (l.length : Int) - i = d → Ev (fun k => thalwegref04_Same.l0 k l l i) true := by
 intro d
 induction d with
 | zero =>
  intro i h0 hd
  refine Ev.from 1 fun k => ?_
  simp only [thalwegref04_Same.l0]
  rw [if_neg (by omega)]
 | succ d ih =>
  intro i h0 hd
  refine Ev.step (f := fun k => _) (fun k => by simp only [thalwegref04_Same.l0]; rfl) ?_
  simp only [if_pos (show i < (l.length : Int) by omega), if_pos h0, beq_self_eq_true, Bool.not_true, Bool.or_self, Bool.false_eq_true, if_false, w64 (x := i + 1) (by omega) (by omega)]
  exact ih (i + 1) (by omega) (by omega)
theorem same_ev (l : List S34) (h : l.length ≤ 100000) : Ev (fun k => thalwegref04_Same.f k l l) true := by
 unfold thalwegref04_Same.f
 simp only [if_true]
 exact same_l0 l h l.length 0 (by omega) (by omega)
theorem bs_get (l : List S48) (i : Int) (h0 : 0 ≤ i) (h1 : i < l.length) : l.drop i.toNat = rd_T48 l i :: l.drop (i + 1).toNat := by
 have hi : i.toNat < l.length := by omega
 rw [List.drop_eq_getElem_cons hi, show (i + 1).toNat = i.toNat + 1 by omega]
 congr 1
 unfold rd_T48
 rw [List.getD_eq_getElem?_getD, List.getElem?_eq_getElem hi]
 rfl
theorem bs_mem (l : List S48) (i : Int) (h0 : 0 ≤ i) (h1 : i < l.length) : rd_T48 l i ∈ l := by
 have := List.mem_of_mem_drop (l := l) (i := i.toNat) (a := rd_T48 l i) (by rw [bs_get l i h0 h1]; exact List.mem_cons_self)
 exact this
end Go.Proofs.Ytclbempnhelmoaa.P
namespace Go.Proofs.Ytclbempnhelmoaa.P
open Go.RowKit YtclbempnhelmoaaW.PrintWords YtclbempnhelmoaaW.PrintLast YtclbempnhelmoaaW.PrintMore
open YtclbempnhelmoaaW.PrintWords renaming below_alloc → YA, pw_below_drewN → YB, below_drew1 → YC
open YtclbempnhelmoaaW.PrintWords.Aside0 renaming mk → YD
open YtclbempnhelmoaaW.PrintWords.Kd renaming R_alloc → YE, R_drewN → YF, R_drew → YG
attribute [local go_sem] max2_int min2_int max_two min_two max_three min_three max_four min_four
def thalwegref01_Int.l0 : Nat → Int → List Int → Int → Option (List Int)
 | 0, _, _, _ => none
 | k + 1, x0, x3, x4 => if x4 ≥ 0 then (if (Int.tmod x0 256) < 0 then (if 0 ≤ x4 then (if x4 < (x3.length : Int) then ((some (x3.set (x4 : Int).toNat ((wrap64 ((Int.tmod x0 256) + 256)) % 256) : List Int)).bind fun y283 => (if x4 = 0 then (thalwegref01_Int.l0 k 0 y283 (wrap64 (x4 - 1))) else (thalwegref01_Int.l0 k (wrap64 (Int.tdiv (wrap64 (x0 - (wrap64 ((Int.tmod x0 256) + 256)))) 256)) y283 (wrap64 (x4 - 1))))) else (none)) else (none)) else (if 0 ≤ x4 then (if x4 < (x3.length : Int) then ((some (x3.set (x4 : Int).toNat ((Int.tmod x0 256) % 256) : List Int)).bind fun y284 => (if x4 = 0 then (thalwegref01_Int.l0 k 0 y284 (wrap64 (x4 - 1))) else (thalwegref01_Int.l0 k (wrap64 (Int.tdiv (wrap64 (x0 - (Int.tmod x0 256))) 256)) y284 (wrap64 (x4 - 1))))) else (none)) else (none))) else (some x3)
def thalwegref01_Int.f (k : Nat) (a0 : Int) : Option (List Int) := if 8 ≤ 281474976710656 then (thalwegref01_Int.l0 k a0 (List.replicate 8 0) 7) else (none)
theorem thalwegref01_Int.calls (k : Nat) (a0 : Int) (r : List Int) (w : World) (h : thalwegref01_Int.f k a0 = some r) :
  Calls Try.prog 72 #[.int .i64 a0] w fun e w' => ∃ v0_ : Value, e = .returned (v0_) ∧ Kd.R (Kd.int .u8) 5 w' w.heap.size (fun _ => True) v0_ r ∧ Below w.heap.size w w' := by
 have HB := YD (Below.refl w.heap.size w)
 have H : (if 8 ≤ 281474976710656 then (thalwegref01_Int.l0 k a0 (List.replicate 8 0) 7) else (none)) = some r := h
 clear h
 by_cases c2 : 8 ≤ 281474976710656
 rotate_left
 ·rw [if_neg c2] at H
  exact absurd H (by simp)
 rw [if_pos c2] at H
 have c2b0 := eq_true c2
 have c2b1 : decide (8 ≤ 281474976710656) = true := decide_eq_true c2; clear c2
 obtain ⟨y280, hy280⟩ : ∃ y_ : List Int, y_ = (List.replicate 8 0) := ⟨_, rfl⟩
 replace H : (thalwegref01_Int.l0 k a0 y280 7) = some r := by first | (rw [hy280]; with_reducible exact H) | (have H2_ := (Option.bind_some _ _).symm.trans H; rw [hy280]; with_reducible exact H2_) | (have H2_ := (Option.bind_some _ _).symm.trans H; with_reducible exact H2_) | with_reducible exact H | (rw [hy280]; exact H) | exact H
 have Ny280 := YD hy280; clear hy280
 have H' := YD H
 clear H
 go_enter Try.func72, Try.ntmps72
 go_wp2_with (first | ((with_reducible refine gate_dst (N := 6) rfl ?_); refine Kd.R_make (Kd.int .u8) _ 5 rfl (N := 6) rfl 107 _ _ rfl 8 rfl rfl Try.underlying107 (.int .u8 0) 1 info5 rfl (by decide) (by omega) 0 (ok := fun _ => True) (okp := fun _ => True) rfl (fun _ hk => hk) trivial (by omega) (by omega) (Below.refl _ _) (Nat.le_refl _) ?_; intro v281 w3 ho4 hb hg_ hnew_; clear hg_ hnew_; (first | rw [← Ny280.out] at ho4 | (simp only [Int.reduceToNat] at ho4; rw [← Ny280.out] at ho4)); have n0_ := YD (Kd.R_lower ho4 (below_size (upB HB))); have n1_ := YD (below_step (upB HB) hb); clear HB; have HO282 := n0_; have HB := n1_; clear n0_ n1_; clear hb ho4))
 go_loopg [0, 4] k (fun kq v0 v4 w' => ∃ (x0_1 : Int) (x3_1 : List Int) (x4_1 : Int), v0 = .int .i64 x0_1 ∧ v4 = .int .i64 x4_1 ∧ Aside0 (thalwegref01_Int.l0 kq x0_1 x3_1 x4_1 = some r) ∧ Aside0 (kq ≤ k) ∧ Aside0 (Kd.R (Kd.int .u8) 5 w' w.heap.size (fun _ => True) v281 x3_1) ∧ Aside0 (Below w.heap.size w w'))
 case atStart => exact ⟨(a0), (y280), (7), (by first | rfl | (simp; done) | (simp [*]; done)), (by first | rfl | (simp; done) | (simp [*]; done)), H', ⟨Nat.le_refl _⟩, ⟨by (with_reducible repeat (first | apply YE | apply YF | apply YG)); exact HO282.out⟩, ⟨by repeat (first | (with_reducible first | exact HB.out | apply YA | apply YB | apply YC) | exact HB.out)⟩⟩
 case round =>
  clear H'
  try clear c2; try clear c2b0
  try clear c2b1; try clear p2
  obtain ⟨x0_1, x3_1, x4_1, rfl, rfl, HA, HK1, HO_3, HB⟩ := hrel
  cases gk with
  | zero => exact absurd HA.out (by simp [thalwegref01_Int.l0])
  | succ k1 =>
   have H := HA.out
   clear HA
   simp only [thalwegref01_Int.l0] at H
   by_cases c5 : x4_1 ≥ 0
   ·rw [if_pos c5] at H
    have c5b0 : decide (0 ≤ x4_1) = true := decide_eq_true c5; clear c5
    by_cases c6 : (Int.tmod x0_1 256) < 0
    ·rw [if_pos c6] at H
     have c6b0 : decide ((Int.tmod x0_1 256) < 0) = true := decide_eq_true c6; clear c6
     by_cases c7 : 0 ≤ x4_1
     rotate_left
     ·rw [if_neg c7] at H
      exact absurd H (by simp)
     rw [if_pos c7] at H; have c7b0 : decide (0 ≤ x4_1) = true := decide_eq_true c7; clear c7
     by_cases c8 : x4_1 < (x3_1.length : Int)
     rotate_left
     ·rw [if_neg c8] at H
      exact absurd H (by simp)
     rw [if_pos c8] at H
     have c8b0 : decide (x4_1 < (x3_1.length : Int)) = true := decide_eq_true c8
     clear c8
     obtain ⟨y283, hy283⟩ : ∃ y_ : List Int, y_ = (x3_1.set (x4_1 : Int).toNat ((wrap64 ((Int.tmod x0_1 256) + 256)) % 256)) := ⟨_, rfl⟩
     replace H : (if x4_1 = 0 then (thalwegref01_Int.l0 k1 0 y283 (wrap64 (x4_1 - 1))) else (thalwegref01_Int.l0 k1 (wrap64 (Int.tdiv (wrap64 (x0_1 - (wrap64 ((Int.tmod x0_1 256) + 256)))) 256)) y283 (wrap64 (x4_1 - 1)))) = some r := by first | (rw [hy283]; with_reducible exact H) | (have H2_ := (Option.bind_some _ _).symm.trans H; rw [hy283]; with_reducible exact H2_) | (have H2_ := (Option.bind_some _ _).symm.trans H; with_reducible exact H2_) | with_reducible exact H | (rw [hy283]; exact H) | exact H
     have Ny283 := YD hy283; clear hy283
     by_cases c10 : x4_1 = 0
     ·rw [if_pos c10] at H
      have c10b0 : (x4_1 == 0) = true := beq_iff_eq.mpr c10
      have c10b1 : (x4_1 != 0) = false := bne_eq_false_iff_eq.mpr c10
      clear c10
      have H' := YD H
      clear H
      have p9 : 0 ≤ (x4_1 : Int) := of_decide_eq_true (by first | (with_reducible assumption) | assumption)
      have q9 : (x4_1 : Int) < ((x3_1.length : Int) : Int) := of_decide_eq_true (by first | (with_reducible assumption) | assumption)
      obtain ⟨go9, co9, eo9, gb9, gl9, cl9, HG9⟩ := Kd.R_form HO_3.out (by omega)
      (first | cases eo9 | (injection eo9 with ea_ en_ ec_; (first | subst ea_ | (injection ea_ with ea_; subst ea_)); subst ec_; clear en_))
      have GB9 := YD gb9; have GG9 := YD HG9; clear gb9 gl9 HG9
      obtain ⟨hx9_0, hf9_0⟩ := Kd.R_celln 0 HO_3.out (x4_1 : Int) p9 q9
      replace p9 := eq_true p9
      replace q9 := eq_true q9
      have HP11 := Kd.R_putg HO_3.out (x4_1 : Int) ((wrap64 ((Int.tmod x0_1 256) + 256)) % 256)
      go_wp2_with (first | ((with_reducible refine gate_store (t := 5) (p := 21) rfl ?_); refine store_event (t := 5) (p := 21) (v := ?vo_w12) (w1 := (wr.setCell ⟨go9, (x4_1 : Int).toNat, none⟩ (.int .u8 ((wrap64 ((Int.tmod x0_1 256) + 256)) % 256)))) ?hg ?ho ?hn ?hr ?_; (case ho => rfl); (case hg => rfl); (case hn => rfl); (case hr => first | (go_simp; done) | (go_simp; rfl)); intro w12 hw; have hg : wr.grownBy w12 (some go9) := (by rw [hw]; exact HP11.2); have hp_ : Kd.R (Kd.int .u8) 5 w12 w.heap.size (fun _ => True) (.slice (some ⟨go9, 0, none⟩) x3_1.length co9) y283 := (by rw [hw, Ny283.out]; exact HP11.1); clear HP11; have n0_ := YD (hp_); have n1_ := YD ((by rw [hw]; exact below_set (HB.out) GB9.out : Below w.heap.size w w12)); clear HO_3; clear HB; have HO_3 := n0_; have HB := n1_; clear n0_ n1_; clear hg hw hp_))
      go_roundg k1
      case measure => have := HK1.out; omega
      case rel => exact ⟨(0), (y283), (wrap64 (x4_1 - 1)), (by first | rfl | (simp; done) | (simp [*]; done)), (by first | rfl | (simp; done) | (simp [*]; done)), H', ⟨by have := HK1.out; omega⟩, ⟨by (with_reducible repeat (first | apply YE | apply YF | apply YG)); exact HO_3.out⟩, ⟨by repeat (first | (with_reducible first | exact HB.out | apply YA | apply YB | apply YC) | exact HB.out)⟩⟩
     rw [if_neg c10] at H
     have c10b0 : (x4_1 == 0) = false := beq_eq_false_iff_ne.mpr c10
     have c10b1 : (x4_1 != 0) = true := bne_iff_ne.mpr c10
     have H' := YD H
     clear H
     have p9 : 0 ≤ (x4_1 : Int) := of_decide_eq_true (by first | (with_reducible assumption) | assumption)
     have q9 : (x4_1 : Int) < ((x3_1.length : Int) : Int) := of_decide_eq_true (by first | (with_reducible assumption) | assumption)
     obtain ⟨go9, co9, eo9, gb9, gl9, cl9, HG9⟩ := Kd.R_form HO_3.out (by omega)
     (first | cases eo9 | (injection eo9 with ea_ en_ ec_; (first | subst ea_ | (injection ea_ with ea_; subst ea_)); subst ec_; clear en_))
     have GB9 := YD gb9; have GG9 := YD HG9; clear gb9 gl9 HG9
     obtain ⟨hx9_0, hf9_0⟩ := Kd.R_celln 0 HO_3.out (x4_1 : Int) p9 q9
     replace p9 := eq_true p9
     replace q9 := eq_true q9
     have HP13 := Kd.R_putg HO_3.out (x4_1 : Int) ((wrap64 ((Int.tmod x0_1 256) + 256)) % 256)
     go_wp2_with (first | ((with_reducible refine gate_store (t := 5) (p := 21) rfl ?_); refine store_event (t := 5) (p := 21) (v := ?vo_w14) (w1 := (wr.setCell ⟨go9, (x4_1 : Int).toNat, none⟩ (.int .u8 ((wrap64 ((Int.tmod x0_1 256) + 256)) % 256)))) ?hg ?ho ?hn ?hr ?_; (case ho => rfl); (case hg => rfl); (case hn => rfl); (case hr => first | (go_simp; done) | (go_simp; rfl)); intro w14 hw; have hg : wr.grownBy w14 (some go9) := (by rw [hw]; exact HP13.2); have hp_ : Kd.R (Kd.int .u8) 5 w14 w.heap.size (fun _ => True) (.slice (some ⟨go9, 0, none⟩) x3_1.length co9) y283 := (by rw [hw, Ny283.out]; exact HP13.1); clear HP13; have n0_ := YD (hp_); have n1_ := YD ((by rw [hw]; exact below_set (HB.out) GB9.out : Below w.heap.size w w14)); clear HO_3; clear HB; have HO_3 := n0_; have HB := n1_; clear n0_ n1_; clear hg hw hp_))
     go_roundg k1
     case measure => have := HK1.out; omega
     case rel => exact ⟨(wrap64 (Int.tdiv (wrap64 (x0_1 - (wrap64 ((Int.tmod x0_1 256) + 256)))) 256)), (y283), (wrap64 (x4_1 - 1)), (by first | rfl | (simp; done) | (simp [*]; done)), (by first | rfl | (simp; done) | (simp [*]; done)), H', ⟨by have := HK1.out; omega⟩, ⟨by (with_reducible repeat (first | apply YE | apply YF | apply YG)); exact HO_3.out⟩, ⟨by repeat (first | (with_reducible first | exact HB.out | apply YA | apply YB | apply YC) | exact HB.out)⟩⟩
    rw [if_neg c6] at H; have c6b0 : decide ((Int.tmod x0_1 256) < 0) = false := decide_eq_false c6; clear c6
    by_cases c15 : 0 ≤ x4_1
    rotate_left
    ·rw [if_neg c15] at H
     exact absurd H (by simp)
    rw [if_pos c15] at H; have c15b0 : decide (0 ≤ x4_1) = true := decide_eq_true c15; clear c15
    by_cases c16 : x4_1 < (x3_1.length : Int)
    rotate_left
    ·rw [if_neg c16] at H
     exact absurd H (by simp)
    rw [if_pos c16] at H
    have c16b0 : decide (x4_1 < (x3_1.length : Int)) = true := decide_eq_true c16
    clear c16
    obtain ⟨y284, hy284⟩ : ∃ y_ : List Int, y_ = (x3_1.set (x4_1 : Int).toNat ((Int.tmod x0_1 256) % 256)) := ⟨_, rfl⟩
    replace H : (if x4_1 = 0 then (thalwegref01_Int.l0 k1 0 y284 (wrap64 (x4_1 - 1))) else (thalwegref01_Int.l0 k1 (wrap64 (Int.tdiv (wrap64 (x0_1 - (Int.tmod x0_1 256))) 256)) y284 (wrap64 (x4_1 - 1)))) = some r := by first | (rw [hy284]; with_reducible exact H) | (have H2_ := (Option.bind_some _ _).symm.trans H; rw [hy284]; with_reducible exact H2_) | (have H2_ := (Option.bind_some _ _).symm.trans H; with_reducible exact H2_) | with_reducible exact H | (rw [hy284]; exact H) | exact H
    have Ny284 := YD hy284; clear hy284
    by_cases c18 : x4_1 = 0
    ·rw [if_pos c18] at H
     have c18b0 : (x4_1 == 0) = true := beq_iff_eq.mpr c18
     have c18b1 : (x4_1 != 0) = false := bne_eq_false_iff_eq.mpr c18
     clear c18
     have H' := YD H
     clear H
     have p17 : 0 ≤ (x4_1 : Int) := of_decide_eq_true (by first | (with_reducible assumption) | assumption)
     have q17 : (x4_1 : Int) < ((x3_1.length : Int) : Int) := of_decide_eq_true (by first | (with_reducible assumption) | assumption)
     obtain ⟨go17, co17, eo17, gb17, gl17, cl17, HG17⟩ := Kd.R_form HO_3.out (by omega)
     (first | cases eo17 | (injection eo17 with ea_ en_ ec_; (first | subst ea_ | (injection ea_ with ea_; subst ea_)); subst ec_; clear en_))
     have GB17 := YD gb17; have GG17 := YD HG17; clear gb17 gl17 HG17
     obtain ⟨hx17_0, hf17_0⟩ := Kd.R_celln 0 HO_3.out (x4_1 : Int) p17 q17
     replace p17 := eq_true p17
     replace q17 := eq_true q17
     have HP19 := Kd.R_putg HO_3.out (x4_1 : Int) ((Int.tmod x0_1 256) % 256)
     go_wp2_with (first | ((with_reducible refine gate_store (t := 5) (p := 21) rfl ?_); refine store_event (t := 5) (p := 21) (v := ?vo_w20) (w1 := (wr.setCell ⟨go17, (x4_1 : Int).toNat, none⟩ (.int .u8 ((Int.tmod x0_1 256) % 256)))) ?hg ?ho ?hn ?hr ?_; (case ho => rfl); (case hg => rfl); (case hn => rfl); (case hr => first | (go_simp; done) | (go_simp; rfl)); intro w20 hw; have hg : wr.grownBy w20 (some go17) := (by rw [hw]; exact HP19.2); have hp_ : Kd.R (Kd.int .u8) 5 w20 w.heap.size (fun _ => True) (.slice (some ⟨go17, 0, none⟩) x3_1.length co17) y284 := (by rw [hw, Ny284.out]; exact HP19.1); clear HP19; have n0_ := YD (hp_); have n1_ := YD ((by rw [hw]; exact below_set (HB.out) GB17.out : Below w.heap.size w w20)); clear HO_3; clear HB; have HO_3 := n0_; have HB := n1_; clear n0_ n1_; clear hg hw hp_))
     go_roundg k1
     case measure => have := HK1.out; omega
     case rel => exact ⟨(0), (y284), (wrap64 (x4_1 - 1)), (by first | rfl | (simp; done) | (simp [*]; done)), (by first | rfl | (simp; done) | (simp [*]; done)), H', ⟨by have := HK1.out; omega⟩, ⟨by (with_reducible repeat (first | apply YE | apply YF | apply YG)); exact HO_3.out⟩, ⟨by repeat (first | (with_reducible first | exact HB.out | apply YA | apply YB | apply YC) | exact HB.out)⟩⟩
    rw [if_neg c18] at H
    have c18b0 : (x4_1 == 0) = false := beq_eq_false_iff_ne.mpr c18
    have c18b1 : (x4_1 != 0) = true := bne_iff_ne.mpr c18
    have H' := YD H
    clear H
    have p17 : 0 ≤ (x4_1 : Int) := of_decide_eq_true (by first | (with_reducible assumption) | assumption)
    have q17 : (x4_1 : Int) < ((x3_1.length : Int) : Int) := of_decide_eq_true (by first | (with_reducible assumption) | assumption)
    obtain ⟨go17, co17, eo17, gb17, gl17, cl17, HG17⟩ := Kd.R_form HO_3.out (by omega)
    (first | cases eo17 | (injection eo17 with ea_ en_ ec_; (first | subst ea_ | (injection ea_ with ea_; subst ea_)); subst ec_; clear en_))
    have GB17 := YD gb17; have GG17 := YD HG17; clear gb17 gl17 HG17
    obtain ⟨hx17_0, hf17_0⟩ := Kd.R_celln 0 HO_3.out (x4_1 : Int) p17 q17
    replace p17 := eq_true p17
    replace q17 := eq_true q17
    have HP21 := Kd.R_putg HO_3.out (x4_1 : Int) ((Int.tmod x0_1 256) % 256)
    go_wp2_with (first | ((with_reducible refine gate_store (t := 5) (p := 21) rfl ?_); refine store_event (t := 5) (p := 21) (v := ?vo_w22) (w1 := (wr.setCell ⟨go17, (x4_1 : Int).toNat, none⟩ (.int .u8 ((Int.tmod x0_1 256) % 256)))) ?hg ?ho ?hn ?hr ?_; (case ho => rfl); (case hg => rfl); (case hn => rfl); (case hr => first | (go_simp; done) | (go_simp; rfl)); intro w22 hw; have hg : wr.grownBy w22 (some go17) := (by rw [hw]; exact HP21.2); have hp_ : Kd.R (Kd.int .u8) 5 w22 w.heap.size (fun _ => True) (.slice (some ⟨go17, 0, none⟩) x3_1.length co17) y284 := (by rw [hw, Ny284.out]; exact HP21.1); clear HP21; have n0_ := YD (hp_); have n1_ := YD ((by rw [hw]; exact below_set (HB.out) GB17.out : Below w.heap.size w w22)); clear HO_3; clear HB; have HO_3 := n0_; have HB := n1_; clear n0_ n1_; clear hg hw hp_))
    go_roundg k1
    case measure => have := HK1.out; omega
    case rel => exact ⟨(wrap64 (Int.tdiv (wrap64 (x0_1 - (Int.tmod x0_1 256))) 256)), (y284), (wrap64 (x4_1 - 1)), (by first | rfl | (simp; done) | (simp [*]; done)), (by first | rfl | (simp; done) | (simp [*]; done)), H', ⟨by have := HK1.out; omega⟩, ⟨by (with_reducible repeat (first | apply YE | apply YF | apply YG)); exact HO_3.out⟩, ⟨by repeat (first | (with_reducible first | exact HB.out | apply YA | apply YB | apply YC) | exact HB.out)⟩⟩
   rw [if_neg c5] at H; have c5b0 : decide (0 ≤ x4_1) = false := decide_eq_false c5; clear c5
   obtain rfl := Option.some.inj H
   go_wp2
   go_ret
   exact ⟨_, by first | rfl | (simp [errW_none, errW_some] <;> rfl) | (simp [*, errW_none, errW_some] <;> rfl), by (with_reducible repeat (first | apply YE | apply YF | apply YG)); exact HO_3.out, by repeat (first | (with_reducible first | exact HB.out | apply YA | apply YB | apply YC) | exact HB.out)⟩
end Go.Proofs.Ytclbempnhelmoaa.P
namespace Go.Proofs.Ytclbempnhelmoaa.P
open Go.RowKit YtclbempnhelmoaaW.PrintWords YtclbempnhelmoaaW.PrintLast YtclbempnhelmoaaW.PrintMore
theorem intSpec_be (v : Int) : intSpec v = be 8 v := by
 unfold intSpec
 have h := be_add 8 (v % 18446744073709551616) (v / 18446744073709551616)
 rw [show (256 : Int) ^ 8 = 18446744073709551616 by decide] at h
 rw [← h]
 congr 1
 omega
theorem int_left (v : Int) (h0 : -9223372036854775808 ≤ v) (h1 : v ≤ 9223372036854775807) :
  (Int.tmod v 256 < 0 → (wrap64 (Int.tmod v 256 + 256)) % 256 = v % 256 ∧ wrap64 (Int.tdiv (wrap64 (v - wrap64 (Int.tmod v 256 + 256))) 256) = v / 256) ∧
  (¬ Int.tmod v 256 < 0 → Int.tmod v 256 % 256 = v % 256 ∧ wrap64 (Int.tdiv (wrap64 (v - Int.tmod v 256)) 256) = v / 256) := by
 have hm : Int.tmod v 256 = v % 256 ∨ (Int.tmod v 256 = v % 256 - 256 ∧ v < 0 ∧ v % 256 ≠ 0) := by
  rw [Int.tmod_eq_emod]
  split
  ·left; omega
  ·rename_i hc
   rw [not_or] at hc
   by_cases hz : v % 256 = 0
   ·exact absurd (Int.dvd_of_emod_eq_zero hz) hc.2
   ·right; refine ⟨by simp, by omega, hz⟩
 have hdiv : ∀ a q : Int, a = 256 * q → Int.tdiv a 256 = q := fun a q h => by rw [h, Int.mul_tdiv_cancel_left _ (by decide)]
 constructor
 ·intro hneg
  rcases hm with hm | ⟨hm, hv, hz⟩
  ·omega
  ·rw [hm, w64 (x := v % 256 - 256 + 256) (by omega) (by omega)]
   refine ⟨by omega, ?_⟩
   by_cases hlow : -9223372036854775808 ≤ v - (v % 256 - 256 + 256)
   ·rw [w64 (x := v - _) (by omega) (by omega), hdiv _ (v / 256) (by omega), w64 (by omega) (by omega)]
   ·exact absurd (show v % 256 = 0 by omega) hz
 ·intro hpos
  rcases hm with hm | ⟨hm, hv, hz⟩
  ·rw [hm]
   refine ⟨by omega, ?_⟩
   rw [w64 (x := v - _) (by omega) (by omega), hdiv _ (v / 256) (by omega), w64 (by omega) (by omega)]
  ·omega
theorem refInt_l0 (v : Int) (h0 : -9223372036854775808 ≤ v) (h1 : v ≤ 9223372036854775807) : ∀ (d i : Nat), i + d = 7 →
  Ev (fun k => thalwegref01_Int.l0 k (v / 256 ^ i) (List.replicate (8 - i) 0 ++ be i v) (7 - (i : Int))) (be 8 v) := by
 have fin : ∀ (x : Int) (l : List Int), Ev (fun k => thalwegref01_Int.l0 k x l (-1)) l := fun x l => Ev.from 1 fun k => by
  simp only [thalwegref01_Int.l0]
  rw [if_neg (by decide)]
 have lo : ∀ i : Nat, -9223372036854775808 ≤ v / 256 ^ i ∧ v / 256 ^ i ≤ 9223372036854775807 := by
  intro i
  have hp := pow256_pos i
  generalize (256 : Int) ^ i = p at *
  have h2 := Int.emod_add_mul_ediv v p
  have h3 := Int.emod_nonneg v (show p ≠ 0 by omega)
  have h4 := Int.emod_lt_of_pos v hp
  have hup : v ≤ 0 → v / p ≤ 0 := by
   intro hv
   rcases Int.le_total (v / p) 0 with hq | hq
   ·exact hq
   ·rcases Int.lt_or_le 0 (v / p) with hq2 | hq2
    ·have h5 : p * 1 ≤ p * (v / p) := Int.mul_le_mul_of_nonneg_left (by omega) (by omega)
     omega
    ·exact hq2
  have hlo : v ≤ 0 → v ≤ v / p := by
   intro hv
   rcases Int.lt_or_le (v / p) v with hq | hq
   ·have h5 : p * (v / p + 1) ≤ 1 * (v / p + 1) := Int.mul_le_mul_of_nonpos_right (by omega) (by omega)
    rw [Int.mul_add] at h5
    omega
   ·exact hq
  constructor
  ·rcases Int.le_total 0 v with hv | hv
   ·have := Int.ediv_nonneg hv (Int.le_of_lt hp); omega
   ·have := hlo hv; omega
  ·rcases Int.le_total 0 v with hv | hv
   ·have := Int.ediv_le_self p hv; omega
   ·have := hup hv; omega
 intro d
 induction d with
 | zero =>
  intro i hi
  obtain rfl : i = 7 := by omega
  obtain ⟨hneg, hpos⟩ := int_left (v / 256 ^ 7) (lo 7).1 (lo 7).2
  have hs : ∀ x : Int, x = v / 256 ^ 7 % 256 → (List.replicate (8 - 7) (0 : Int) ++ be 7 v).set 0 x = be 8 v := by
   intro x hx
   rw [hx, show be 8 v = (v / 256 ^ 7 % 256) :: be 7 v from be_cons 7 v]
   exact be_set 0 _ _
  have hlen : (List.replicate (8 - 7) (0 : Int) ++ be 7 v).length = 8 := by rw [List.length_append, List.length_replicate, be_length]
  have t3 : (0 : Int) < ((List.replicate (8 - 7) (0 : Int) ++ be 7 v).length : Int) := by rw [hlen]; decide
  have hw : wrap64 ((0 : Int) - 1) = -1 := by unfold wrap64; omega
  have e0 : (7 : Int) - ((7 : Nat) : Int) = 0 := by decide
  refine Ev.step (f := fun k => _) (fun k => by simp only [thalwegref01_Int.l0]; rfl) ?_
  simp only [e0, if_pos (show (0 : Int) ≥ 0 by decide), if_pos (show (0 : Int) ≤ 0 by decide), if_pos t3, hw, if_true, Option.bind_some, Int.toNat_zero]
  by_cases c : Int.tmod (v / 256 ^ 7) 256 < 0
  ·simp only [if_pos c, hs _ (hneg c).1]
   exact fin _ _
  ·simp only [if_neg c, hs _ (hpos c).1]
   exact fin _ _
 | succ d ih =>
  intro i hi
  have hn2 := ih (i + 1) (by omega)
  obtain ⟨hneg, hpos⟩ := int_left (v / 256 ^ i) (lo i).1 (lo i).2
  have hs : ∀ x : Int, x = v / 256 ^ i % 256 → (List.replicate (8 - i) (0 : Int) ++ be i v).set (7 - (i : Int)).toNat x = List.replicate (8 - (i + 1)) 0 ++ be (i + 1) v := by
   intro x hx
   rw [hx, be_cons, show (7 - (i : Int)).toNat = 8 - (i + 1) by omega, show 8 - i = (8 - (i + 1)) + 1 by omega]
   exact be_set _ _ _
  have hlen : (List.replicate (8 - i) (0 : Int) ++ be i v).length = 8 := by rw [List.length_append, List.length_replicate, be_length]; omega
  have t1 : (7 : Int) - i ≥ 0 := by omega
  have t2 : 0 ≤ (7 : Int) - i := t1
  have t3 : (7 : Int) - i < ((List.replicate (8 - i) (0 : Int) ++ be i v).length : Int) := by rw [hlen]; omega
  have t4 : ¬ (7 : Int) - i = 0 := by omega
  have hw : wrap64 ((7 : Int) - i - 1) = 7 - ((i + 1 : Nat) : Int) := by rw [w64 (by omega) (by omega)]; omega
  have hdd : v / 256 ^ i / 256 = v / 256 ^ (i + 1) := by rw [Int.ediv_ediv_of_nonneg (Int.le_of_lt (pow256_pos i)), ← Int.pow_succ]
  refine Ev.step (f := fun k => _) (fun k => by simp only [thalwegref01_Int.l0]; rfl) ?_
  simp only [if_pos t1, if_pos t2, if_pos t3, hw, if_neg t4, Option.bind_some]
  by_cases c : Int.tmod (v / 256 ^ i) 256 < 0
  ·simp only [if_pos c, hs _ (hneg c).1, (hneg c).2, hdd]
   exact hn2
  ·simp only [if_neg c, hs _ (hpos c).1, (hpos c).2, hdd]
   exact hn2
theorem refInt_ev (v : Int) (hv : (Lit.int .i64 v).wf = true) : Ev (fun k => thalwegref01_Int.f k v) (intSpec v) := by
 have hb := bnd64 hv
 unfold thalwegref01_Int.f
 simp only [if_pos (show 8 ≤ 281474976710656 by decide)]
 rw [intSpec_be]
 have h := refInt_l0 v hb.1 hb.2 7 0 (by omega)
 simpa [be] using h
end Go.Proofs.Ytclbempnhelmoaa.P
