/- Walks. -/
import Derived.Test.YtaiklcpmlkpfjaaXBeaconBacka
set_option linter.unusedVariables false
set_option linter.unusedSimpArgs false
set_option maxHeartbeats 8000000
set_option maxRecDepth 100000
namespace Go.Proofs.Ytaiklcpmlkpfjaa.P
open Go.RowKit YtaiklcpmlkpfjaaW.PrintWords YtaiklcpmlkpfjaaW.PrintLast YtaiklcpmlkpfjaaW.PrintMore
theorem bp_load0 (g : Nat) (w : World) (hc : w.cell? ⟨g, 2, none⟩ = some (.pointer none)) :
  Calls Try.prog 25 #[.pointer (some ⟨g, 2, none⟩)] w fun e w' => e = .returned (.pointer none) ∧ w = w' := by
 have hld := run_call_loadp (P := Try.prog) Try.func39 (by kernel_rfl) (by kernel_rfl) (by kernel_rfl) (by kernel_rfl) hc
 have hcv := run_convert_nil_from (P := Try.prog) (src := 52) (dst := 48) Try.underlying52 Try.underlying48 w
 go_enter Try.func25, Try.ntmps25
 go_wp2
 go_ret
 exact ⟨rfl, rfl⟩
theorem bp_load1 (g gb : Nat) (e : Int) (w : World) (hc : w.cell? ⟨g, 2, none⟩ = some (.pointer (some ⟨gb, 0, none⟩))) (hb : w.heap[gb]? = some (.cells #[.int .i64 e] 26 (0, 0))) :
  Calls Try.prog 25 #[.pointer (some ⟨g, 2, none⟩)] w fun e w' => e = .returned (.pointer (some ⟨gb, 0, none⟩)) ∧ w = w' := by
 have hld := run_call_loadp (P := Try.prog) Try.func39 (by kernel_rfl) (by kernel_rfl) (by kernel_rfl) (by kernel_rfl) hc
 have hcv := run_convert_from (P := Try.prog) (src := 52) (dst := 48) Try.underlying52 Try.underlying48 (by kernel_rfl) (by kernel_rfl) hb
 clear hb
 go_enter Try.func25, Try.ntmps25
 go_wp2
 go_ret
 exact ⟨rfl, rfl⟩
theorem bp_cas (g gb : Nat) (v : Value) (w : World) (hc : w.cell? ⟨g, 2, none⟩ = some (.pointer none)) (hz : w.frozen? ⟨g, 2, none⟩ = false) (hb : w.cell? ⟨gb, 0, none⟩ = some v) :
  Calls Try.prog 38 #[.pointer (some ⟨g, 2, none⟩), .pointer none, .pointer (some ⟨gb, 0, none⟩)] w fun e w' => e = .returned (.bool true) ∧ w.setCell ⟨g, 2, none⟩ (.pointer (some ⟨gb, 0, none⟩)) = w' := by
 have hcs := run_call_casp (P := Try.prog) Try.func48 (by kernel_rfl) (by kernel_rfl) (by kernel_rfl) (by kernel_rfl) (q := some ⟨gb, 0, none⟩) hc hz
 have hc0 := run_convert_nil_to (P := Try.prog) (src := 48) (dst := 52) Try.underlying48 Try.underlying52 w
 have hc1 := run_convert_to_unsafe (P := Try.prog) (src := 48) (dst := 52) Try.underlying48 Try.underlying52 (by kernel_rfl) hb
 go_enter Try.func38, Try.ntmps38
 go_wp2
 go_ret
 exact ⟨rfl, rfl⟩
theorem bgrown_below {w w1 w2 : World} {g : Nat} (hb : Below w.heap.size w w1) (h : w1.grownBy w2 (some g)) : w.grownBy w2 (some g) :=
 ⟨h.os.trans hb.os, h.tape.trans hb.tape, h.output.trans hb.output, Nat.le_trans hb.size h.size, fun k hk hn => (h.block k (Nat.lt_of_lt_of_le hk hb.size) hn).trans (hb.block k hk)⟩
theorem bgrown_set {w : World} {g : Nat} {cs : Array Value} {t : TypeId} (hb : w.heap[g]? = some (.cells cs t (0, 0))) (i : Nat) (u : Value) : w.grownBy (w.setCell ⟨g, i, none⟩ u) (some g) :=
 ⟨rfl, rfl, rfl, by simp [World.setCell], fun k hk hn => Below.heap_setCell w ⟨g, i, none⟩ u k (fun e => hn (by rw [e]))⟩
def RdB (A : Option Addr) (n c : Nat) (at_ : Int) (p : Option Addr) : Array Value := #[.slice A n c, .int .i64 at_, .pointer p]
theorem bn_E (g gb : Nat) (A : Option Addr) (n c : Nat) (at_ e sz : Int) (w : World) (hb : w.heap[g]? = some (.cells (RdB A n c at_ (some ⟨gb, 0, none⟩)) 56 (0, 0))) (he : w.heap[gb]? = some (.cells #[.int .i64 e] 26 (0, 0))) :
  Calls Try.prog 24 #[.pointer (some ⟨g, 0, none⟩), .int .i64 sz] w fun x w' => x = .returned (.int .i64 0) ∧ w = w' := by
 have h2 : w.cell? ⟨g, 2, none⟩ = some (.pointer (some ⟨gb, 0, none⟩)) := (blk_cell hb 2).trans rfl
 have HE := Aside0.mk he
 clear hb he
 go_enter Try.func24, Try.ntmps24
 go_wp2_with (go_at_call 25; (with_reducible refine (bp_load1 g gb e _ h2 HE.out).mono ?_); rintro _ _ ⟨rfl, rfl⟩)
 go_ret
 exact ⟨rfl, rfl⟩
def bn_ok.T3 : Bool × List (List Nat × List Nat) := (true, [([], []), ([0], [0]), ([1], [1]), ([2], [2]), ([], []), ([4], [4]), ([5], [5]), ([6], [6]), ([], []), ([3, 7, 8], [3, 7, 8]), ([9], [9]), ([10], [10]), ([10], [10]), ([10], [10]), ([], []), ([11, 9, 0, 1, 2, 3, 4, 5, 6, 7, 8, 9, 10, 11, 14], [11]), ([12, 15, 0, 1, 2, 3, 4, 5, 6, 7, 8, 9, 10, 11, 12, 14, 15], [12]), ([14, 13, 16, 0, 1, 2, 3, 4, 5, 6, 7, 8, 9, 10, 11, 12, 13, 14, 15, 16], [13, 14])])
def bn_ok.B3 : List Nat := [0, 1, 3, 7, 0, 16, 48, 112, 0, 511, 1023, 2047, 2047, 2047, 0, 20479, 57343, 131071]
theorem bn_ok.tab3 : rtab .any (opsOf Try.f24 3) = bn_ok.T3 := by kernel_rfl
theorem bn_ok.bits3 : waitsOk bn_ok.T3.2 bn_ok.B3 = true := by kernel_rfl
theorem bn_ok (g : Nat) (A : Option Addr) (c : Nat) (l : List Int) (at_ sz s1 s2 s3 : Int) (w : World) (hG : getSpec l at_ sz = (s1, s2, s3)) (hs : s3 = 0) (hB : Bytes l) (hl : l.length ≤ 1000000000000) (hr : Kd.C (Kd.int .u8) w A l.length l) (hc : l.length ≤ c) (hb : w.heap[g]? = some (.cells (RdB A l.length c at_ none) 56 (0, 0))) :
  Calls Try.prog 24 #[.pointer (some ⟨g, 0, none⟩), .int .i64 sz] w fun x w' => x = .returned (.int .i64 s1) ∧ w'.heap[g]? = some (.cells (RdB A l.length c s2 none) 56 (0, 0)) ∧ w.grownBy w' (some g) := by
 have h2 : w.cell? ⟨g, 2, none⟩ = some (.pointer none) := (blk_cell hb 2).trans rfl
 have HBB := Aside0.mk hb
 have HG := Aside0.mk (show wire_Get.f l at_ sz = some (s1, s2, s3) by rw [wire_Get_eq _ _ _ hB hl, hG])
 have HR := Aside0.mk hr
 have HC := Aside0.mk hc
 subst hs
 clear hG hb hr hc hB hl
 go_enter Try.func24, Try.ntmps24
 go_upto_region 3 with (go_at_call 25; (with_reducible refine (bp_load0 g _ h2).mono ?_); rintro _ _ ⟨rfl, rfl⟩)
 clear h2
 have HBd := Aside0.mk (below_drew (Below.refl w.heap.size w))
 have BRd := Aside0.mk (show w.drew.heap[g]? = _ from HBB.out)
 refine start_ (n := 18) (S := fun w' => w'.cell? ⟨g, 0, none⟩ = some (.slice A l.length c) ∧ w'.cell? ⟨g, 1, none⟩ = some (.int .i64 at_)) (ds := [17]) #[false, false, false, false, false, false, false, false, false, false, false, false, false, false, false, false, false, false] (by kernel_rfl) rfl rfl ⟨(blk_cell BRd.out 0).trans rfl, (blk_cell BRd.out 1).trans rfl⟩ (fun hHeld => ?_); refine with_tabW bn_ok.tab3 bn_ok.bits3 (fun HT_ HW_ => ?_)
 refine pure_ (i := 0) (N := some 14) (v := ?_) (a' := ?_) #[true, false, false, false, false, false, false, false, false, false, false, false, false, false, false, false, false, false] rfl rfl (any_of HT_.out (by kernel_rfl)) (fun _ _ _ h => h) (Or.inl ⟨by rfl, ?_⟩) ?_ ?_
 rotate_left
 ·intro w'
  go_simp
  with_reducible rfl
 rotate_left
 ·simp only [Act.put, List.setIfInBounds_toArray, List.set_cons_zero, List.set_cons_succ, i64_w, i32_w]
  rfl
 refine pure_ (i := 1) (N := some 15) (v := ?_) (a' := ?_) #[true, true, false, false, false, false, false, false, false, false, false, false, false, false, false, false, false, false] rfl rfl (any_of HT_.out (by kernel_rfl)) (fun _ _ _ h => h) (Or.inl ⟨by rfl, ?_⟩) ?_ ?_
 rotate_left
 ·intro w'
  go_simp
  with_reducible rfl
 rotate_left
 ·simp only [Act.put, List.setIfInBounds_toArray, List.set_cons_zero, List.set_cons_succ, i64_w, i32_w]
  rfl
 refine pure_ (i := 2) (N := some 16) (v := ?_) (a' := ?_) #[true, true, true, false, false, false, false, false, false, false, false, false, false, false, false, false, false, false] rfl rfl (any_of HT_.out (by kernel_rfl)) (fun _ _ _ h => h) (Or.inl ⟨by rfl, ?_⟩) ?_ ?_
 rotate_left
 ·intro w'
  go_simp
  with_reducible rfl
 rotate_left
 ·simp only [Act.put, List.setIfInBounds_toArray, List.set_cons_zero, List.set_cons_succ, i64_w, i32_w]
  rfl
 refine pure_ (i := 4) (N := some 18) (v := ?_) (a' := ?_) #[true, true, true, false, true, false, false, false, false, false, false, false, false, false, false, false, false, false] rfl rfl (any_of HT_.out (by kernel_rfl)) (fun _ _ _ h => h) (Or.inl ⟨by rfl, ?_⟩) ?_ ?_
 rotate_left
 ·intro w'
  go_simp
  with_reducible rfl
 rotate_left
 ·simp only [Act.put, List.setIfInBounds_toArray, List.set_cons_zero, List.set_cons_succ, i64_w, i32_w]
  rfl
 refine pure_ (i := 5) (N := some 19) (v := ?_) (a' := ?_) #[true, true, true, false, true, true, false, false, false, false, false, false, false, false, false, false, false, false] rfl rfl (any_of HT_.out (by kernel_rfl)) (fun _ _ _ h => h) (Or.inl ⟨by rfl, ?_⟩) ?_ ?_
 rotate_left
 ·intro w'
  go_simp
  with_reducible rfl
 rotate_left
 ·simp only [Act.put, List.setIfInBounds_toArray, List.set_cons_zero, List.set_cons_succ, i64_w, i32_w]
  rfl
 refine pure_ (i := 6) (N := some 20) (v := ?_) (a' := ?_) #[true, true, true, false, true, true, true, false, false, false, false, false, false, false, false, false, false, false] rfl rfl (any_of HT_.out (by kernel_rfl)) (fun _ _ _ h => h) (Or.inl ⟨by rfl, ?_⟩) ?_ ?_
 rotate_left
 ·intro w'
  go_simp
  with_reducible rfl
 rotate_left
 ·simp only [Act.put, List.setIfInBounds_toArray, List.set_cons_zero, List.set_cons_succ, i64_w, i32_w]
  rfl
 refine pure_ (i := 8) (N := some 22) (v := ?_) (a' := ?_) #[true, true, true, false, true, true, true, false, true, false, false, false, false, false, false, false, false, false] rfl rfl (any_of HT_.out (by kernel_rfl)) (fun _ _ _ h => h) (Or.inl ⟨by rfl, ?_⟩) ?_ ?_
 rotate_left
 ·intro w'
  go_simp
  with_reducible rfl
 rotate_left
 ·simp only [Act.put, List.setIfInBounds_toArray, List.set_cons_zero, List.set_cons_succ, i64_w, i32_w]
  rfl
 refine take_ (i := 3) (N := some 17) (v := ?_) (a' := ?_) #[true, true, true, true, true, true, true, false, true, false, false, false, false, false, false, false, false, false] rfl rfl (take_ofW HT_.out HW_.out (by kernel_rfl)) (fun _ _ _ h => h) (Or.inl ⟨by rfl, ?_⟩) hHeld ?_ ?_
 rotate_left
 ·rintro w' ⟨s0, s1⟩
  go_simp
  with_reducible rfl
 rotate_left
 ·simp only [Act.put, List.setIfInBounds_toArray, List.set_cons_zero, List.set_cons_succ, i64_w, i32_w]
  rfl
 refine take_ (i := 7) (N := some 21) (v := ?_) (a' := ?_) #[true, true, true, true, true, true, true, true, true, false, false, false, false, false, false, false, false, false] rfl rfl (take_ofW HT_.out HW_.out (by kernel_rfl)) (fun _ _ _ h => h) (Or.inl ⟨by rfl, ?_⟩) hHeld ?_ ?_
 rotate_left
 ·rintro w' ⟨s0, s1⟩
  go_simp
  with_reducible rfl
 rotate_left
 ·simp only [Act.put, List.setIfInBounds_toArray, List.set_cons_zero, List.set_cons_succ, i64_w, i32_w]
  rfl
 refine join_ (σ := Nat) 3 #[true, true, true, true, true, true, true, true, true, true, true, true, true, true, true, false, false, false] (fun s_ => [(23, .tuple #[.int .i64 s1, .int .i64 s2, .int .i64 0]), (13, .tuple #[.int .i64 s1, .int .i64 s2, .int .i64 0]), (24, .int .i64 s1), (25, .int .i64 s2), (26, .int .i64 0), (7, .pointer (some ⟨s_, 0, none⟩))]) (fun s_ w' => (w'.cell? ⟨g, 0, none⟩ = some (.slice A l.length c) ∧ w'.cell? ⟨g, 1, none⟩ = some (.int .i64 at_)) ∧ Aside0 (w'.heap[s_]? = some (.cells #[.int .i64 0] 26 (0, 0))) ∧ Aside0 (w'.heap[g]? = some (.cells (RdB A l.length c at_ none) 56 (0, 0))) ∧ Aside0 (Below w.heap.size w w') ∧ Aside0 (w.heap.size ≤ s_)) ?_ ?_
 rotate_left
 ·intro hCont
  refine two_ (i := 9) (j := 14) (Ni := some 23) (Nj := some 7) #[true, true, true, true, true, true, true, true, true, true, false, false, false, false, false, false, false, false] #[true, true, true, true, true, true, true, true, true, false, false, false, false, false, true, false, false, false] rfl rfl rfl rfl (two_of HT_.out (by kernel_rfl)) (by decide) (by decide) (fun K hK => ?_) (fun K hK => ?_)
  ·skip
   refine goes_ Try.func37 (by kernel_rfl) rfl #[.slice A l.length c, .int .i64 at_, .int .i64 sz] (by rfl) rfl rfl (by simp only [List.map_toArray, List.map_cons, List.map_nil]; rfl) ?_
   with_reducible refine (wire_Get.calls A c l at_ sz _ _ _ _ (Kd.C_below HR.out HBd.out) HC.out HG.out).mono ?_
   rintro e w7 ⟨rfl, hb7⟩
   refine ⟨_, rfl, ?_⟩
   have HBn := Aside0.mk (below_step HBd.out hb7)
   have BRn := Aside0.mk (blk_below BRd.out hb7)
   clear HBd BRd hb7
   have HBd := HBn
   have BRd := BRn
   clear HBn BRn
   refine hK.out _ _ ⟨(blk_cell BRd.out 0).trans rfl, (blk_cell BRd.out 1).trans rfl⟩ (fun hHeld => ?_)
   clear hK K
   refine norm_ (a' := ?_) ?_ ?_
   rotate_left
   ·show Act.put _ (some 23) _ = _
    simp only [Act.put, List.setIfInBounds_toArray, List.set_cons_zero, List.set_cons_succ, i64_w, i32_w]
    rfl
   refine pure_ (i := 10) (N := some 13) (v := ?_) (a' := ?_) #[true, true, true, true, true, true, true, true, true, true, true, false, false, false, false, false, false, false] rfl rfl (any_of HT_.out (by kernel_rfl)) (fun _ _ _ h => h) (Or.inl ⟨by rfl, ?_⟩) ?_ ?_
   rotate_left
   ·intro w'
    go_simp
    with_reducible rfl
   rotate_left
   ·simp only [Act.put, List.setIfInBounds_toArray, List.set_cons_zero, List.set_cons_succ, i64_w, i32_w]
    rfl
   refine pure_ (i := 11) (N := some 24) (v := ?_) (a' := ?_) #[true, true, true, true, true, true, true, true, true, true, true, true, false, false, false, false, false, false] rfl rfl (any_of HT_.out (by kernel_rfl)) (fun _ _ _ h => h) (Or.inl ⟨by rfl, ?_⟩) ?_ ?_
   rotate_left
   ·intro w'
    go_simp
    with_reducible rfl
   rotate_left
   ·simp only [Act.put, List.setIfInBounds_toArray, List.set_cons_zero, List.set_cons_succ, i64_w, i32_w]
    rfl
   refine pure_ (i := 12) (N := some 25) (v := ?_) (a' := ?_) #[true, true, true, true, true, true, true, true, true, true, true, true, true, false, false, false, false, false] rfl rfl (any_of HT_.out (by kernel_rfl)) (fun _ _ _ h => h) (Or.inl ⟨by rfl, ?_⟩) ?_ ?_
   rotate_left
   ·intro w'
    go_simp
    with_reducible rfl
   rotate_left
   ·simp only [Act.put, List.setIfInBounds_toArray, List.set_cons_zero, List.set_cons_succ, i64_w, i32_w]
    rfl
   refine pure_ (i := 13) (N := some 26) (v := ?_) (a' := ?_) #[true, true, true, true, true, true, true, true, true, true, true, true, true, true, false, false, false, false] rfl rfl (any_of HT_.out (by kernel_rfl)) (fun _ _ _ h => h) (Or.inl ⟨by rfl, ?_⟩) ?_ ?_
   rotate_left
   ·intro w'
    go_simp
    with_reducible rfl
   rotate_left
   ·simp only [Act.put, List.setIfInBounds_toArray, List.set_cons_zero, List.set_cons_succ, i64_w, i32_w]
    rfl
   refine one_ (i := 14) (N := some 7) #[true, true, true, true, true, true, true, true, true, true, true, true, true, true, true, false, false, false] rfl rfl (one_of HT_.out (by kernel_rfl)) (by decide) (fun K hK => ?_)
   refine box_step ?hg (N := 7) ?hd (cs := #[.int .i64 0]) (t := 26) ?hr ?_
   (case hd => rfl)
   (case hg => rfl)
   (case hr => first | (go_simp; done) | (go_simp; rfl))
   intro g3 hg w8 hbox hb
   have HBn := Aside0.mk (below_step HBd.out hb)
   have BRn := Aside0.mk (blk_below BRd.out hb)
   have B3d := Aside0.mk hbox
   have G3 := Aside0.mk (show w.heap.size ≤ g3 by rw [hg]; exact below_size HBd.out)
   clear HBd BRd hb hbox hg
   have HBd := HBn
   have BRd := BRn
   clear HBn BRn
   refine hK.out _ _ ⟨(blk_cell BRd.out 0).trans rfl, (blk_cell BRd.out 1).trans rfl⟩ (fun hHeld => ?_)
   clear hK K
   refine norm_ (a' := ?_) ?_ ?_
   rotate_left
   ·show Act.put _ (some 7) _ = _
    simp only [Act.put, List.setIfInBounds_toArray, List.set_cons_zero, List.set_cons_succ, i64_w, i32_w]
    rfl
   exact norm_ (by simp only [putAll, Act.put, List.setIfInBounds_toArray, List.set_cons_zero, List.set_cons_succ]) (hCont g3 _ ⟨hHeld, B3d, BRd, HBd, G3⟩)
  ·skip
   refine box_step ?hg (N := 7) ?hd (cs := #[.int .i64 0]) (t := 26) ?hr ?_
   (case hd => rfl)
   (case hg => rfl)
   (case hr => first | (go_simp; done) | (go_simp; rfl))
   intro g3 hg w8 hbox hb
   have HBn := Aside0.mk (below_step HBd.out hb)
   have BRn := Aside0.mk (blk_below BRd.out hb)
   have B3d := Aside0.mk hbox
   have G3 := Aside0.mk (show w.heap.size ≤ g3 by rw [hg]; exact below_size HBd.out)
   clear HBd BRd hb hbox hg
   have HBd := HBn
   have BRd := BRn
   clear HBn BRn
   refine hK.out _ _ ⟨(blk_cell BRd.out 0).trans rfl, (blk_cell BRd.out 1).trans rfl⟩ (fun hHeld => ?_)
   clear hK K
   refine norm_ (a' := ?_) ?_ ?_
   rotate_left
   ·show Act.put _ (some 7) _ = _
    simp only [Act.put, List.setIfInBounds_toArray, List.set_cons_zero, List.set_cons_succ, i64_w, i32_w]
    rfl
   refine one_ (i := 9) (N := some 23) #[true, true, true, true, true, true, true, true, true, true, false, false, false, false, true, false, false, false] rfl rfl (one_of HT_.out (by kernel_rfl)) (by decide) (fun K hK => ?_)
   refine goes_ Try.func37 (by kernel_rfl) rfl #[.slice A l.length c, .int .i64 at_, .int .i64 sz] (by rfl) rfl rfl (by simp only [List.map_toArray, List.map_cons, List.map_nil]; rfl) ?_
   with_reducible refine (wire_Get.calls A c l at_ sz _ _ _ _ (Kd.C_below HR.out HBd.out) HC.out HG.out).mono ?_
   rintro e w7 ⟨rfl, hb7⟩
   refine ⟨_, rfl, ?_⟩
   have HBn := Aside0.mk (below_step HBd.out hb7)
   have BRn := Aside0.mk (blk_below BRd.out hb7)
   have B3n := Aside0.mk (blk_below B3d.out hb7)
   clear HBd BRd B3d hb7
   have HBd := HBn
   have BRd := BRn
   have B3d := B3n
   clear HBn BRn B3n
   refine hK.out _ _ ⟨(blk_cell BRd.out 0).trans rfl, (blk_cell BRd.out 1).trans rfl⟩ (fun hHeld => ?_)
   clear hK K
   refine norm_ (a' := ?_) ?_ ?_
   rotate_left
   ·show Act.put _ (some 23) _ = _
    simp only [Act.put, List.setIfInBounds_toArray, List.set_cons_zero, List.set_cons_succ, i64_w, i32_w]
    rfl
   refine pure_ (i := 10) (N := some 13) (v := ?_) (a' := ?_) #[true, true, true, true, true, true, true, true, true, true, true, false, false, false, true, false, false, false] rfl rfl (any_of HT_.out (by kernel_rfl)) (fun _ _ _ h => h) (Or.inl ⟨by rfl, ?_⟩) ?_ ?_
   rotate_left
   ·intro w'
    go_simp
    with_reducible rfl
   rotate_left
   ·simp only [Act.put, List.setIfInBounds_toArray, List.set_cons_zero, List.set_cons_succ, i64_w, i32_w]
    rfl
   refine pure_ (i := 11) (N := some 24) (v := ?_) (a' := ?_) #[true, true, true, true, true, true, true, true, true, true, true, true, false, false, true, false, false, false] rfl rfl (any_of HT_.out (by kernel_rfl)) (fun _ _ _ h => h) (Or.inl ⟨by rfl, ?_⟩) ?_ ?_
   rotate_left
   ·intro w'
    go_simp
    with_reducible rfl
   rotate_left
   ·simp only [Act.put, List.setIfInBounds_toArray, List.set_cons_zero, List.set_cons_succ, i64_w, i32_w]
    rfl
   refine pure_ (i := 12) (N := some 25) (v := ?_) (a' := ?_) #[true, true, true, true, true, true, true, true, true, true, true, true, true, false, true, false, false, false] rfl rfl (any_of HT_.out (by kernel_rfl)) (fun _ _ _ h => h) (Or.inl ⟨by rfl, ?_⟩) ?_ ?_
   rotate_left
   ·intro w'
    go_simp
    with_reducible rfl
   rotate_left
   ·simp only [Act.put, List.setIfInBounds_toArray, List.set_cons_zero, List.set_cons_succ, i64_w, i32_w]
    rfl
   refine pure_ (i := 13) (N := some 26) (v := ?_) (a' := ?_) #[true, true, true, true, true, true, true, true, true, true, true, true, true, true, true, false, false, false] rfl rfl (any_of HT_.out (by kernel_rfl)) (fun _ _ _ h => h) (Or.inl ⟨by rfl, ?_⟩) ?_ ?_
   rotate_left
   ·intro w'
    go_simp
    with_reducible rfl
   rotate_left
   ·simp only [Act.put, List.setIfInBounds_toArray, List.set_cons_zero, List.set_cons_succ, i64_w, i32_w]
    rfl
   exact norm_ (by simp only [putAll, Act.put, List.setIfInBounds_toArray, List.set_cons_zero, List.set_cons_succ]) (hCont g3 _ ⟨hHeld, B3d, BRd, HBd, G3⟩)
 rintro g3 w8 ⟨hHeld, B3, BR, HB, G3⟩
 clear BRd HBd
 have u0 : w8.cell? ⟨g3, 0, none⟩ = some (.int .i64 0) := (blk_cell B3.out 0).trans rfl
 have uf0 := blk_frozen B3.out 0
 refine norm_ (a' := ?_) ?_ ?_
 rotate_left
 ·simp only [putAll, Act.put, List.setIfInBounds_toArray, List.set_cons_zero, List.set_cons_succ]
  rfl
 refine pure_ (i := 15) (N := some 5) (v := ?_) (a' := ?_) #[true, true, true, true, true, true, true, true, true, true, true, true, true, true, true, true, false, false] rfl rfl (any_of HT_.out (by kernel_rfl)) (fun _ _ _ h => h) (Or.inl ⟨by rfl, ?_⟩) ?_ ?_
 rotate_left
 ·intro w'
  go_simp
  with_reducible rfl
 rotate_left
 ·simp only [Act.put, List.setIfInBounds_toArray, List.set_cons_zero, List.set_cons_succ, i64_w, i32_w]
  rfl
 refine pure_ (i := 16) (N := some 6) (v := ?_) (a' := ?_) #[true, true, true, true, true, true, true, true, true, true, true, true, true, true, true, true, true, false] rfl rfl (any_of HT_.out (by kernel_rfl)) (fun _ _ _ h => h) (Or.inl ⟨by rfl, ?_⟩) ?_ ?_
 rotate_left
 ·intro w'
  go_simp
  with_reducible rfl
 rotate_left
 ·simp only [Act.put, List.setIfInBounds_toArray, List.set_cons_zero, List.set_cons_succ, i64_w, i32_w]
  rfl
 refine last_ (i := 17) (N := none) #[true, true, true, true, true, true, true, true, true, true, true, true, true, true, true, true, true, true] rfl rfl (one_of HT_.out (by kernel_rfl)) (by decide) (fun K hK => ?_)
 refine skip_ (w1 := ?_) (by rfl) rfl ?_ ?_
 rotate_left
 ·go_simp
  rfl
 refine hK.out _ _ ?_
 clear hK K
 refine done_ (done_of HT_.out (by kernel_rfl)) ?_
 clear HT_ HW_ hHeld u0 uf0
 have nr3 : g ≠ g3 := Nat.ne_of_lt (Nat.lt_of_lt_of_le (blk_lt HBB.out) G3.out)
 have C3 := Aside0.mk (show (w8.setCell ⟨g3, 0, none⟩ (.int .i64 0)).heap[g3]? = some (.cells #[.int .i64 0] 26 (0, 0)) from blk_put B3.out 0 _ rfl)
 have CR := Aside0.mk (show (w8.setCell ⟨g3, 0, none⟩ (.int .i64 0)).heap[g]? = some (.cells (RdB A l.length c at_ none) 56 (0, 0)) from blk_far (p := ⟨g3, 0, none⟩) BR.out nr3 _)
 have CB := Aside0.mk (show Below w.heap.size w (w8.setCell ⟨g3, 0, none⟩ (.int .i64 0)) from below_set HB.out G3.out)
 clear B3 BR HB
 generalize (w8.setCell ⟨g3, 0, none⟩ (.int .i64 0)) = w9 at C3 CR CB ⊢
 have y0 : w9.cell? ⟨g3, 0, none⟩ = some (.int .i64 0) := (blk_cell C3.out 0).trans rfl
 have k1 : w9.cell? ⟨g, 1, none⟩ = some (.int .i64 at_) := (blk_cell CR.out 1).trans rfl
 have kf := blk_frozen CR.out 1
 have n3 : g3 ≠ g := nr3.symm
 go_wp2
 go_ret
 exact ⟨rfl, blk_put CR.out 1 _ rfl, bgrown_below CB.out (bgrown_set CR.out _ _)⟩
def bn_x.T3 : Bool × List (List Nat × List Nat) := (true, [([], []), ([0], [0]), ([1], [1]), ([2], [2]), ([], []), ([4], [4]), ([5], [5]), ([6], [6]), ([], []), ([3, 7, 8], [3, 7, 8]), ([9], [9]), ([10], [10]), ([10], [10]), ([10], [10]), ([], []), ([11, 9, 0, 1, 2, 3, 4, 5, 6, 7, 8, 9, 10, 11, 14], [11]), ([12, 15, 0, 1, 2, 3, 4, 5, 6, 7, 8, 9, 10, 11, 12, 14, 15], [12]), ([14, 13, 16, 0, 1, 2, 3, 4, 5, 6, 7, 8, 9, 10, 11, 12, 13, 14, 15, 16], [13, 14])])
def bn_x.B3 : List Nat := [0, 1, 3, 7, 0, 16, 48, 112, 0, 511, 1023, 2047, 2047, 2047, 0, 20479, 57343, 131071]
theorem bn_x.tab3 : rtab .any (opsOf Try.f24 3) = bn_x.T3 := by kernel_rfl
theorem bn_x.bits3 : waitsOk bn_x.T3.2 bn_x.B3 = true := by kernel_rfl
theorem bn_x (g : Nat) (A : Option Addr) (c : Nat) (l : List Int) (at_ sz s1 s2 s3 : Int) (w : World) (hG : getSpec l at_ sz = (s1, s2, s3)) (hs : ¬ s3 = 0) (hB : Bytes l) (hl : l.length ≤ 1000000000000) (hr : Kd.C (Kd.int .u8) w A l.length l) (hc : l.length ≤ c) (hb : w.heap[g]? = some (.cells (RdB A l.length c at_ none) 56 (0, 0))) :
  Calls Try.prog 24 #[.pointer (some ⟨g, 0, none⟩), .int .i64 sz] w fun x w' => x = .returned (.int .i64 0) ∧ ∃ gb, w'.heap[g]? = some (.cells (RdB A l.length c at_ (some ⟨gb, 0, none⟩)) 56 (0, 0)) ∧ w'.heap[gb]? = some (.cells #[.int .i64 s3] 26 (0, 0)) ∧ w.heap.size ≤ gb ∧ w.grownBy w' (some g) := by
 have h2 : w.cell? ⟨g, 2, none⟩ = some (.pointer none) := (blk_cell hb 2).trans rfl
 have HBB := Aside0.mk hb
 have HG := Aside0.mk (show wire_Get.f l at_ sz = some (s1, s2, s3) by rw [wire_Get_eq _ _ _ hB hl, hG])
 have HR := Aside0.mk hr
 have HC := Aside0.mk hc
 have b1 : (s3 != 0) = true := bne_iff_ne.mpr hs
 clear hs
 clear hG hb hr hc hB hl
 go_enter Try.func24, Try.ntmps24
 go_upto_region 3 with (go_at_call 25; (with_reducible refine (bp_load0 g _ h2).mono ?_); rintro _ _ ⟨rfl, rfl⟩)
 clear h2
 have HBd := Aside0.mk (below_drew (Below.refl w.heap.size w))
 have BRd := Aside0.mk (show w.drew.heap[g]? = _ from HBB.out)
 refine start_ (n := 18) (S := fun w' => w'.cell? ⟨g, 0, none⟩ = some (.slice A l.length c) ∧ w'.cell? ⟨g, 1, none⟩ = some (.int .i64 at_)) (ds := [17]) #[false, false, false, false, false, false, false, false, false, false, false, false, false, false, false, false, false, false] (by kernel_rfl) rfl rfl ⟨(blk_cell BRd.out 0).trans rfl, (blk_cell BRd.out 1).trans rfl⟩ (fun hHeld => ?_); refine with_tabW bn_x.tab3 bn_x.bits3 (fun HT_ HW_ => ?_)
 refine pure_ (i := 0) (N := some 14) (v := ?_) (a' := ?_) #[true, false, false, false, false, false, false, false, false, false, false, false, false, false, false, false, false, false] rfl rfl (any_of HT_.out (by kernel_rfl)) (fun _ _ _ h => h) (Or.inl ⟨by rfl, ?_⟩) ?_ ?_
 rotate_left
 ·intro w'
  go_simp
  with_reducible rfl
 rotate_left
 ·simp only [Act.put, List.setIfInBounds_toArray, List.set_cons_zero, List.set_cons_succ, i64_w, i32_w]
  rfl
 refine pure_ (i := 1) (N := some 15) (v := ?_) (a' := ?_) #[true, true, false, false, false, false, false, false, false, false, false, false, false, false, false, false, false, false] rfl rfl (any_of HT_.out (by kernel_rfl)) (fun _ _ _ h => h) (Or.inl ⟨by rfl, ?_⟩) ?_ ?_
 rotate_left
 ·intro w'
  go_simp
  with_reducible rfl
 rotate_left
 ·simp only [Act.put, List.setIfInBounds_toArray, List.set_cons_zero, List.set_cons_succ, i64_w, i32_w]
  rfl
 refine pure_ (i := 2) (N := some 16) (v := ?_) (a' := ?_) #[true, true, true, false, false, false, false, false, false, false, false, false, false, false, false, false, false, false] rfl rfl (any_of HT_.out (by kernel_rfl)) (fun _ _ _ h => h) (Or.inl ⟨by rfl, ?_⟩) ?_ ?_
 rotate_left
 ·intro w'
  go_simp
  with_reducible rfl
 rotate_left
 ·simp only [Act.put, List.setIfInBounds_toArray, List.set_cons_zero, List.set_cons_succ, i64_w, i32_w]
  rfl
 refine pure_ (i := 4) (N := some 18) (v := ?_) (a' := ?_) #[true, true, true, false, true, false, false, false, false, false, false, false, false, false, false, false, false, false] rfl rfl (any_of HT_.out (by kernel_rfl)) (fun _ _ _ h => h) (Or.inl ⟨by rfl, ?_⟩) ?_ ?_
 rotate_left
 ·intro w'
  go_simp
  with_reducible rfl
 rotate_left
 ·simp only [Act.put, List.setIfInBounds_toArray, List.set_cons_zero, List.set_cons_succ, i64_w, i32_w]
  rfl
 refine pure_ (i := 5) (N := some 19) (v := ?_) (a' := ?_) #[true, true, true, false, true, true, false, false, false, false, false, false, false, false, false, false, false, false] rfl rfl (any_of HT_.out (by kernel_rfl)) (fun _ _ _ h => h) (Or.inl ⟨by rfl, ?_⟩) ?_ ?_
 rotate_left
 ·intro w'
  go_simp
  with_reducible rfl
 rotate_left
 ·simp only [Act.put, List.setIfInBounds_toArray, List.set_cons_zero, List.set_cons_succ, i64_w, i32_w]
  rfl
 refine pure_ (i := 6) (N := some 20) (v := ?_) (a' := ?_) #[true, true, true, false, true, true, true, false, false, false, false, false, false, false, false, false, false, false] rfl rfl (any_of HT_.out (by kernel_rfl)) (fun _ _ _ h => h) (Or.inl ⟨by rfl, ?_⟩) ?_ ?_
 rotate_left
 ·intro w'
  go_simp
  with_reducible rfl
 rotate_left
 ·simp only [Act.put, List.setIfInBounds_toArray, List.set_cons_zero, List.set_cons_succ, i64_w, i32_w]
  rfl
 refine pure_ (i := 8) (N := some 22) (v := ?_) (a' := ?_) #[true, true, true, false, true, true, true, false, true, false, false, false, false, false, false, false, false, false] rfl rfl (any_of HT_.out (by kernel_rfl)) (fun _ _ _ h => h) (Or.inl ⟨by rfl, ?_⟩) ?_ ?_
 rotate_left
 ·intro w'
  go_simp
  with_reducible rfl
 rotate_left
 ·simp only [Act.put, List.setIfInBounds_toArray, List.set_cons_zero, List.set_cons_succ, i64_w, i32_w]
  rfl
 refine take_ (i := 3) (N := some 17) (v := ?_) (a' := ?_) #[true, true, true, true, true, true, true, false, true, false, false, false, false, false, false, false, false, false] rfl rfl (take_ofW HT_.out HW_.out (by kernel_rfl)) (fun _ _ _ h => h) (Or.inl ⟨by rfl, ?_⟩) hHeld ?_ ?_
 rotate_left
 ·rintro w' ⟨s0, s1⟩
  go_simp
  with_reducible rfl
 rotate_left
 ·simp only [Act.put, List.setIfInBounds_toArray, List.set_cons_zero, List.set_cons_succ, i64_w, i32_w]
  rfl
 refine take_ (i := 7) (N := some 21) (v := ?_) (a' := ?_) #[true, true, true, true, true, true, true, true, true, false, false, false, false, false, false, false, false, false] rfl rfl (take_ofW HT_.out HW_.out (by kernel_rfl)) (fun _ _ _ h => h) (Or.inl ⟨by rfl, ?_⟩) hHeld ?_ ?_
 rotate_left
 ·rintro w' ⟨s0, s1⟩
  go_simp
  with_reducible rfl
 rotate_left
 ·simp only [Act.put, List.setIfInBounds_toArray, List.set_cons_zero, List.set_cons_succ, i64_w, i32_w]
  rfl
 refine join_ (σ := Nat) 3 #[true, true, true, true, true, true, true, true, true, true, true, true, true, true, true, false, false, false] (fun s_ => [(23, .tuple #[.int .i64 s1, .int .i64 s2, .int .i64 s3]), (13, .tuple #[.int .i64 s1, .int .i64 s2, .int .i64 s3]), (24, .int .i64 s1), (25, .int .i64 s2), (26, .int .i64 s3), (7, .pointer (some ⟨s_, 0, none⟩))]) (fun s_ w' => (w'.cell? ⟨g, 0, none⟩ = some (.slice A l.length c) ∧ w'.cell? ⟨g, 1, none⟩ = some (.int .i64 at_)) ∧ Aside0 (w'.heap[s_]? = some (.cells #[.int .i64 0] 26 (0, 0))) ∧ Aside0 (w'.heap[g]? = some (.cells (RdB A l.length c at_ none) 56 (0, 0))) ∧ Aside0 (Below w.heap.size w w') ∧ Aside0 (w.heap.size ≤ s_)) ?_ ?_
 rotate_left
 ·intro hCont
  refine two_ (i := 9) (j := 14) (Ni := some 23) (Nj := some 7) #[true, true, true, true, true, true, true, true, true, true, false, false, false, false, false, false, false, false] #[true, true, true, true, true, true, true, true, true, false, false, false, false, false, true, false, false, false] rfl rfl rfl rfl (two_of HT_.out (by kernel_rfl)) (by decide) (by decide) (fun K hK => ?_) (fun K hK => ?_)
  ·skip
   refine goes_ Try.func37 (by kernel_rfl) rfl #[.slice A l.length c, .int .i64 at_, .int .i64 sz] (by rfl) rfl rfl (by simp only [List.map_toArray, List.map_cons, List.map_nil]; rfl) ?_
   with_reducible refine (wire_Get.calls A c l at_ sz _ _ _ _ (Kd.C_below HR.out HBd.out) HC.out HG.out).mono ?_
   rintro e w7 ⟨rfl, hb7⟩
   refine ⟨_, rfl, ?_⟩
   have HBn := Aside0.mk (below_step HBd.out hb7)
   have BRn := Aside0.mk (blk_below BRd.out hb7)
   clear HBd BRd hb7
   have HBd := HBn
   have BRd := BRn
   clear HBn BRn
   refine hK.out _ _ ⟨(blk_cell BRd.out 0).trans rfl, (blk_cell BRd.out 1).trans rfl⟩ (fun hHeld => ?_)
   clear hK K
   refine norm_ (a' := ?_) ?_ ?_
   rotate_left
   ·show Act.put _ (some 23) _ = _
    simp only [Act.put, List.setIfInBounds_toArray, List.set_cons_zero, List.set_cons_succ, i64_w, i32_w]
    rfl
   refine pure_ (i := 10) (N := some 13) (v := ?_) (a' := ?_) #[true, true, true, true, true, true, true, true, true, true, true, false, false, false, false, false, false, false] rfl rfl (any_of HT_.out (by kernel_rfl)) (fun _ _ _ h => h) (Or.inl ⟨by rfl, ?_⟩) ?_ ?_
   rotate_left
   ·intro w'
    go_simp
    with_reducible rfl
   rotate_left
   ·simp only [Act.put, List.setIfInBounds_toArray, List.set_cons_zero, List.set_cons_succ, i64_w, i32_w]
    rfl
   refine pure_ (i := 11) (N := some 24) (v := ?_) (a' := ?_) #[true, true, true, true, true, true, true, true, true, true, true, true, false, false, false, false, false, false] rfl rfl (any_of HT_.out (by kernel_rfl)) (fun _ _ _ h => h) (Or.inl ⟨by rfl, ?_⟩) ?_ ?_
   rotate_left
   ·intro w'
    go_simp
    with_reducible rfl
   rotate_left
   ·simp only [Act.put, List.setIfInBounds_toArray, List.set_cons_zero, List.set_cons_succ, i64_w, i32_w]
    rfl
   refine pure_ (i := 12) (N := some 25) (v := ?_) (a' := ?_) #[true, true, true, true, true, true, true, true, true, true, true, true, true, false, false, false, false, false] rfl rfl (any_of HT_.out (by kernel_rfl)) (fun _ _ _ h => h) (Or.inl ⟨by rfl, ?_⟩) ?_ ?_
   rotate_left
   ·intro w'
    go_simp
    with_reducible rfl
   rotate_left
   ·simp only [Act.put, List.setIfInBounds_toArray, List.set_cons_zero, List.set_cons_succ, i64_w, i32_w]
    rfl
   refine pure_ (i := 13) (N := some 26) (v := ?_) (a' := ?_) #[true, true, true, true, true, true, true, true, true, true, true, true, true, true, false, false, false, false] rfl rfl (any_of HT_.out (by kernel_rfl)) (fun _ _ _ h => h) (Or.inl ⟨by rfl, ?_⟩) ?_ ?_
   rotate_left
   ·intro w'
    go_simp
    with_reducible rfl
   rotate_left
   ·simp only [Act.put, List.setIfInBounds_toArray, List.set_cons_zero, List.set_cons_succ, i64_w, i32_w]
    rfl
   refine one_ (i := 14) (N := some 7) #[true, true, true, true, true, true, true, true, true, true, true, true, true, true, true, false, false, false] rfl rfl (one_of HT_.out (by kernel_rfl)) (by decide) (fun K hK => ?_)
   refine box_step ?hg (N := 7) ?hd (cs := #[.int .i64 0]) (t := 26) ?hr ?_
   (case hd => rfl)
   (case hg => rfl)
   (case hr => first | (go_simp; done) | (go_simp; rfl))
   intro g3 hg w8 hbox hb
   have HBn := Aside0.mk (below_step HBd.out hb)
   have BRn := Aside0.mk (blk_below BRd.out hb)
   have B3d := Aside0.mk hbox
   have G3 := Aside0.mk (show w.heap.size ≤ g3 by rw [hg]; exact below_size HBd.out)
   clear HBd BRd hb hbox hg
   have HBd := HBn
   have BRd := BRn
   clear HBn BRn
   refine hK.out _ _ ⟨(blk_cell BRd.out 0).trans rfl, (blk_cell BRd.out 1).trans rfl⟩ (fun hHeld => ?_)
   clear hK K
   refine norm_ (a' := ?_) ?_ ?_
   rotate_left
   ·show Act.put _ (some 7) _ = _
    simp only [Act.put, List.setIfInBounds_toArray, List.set_cons_zero, List.set_cons_succ, i64_w, i32_w]
    rfl
   exact norm_ (by simp only [putAll, Act.put, List.setIfInBounds_toArray, List.set_cons_zero, List.set_cons_succ]) (hCont g3 _ ⟨hHeld, B3d, BRd, HBd, G3⟩)
  ·skip
   refine box_step ?hg (N := 7) ?hd (cs := #[.int .i64 0]) (t := 26) ?hr ?_
   (case hd => rfl)
   (case hg => rfl)
   (case hr => first | (go_simp; done) | (go_simp; rfl))
   intro g3 hg w8 hbox hb
   have HBn := Aside0.mk (below_step HBd.out hb)
   have BRn := Aside0.mk (blk_below BRd.out hb)
   have B3d := Aside0.mk hbox
   have G3 := Aside0.mk (show w.heap.size ≤ g3 by rw [hg]; exact below_size HBd.out)
   clear HBd BRd hb hbox hg
   have HBd := HBn
   have BRd := BRn
   clear HBn BRn
   refine hK.out _ _ ⟨(blk_cell BRd.out 0).trans rfl, (blk_cell BRd.out 1).trans rfl⟩ (fun hHeld => ?_)
   clear hK K
   refine norm_ (a' := ?_) ?_ ?_
   rotate_left
   ·show Act.put _ (some 7) _ = _
    simp only [Act.put, List.setIfInBounds_toArray, List.set_cons_zero, List.set_cons_succ, i64_w, i32_w]
    rfl
   refine one_ (i := 9) (N := some 23) #[true, true, true, true, true, true, true, true, true, true, false, false, false, false, true, false, false, false] rfl rfl (one_of HT_.out (by kernel_rfl)) (by decide) (fun K hK => ?_)
   refine goes_ Try.func37 (by kernel_rfl) rfl #[.slice A l.length c, .int .i64 at_, .int .i64 sz] (by rfl) rfl rfl (by simp only [List.map_toArray, List.map_cons, List.map_nil]; rfl) ?_
   with_reducible refine (wire_Get.calls A c l at_ sz _ _ _ _ (Kd.C_below HR.out HBd.out) HC.out HG.out).mono ?_
   rintro e w7 ⟨rfl, hb7⟩
   refine ⟨_, rfl, ?_⟩
   have HBn := Aside0.mk (below_step HBd.out hb7)
   have BRn := Aside0.mk (blk_below BRd.out hb7)
   have B3n := Aside0.mk (blk_below B3d.out hb7)
   clear HBd BRd B3d hb7
   have HBd := HBn
   have BRd := BRn
   have B3d := B3n
   clear HBn BRn B3n
   refine hK.out _ _ ⟨(blk_cell BRd.out 0).trans rfl, (blk_cell BRd.out 1).trans rfl⟩ (fun hHeld => ?_)
   clear hK K
   refine norm_ (a' := ?_) ?_ ?_
   rotate_left
   ·show Act.put _ (some 23) _ = _
    simp only [Act.put, List.setIfInBounds_toArray, List.set_cons_zero, List.set_cons_succ, i64_w, i32_w]
    rfl
   refine pure_ (i := 10) (N := some 13) (v := ?_) (a' := ?_) #[true, true, true, true, true, true, true, true, true, true, true, false, false, false, true, false, false, false] rfl rfl (any_of HT_.out (by kernel_rfl)) (fun _ _ _ h => h) (Or.inl ⟨by rfl, ?_⟩) ?_ ?_
   rotate_left
   ·intro w'
    go_simp
    with_reducible rfl
   rotate_left
   ·simp only [Act.put, List.setIfInBounds_toArray, List.set_cons_zero, List.set_cons_succ, i64_w, i32_w]
    rfl
   refine pure_ (i := 11) (N := some 24) (v := ?_) (a' := ?_) #[true, true, true, true, true, true, true, true, true, true, true, true, false, false, true, false, false, false] rfl rfl (any_of HT_.out (by kernel_rfl)) (fun _ _ _ h => h) (Or.inl ⟨by rfl, ?_⟩) ?_ ?_
   rotate_left
   ·intro w'
    go_simp
    with_reducible rfl
   rotate_left
   ·simp only [Act.put, List.setIfInBounds_toArray, List.set_cons_zero, List.set_cons_succ, i64_w, i32_w]
    rfl
   refine pure_ (i := 12) (N := some 25) (v := ?_) (a' := ?_) #[true, true, true, true, true, true, true, true, true, true, true, true, true, false, true, false, false, false] rfl rfl (any_of HT_.out (by kernel_rfl)) (fun _ _ _ h => h) (Or.inl ⟨by rfl, ?_⟩) ?_ ?_
   rotate_left
   ·intro w'
    go_simp
    with_reducible rfl
   rotate_left
   ·simp only [Act.put, List.setIfInBounds_toArray, List.set_cons_zero, List.set_cons_succ, i64_w, i32_w]
    rfl
   refine pure_ (i := 13) (N := some 26) (v := ?_) (a' := ?_) #[true, true, true, true, true, true, true, true, true, true, true, true, true, true, true, false, false, false] rfl rfl (any_of HT_.out (by kernel_rfl)) (fun _ _ _ h => h) (Or.inl ⟨by rfl, ?_⟩) ?_ ?_
   rotate_left
   ·intro w'
    go_simp
    with_reducible rfl
   rotate_left
   ·simp only [Act.put, List.setIfInBounds_toArray, List.set_cons_zero, List.set_cons_succ, i64_w, i32_w]
    rfl
   exact norm_ (by simp only [putAll, Act.put, List.setIfInBounds_toArray, List.set_cons_zero, List.set_cons_succ]) (hCont g3 _ ⟨hHeld, B3d, BRd, HBd, G3⟩)
 rintro g3 w8 ⟨hHeld, B3, BR, HB, G3⟩
 clear BRd HBd
 have u0 : w8.cell? ⟨g3, 0, none⟩ = some (.int .i64 0) := (blk_cell B3.out 0).trans rfl
 have uf0 := blk_frozen B3.out 0
 refine norm_ (a' := ?_) ?_ ?_
 rotate_left
 ·simp only [putAll, Act.put, List.setIfInBounds_toArray, List.set_cons_zero, List.set_cons_succ]
  rfl
 refine pure_ (i := 15) (N := some 5) (v := ?_) (a' := ?_) #[true, true, true, true, true, true, true, true, true, true, true, true, true, true, true, true, false, false] rfl rfl (any_of HT_.out (by kernel_rfl)) (fun _ _ _ h => h) (Or.inl ⟨by rfl, ?_⟩) ?_ ?_
 rotate_left
 ·intro w'
  go_simp
  with_reducible rfl
 rotate_left
 ·simp only [Act.put, List.setIfInBounds_toArray, List.set_cons_zero, List.set_cons_succ, i64_w, i32_w]
  rfl
 refine pure_ (i := 16) (N := some 6) (v := ?_) (a' := ?_) #[true, true, true, true, true, true, true, true, true, true, true, true, true, true, true, true, true, false] rfl rfl (any_of HT_.out (by kernel_rfl)) (fun _ _ _ h => h) (Or.inl ⟨by rfl, ?_⟩) ?_ ?_
 rotate_left
 ·intro w'
  go_simp
  with_reducible rfl
 rotate_left
 ·simp only [Act.put, List.setIfInBounds_toArray, List.set_cons_zero, List.set_cons_succ, i64_w, i32_w]
  rfl
 refine last_ (i := 17) (N := none) #[true, true, true, true, true, true, true, true, true, true, true, true, true, true, true, true, true, true] rfl rfl (one_of HT_.out (by kernel_rfl)) (by decide) (fun K hK => ?_)
 refine skip_ (w1 := ?_) (by rfl) rfl ?_ ?_
 rotate_left
 ·go_simp
  rfl
 refine hK.out _ _ ?_
 clear hK K
 refine done_ (done_of HT_.out (by kernel_rfl)) ?_
 clear HT_ HW_ hHeld u0 uf0
 have nr3 : g ≠ g3 := Nat.ne_of_lt (Nat.lt_of_lt_of_le (blk_lt HBB.out) G3.out)
 have C3 := Aside0.mk (show (w8.setCell ⟨g3, 0, none⟩ (.int .i64 s3)).heap[g3]? = some (.cells #[.int .i64 s3] 26 (0, 0)) from blk_put B3.out 0 _ rfl)
 have CR := Aside0.mk (show (w8.setCell ⟨g3, 0, none⟩ (.int .i64 s3)).heap[g]? = some (.cells (RdB A l.length c at_ none) 56 (0, 0)) from blk_far (p := ⟨g3, 0, none⟩) BR.out nr3 _)
 have CB := Aside0.mk (show Below w.heap.size w (w8.setCell ⟨g3, 0, none⟩ (.int .i64 s3)) from below_set HB.out G3.out)
 clear B3 BR HB
 generalize (w8.setCell ⟨g3, 0, none⟩ (.int .i64 s3)) = w9 at C3 CR CB ⊢
 have y0 : w9.cell? ⟨g3, 0, none⟩ = some (.int .i64 s3) := (blk_cell C3.out 0).trans rfl
 have k1 : w9.cell? ⟨g, 2, none⟩ = some (.pointer none) := (blk_cell CR.out 2).trans rfl
 have kf := blk_frozen CR.out 2
 have n3 : g3 ≠ g := nr3.symm
 go_wp2_with (go_at_call 38; (with_reducible refine (bp_cas g g3 _ _ k1 kf y0).mono ?_); rintro _ _ ⟨rfl, rfl⟩)
 go_ret
 exact ⟨rfl, g3, blk_put CR.out 2 _ rfl, blk_far (p := ⟨g, 2, none⟩) C3.out n3 _, G3.out, bgrown_below CB.out (bgrown_set CR.out _ _)⟩
theorem num_in (A B C : List Int) (n : Nat) (hn : B.length = n) : numSpec (A ++ (B ++ C)) (A.length : Int) (n : Int) = (bev B, (A.length : Int) + n, 0) := by
 unfold numSpec
 rw [if_neg (by simp only [List.length_append]; omega), if_neg (by simp only [List.length_append]; omega)]
 simp only [Int.toNat_natCast, List.drop_left]
 rw [List.take_append_of_le_length (by omega), List.take_of_length_le (by omega)]
theorem get_in_mid (A C : List Int) (v : Int) (n : Nat) (h1 : 1 ≤ n) (h7 : n ≤ 7) (v0 : 0 ≤ v) (v1 : v < 256 ^ n) : getSpec (A ++ (be n v ++ C)) (A.length : Int) (n : Int) = (v, (A.length : Int) + n, 0) := by
 unfold getSpec
 rw [if_neg (by omega), num_in A (be n v) C n (be_length _ _), bev_be n v v0 v1]
theorem num_ok (l : List Int) (at_ : Int) (n : Nat) (h : (numSpec l at_ n).2.2 = 0) : (0 ≤ at_ ∧ at_ + n ≤ l.length) ∧ numSpec l at_ n = (bev ((l.drop at_.toNat).take n), at_ + n, 0) := by
 unfold numSpec at h ⊢
 split at h
 ·exact absurd h (by decide)
 rename_i g1
 rw [if_neg g1]
 split at h
 ·exact absurd h (by decide)
 rename_i g2
 rw [if_neg g2]
 exact ⟨⟨by omega, by omega⟩, by rw [Int.toNat_natCast]⟩
theorem get_was (l : List Int) (hB : Bytes l) (at_ : Int) (n : Nat) (h1 : 1 ≤ n) (h7 : n ≤ 7) (h : (getSpec l at_ n).2.2 = 0) :
  (0 ≤ at_ ∧ at_ + n ≤ l.length) ∧ (getSpec l at_ n).2.1 = at_ + n ∧ be n (getSpec l at_ n).1 = (l.drop at_.toNat).take n ∧ 0 ≤ (getSpec l at_ n).1 ∧ (getSpec l at_ n).1 < 256 ^ n := by
 unfold getSpec at h ⊢
 rw [if_neg (by omega)] at h ⊢
 obtain ⟨hr, he⟩ := num_ok l at_ n h
 rw [he]
 have hl : ((l.drop at_.toNat).take n).length = n := by rw [List.length_take, List.length_drop]; omega
 have hb := be_bev ((l.drop at_.toNat).take n) ((hB.drop _).take _)
 have hv := bev_range ((l.drop at_.toNat).take n) ((hB.drop _).take _)
 rw [hl] at hb hv
 exact ⟨hr, rfl, hb, hv⟩
theorem seg_add (l : List Int) (a m n : Nat) : (l.drop a).take (m + n) = (l.drop a).take m ++ (l.drop (a + m)).take n := by
 rw [List.take_add, List.drop_drop]
end Go.Proofs.Ytaiklcpmlkpfjaa.P
namespace Go.Proofs.Ytaiklcpmlkpfjaa.P
open Go.RowKit YtaiklcpmlkpfjaaW.PrintWords YtaiklcpmlkpfjaaW.PrintLast YtaiklcpmlkpfjaaW.PrintMore
open Classical
theorem boolq {p q : Prop} [Decidable p] [Decidable q] (h : p ↔ q) : (decide p) = (decide q) := by
 by_cases hp : p
 ·rw [decide_eq_true hp, decide_eq_true (h.mp hp)]
 ·rw [decide_eq_false hp, decide_eq_false (fun hq => hp (h.mpr hq))]
def EpR (n : Int) : Prop := 0 ≤ n ∧ n ≤ 4294967295
theorem bepoch_eq (n : Int) : beacon_epoch.f n = some (decide (EpR n)) := by
 unfold beacon_epoch.f
 by_cases h : n ≥ 0
 ·rw [if_pos h]
  exact congrArg some (boolq (q := EpR n) ⟨fun g => ⟨h, g⟩, fun g => g.2⟩)
 ·rw [if_neg h, decide_eq_false (p := EpR n) (fun g => h g.1)]
def AtR (Y : List S59) (i : Int) : Prop := 0 ≤ (rd_T59 Y i).f0 ∧ (rd_T59 Y i).f0 < 64 ∧ EpR (rd_T59 Y i).f1 ∧ (i = 0 ∨ (rd_T59 Y (i - 1)).f0 < (rd_T59 Y i).f0)
def RBn (n : Int) (Y : List S59) : Prop := EpR n ∧ ∀ i : Int, 0 ≤ i → i < Y.length → AtR Y i
def rbB (n : Int) (Y : List S59) : Bool := decide (0 ≤ n) && decide (n ≤ 4294967295) && (List.range Y.length).all fun i => decide (0 ≤ (rd_T59 Y i).f0) && decide ((rd_T59 Y i).f0 < 64) && decide (0 ≤ (rd_T59 Y i).f1) && decide ((rd_T59 Y i).f1 ≤ 4294967295) && (decide ((i : Int) = 0) || decide ((rd_T59 Y ((i : Int) - 1)).f0 < (rd_T59 Y i).f0))
theorem rbB_iff (n : Int) (Y : List S59) : rbB n Y = true ↔ RBn n Y := by
 unfold rbB RBn AtR EpR
 simp only [Bool.and_eq_true, Bool.or_eq_true, decide_eq_true_eq, List.all_eq_true, List.mem_range]
 constructor
 ·rintro ⟨⟨h0, h1⟩, h⟩
  refine ⟨⟨h0, h1⟩, fun i hi hl => ?_⟩
  obtain ⟨k, rfl⟩ := Int.eq_ofNat_of_zero_le hi
  obtain ⟨⟨⟨⟨a, b⟩, c⟩, d⟩, e⟩ := h k (by omega)
  exact ⟨a, b, ⟨c, d⟩, e⟩
 ·rintro ⟨⟨h0, h1⟩, h⟩
  refine ⟨⟨h0, h1⟩, fun k hk => ?_⟩
  obtain ⟨a, b, ⟨c, d⟩, e⟩ := h k (by omega) (by omega)
  exact ⟨⟨⟨⟨a, b⟩, c⟩, d⟩, e⟩
instance (n : Int) (Y : List S59) : Decidable (RBn n Y) := decidable_of_iff (rbB n Y = true) (rbB_iff n Y)
theorem from_next {Y : List S59} {i : Int} (h0 : 0 ≤ i) (hi : i < Y.length) : (∀ j : Int, i ≤ j → j < Y.length → AtR Y j) ↔ AtR Y i ∧ ∀ j : Int, i + 1 ≤ j → j < Y.length → AtR Y j := by
 constructor
 ·intro h; exact ⟨h i (Int.le_refl _) hi, fun j h1 h2 => h j (by omega) h2⟩
 ·rintro ⟨h, g⟩ j h1 h2
  by_cases e : j = i
  ·rw [e]; exact h
  ·exact g j (by omega) h2
def OkFrom (p : Prop) (Y : List S59) (i : Int) : Prop := p ∧ ∀ j : Int, i ≤ j → j < Y.length → AtR Y j
theorem bnc_l0 (n : Int) (Y : List S59) (hl : Y.length ≤ 1000000000000) : ∀ (m : Nat) (ok : Bool) (i : Int), 0 ≤ i → i + m = Y.length → Ev (fun k => beacon_Check.l0 k ok Y (Y.length : Int) i n Y) (if OkFrom (ok = true) Y i then 0 else 1) := by
 intro m
 induction m with
 | zero =>
  intro ok i h0 hi
  refine Ev.step (f := fun k => _) (fun k => by simp only [beacon_Check.l0]; rfl) ?_
  simp only [if_neg (show ¬ i < (Y.length : Int) by omega)]
  by_cases c : ok = true
  ·simp only [if_pos c, if_pos (show OkFrom (ok = true) Y i from ⟨c, fun j h1 h2 => absurd h2 (by omega)⟩)]
   exact Ev.now _
  ·simp only [if_neg c, if_neg (show ¬ OkFrom (ok = true) Y i from fun h => c h.1)]
   exact Ev.now _
 | succ m ih =>
  intro ok i h0 hi
  have hlt : i < (Y.length : Int) := by omega
  have key : ∀ b : Bool, (b = true ↔ ok = true ∧ AtR Y i) → Ev (fun k => beacon_Check.l0 k b Y (Y.length : Int) (i + 1) n Y) (if OkFrom (ok = true) Y i then 0 else 1) := by
   intro b hb
   have h := ih b (i + 1) (by omega) (by omega)
   have e : OkFrom (b = true) Y (i + 1) ↔ OkFrom (ok = true) Y i := by
    unfold OkFrom
    rw [hb, from_next h0 hlt, and_assoc]
   simp only [e] at h
   exact h
  have no : ¬ (ok = true ∧ AtR Y i) → Ev (fun k => beacon_Check.l0 k false Y (Y.length : Int) (i + 1) n Y) (if OkFrom (ok = true) Y i then 0 else 1) := fun h => key false ⟨fun g => (by simp at g), fun g => absurd g h⟩
  refine Ev.step (f := fun k => _) (fun k => by simp only [beacon_Check.l0]; rfl) ?_
  simp only [if_pos hlt, if_pos h0, bepoch_eq, Option.bind_some, w64 (x := i + 1) (by omega) (by omega), w64 (x := i - 1) (by omega) (by omega)]
  by_cases c : ok = true
  rotate_left
  ·simp only [if_neg c]; exact no (fun g => c g.1)
  simp only [if_pos c]
  by_cases c1 : (rd_T59 Y i).f0 ≥ 0
  rotate_left
  ·simp only [if_neg c1]; exact no (fun g => c1 g.2.1)
  simp only [if_pos c1]
  by_cases c2 : (rd_T59 Y i).f0 < 64
  rotate_left
  ·simp only [if_neg c2]; exact no (fun g => c2 g.2.2.1)
  simp only [if_pos c2]
  by_cases c3 : EpR (rd_T59 Y i).f1
  rotate_left
  ·simp only [decide_eq_false c3, Bool.false_eq_true, if_false]; exact no (fun g => c3 g.2.2.2.1)
  simp only [decide_eq_true c3, if_true]
  by_cases c4 : i = 0
  ·simp only [if_pos c4]
   exact key true ⟨fun _ => ⟨c, c1, c2, c3, .inl c4⟩, fun _ => rfl⟩
  ·simp only [if_neg c4, if_pos (show 0 ≤ i - 1 by omega), if_pos (show i - 1 < (Y.length : Int) by omega)]
   refine key _ ⟨fun g => ⟨c, c1, c2, c3, .inr (of_decide_eq_true g)⟩, fun g => decide_eq_true ?_⟩
   rcases g.2.2.2.2 with g | g
   ·exact absurd g c4
   ·exact g
theorem bncheck_ev (n : Int) (Y : List S59) (hl : Y.length ≤ 1000000000000) : Ev (fun k => beacon_Check.f k n Y) (if RBn n Y then 0 else 1) := by
 unfold beacon_Check.f
 simp only [bepoch_eq, Option.bind_some]
 have h := bnc_l0 n Y hl Y.length (decide (EpR n)) 0 (by omega) (by omega)
 have e : OkFrom (decide (EpR n) = true) Y 0 ↔ RBn n Y := by
  unfold OkFrom
  rw [decide_eq_true_iff]; rfl
 simp only [e] at h
 exact h
def rbN (l : List Int) (n at_ e : Int) : Int × Int × Int := if e = 0 then (if (getSpec l at_ n).2.2 = 0 then ((getSpec l at_ n).1, (getSpec l at_ n).2.1, 0) else (0, at_, (getSpec l at_ n).2.2)) else (0, at_, e)
def PE (w : World) (p : Option Addr) (e : Int) : Prop := (p = none ∧ e = 0) ∨ ∃ gb, p = some ⟨gb, 0, none⟩ ∧ ¬ e = 0 ∧ w.heap[gb]? = some (.cells #[.int .i64 e] 26 (0, 0))
theorem PE.nil (w : World) : PE w none 0 := Or.inl ⟨rfl, rfl⟩
theorem bn_number (g : Nat) (A : Option Addr) (c : Nat) (l : List Int) (at_ e sz v at2 e2 : Int) (p : Option Addr) (w : World) (hN : rbN l sz at_ e = (v, at2, e2)) (hB : Bytes l) (hl : l.length ≤ 1000000000000) (hr : Kd.C (Kd.int .u8) w A l.length l) (hc : l.length ≤ c)
  (hb : w.heap[g]? = some (.cells (RdB A l.length c at_ p) 56 (0, 0))) (hp : PE w p e) :
  Calls Try.prog 24 #[.pointer (some ⟨g, 0, none⟩), .int .i64 sz] w fun x w' => x = .returned (.int .i64 v) ∧ ∃ p2, w'.heap[g]? = some (.cells (RdB A l.length c at2 p2) 56 (0, 0)) ∧ PE w' p2 e2 ∧ w.grownBy w' (some g) := by
 unfold rbN at hN
 rcases hp with ⟨rfl, he⟩ | ⟨gb, rfl, he, hgb⟩
 ·rw [if_pos he] at hN
  obtain ⟨s1, s2, s3, hG⟩ : ∃ s1 s2 s3, getSpec l at_ sz = (s1, s2, s3) := ⟨_, _, _, rfl⟩
  rw [hG] at hN
  by_cases hs : s3 = 0
  ·rw [if_pos hs] at hN
   simp only [Prod.mk.injEq] at hN
   obtain ⟨rfl, rfl, rfl⟩ := hN
   refine (bn_ok g A c l at_ sz s1 s2 s3 w hG hs hB hl hr hc hb).mono ?_
   rintro x w' ⟨rfl, h1, h2⟩
   exact ⟨rfl, none, h1, .inl ⟨rfl, rfl⟩, h2⟩
  ·rw [if_neg hs] at hN
   simp only [Prod.mk.injEq] at hN
   obtain ⟨rfl, rfl, rfl⟩ := hN
   refine (bn_x g A c l at_ sz s1 s2 s3 w hG hs hB hl hr hc hb).mono ?_
   rintro x w' ⟨rfl, gb, h1, h3, _, h2⟩
   exact ⟨rfl, _, h1, .inr ⟨gb, rfl, hs, h3⟩, h2⟩
 ·rw [if_neg he] at hN
  simp only [Prod.mk.injEq] at hN
  obtain ⟨rfl, rfl, rfl⟩ := hN
  refine (bn_E g gb A l.length c at_ e sz w hb hgb).mono ?_
  rintro x w' ⟨rfl, rfl⟩
  exact ⟨rfl, _, hb, .inr ⟨gb, rfl, he, hgb⟩, rfl, rfl, rfl, Nat.le_refl _, fun _ _ _ => rfl⟩
def blL (l : List Int) : Nat → List S59 → Int → Int → List S59 × Int × Int
 | 0, Y, at_, e => (Y, at_, e)
 | m + 1, Y, at_, e => blL l m (Y ++ [⟨(rbN l 1 at_ e).1, (rbN l 4 (rbN l 1 at_ e).2.1 (rbN l 1 at_ e).2.2).1⟩]) (rbN l 4 (rbN l 1 at_ e).2.1 (rbN l 1 at_ e).2.2).2.1 (rbN l 4 (rbN l 1 at_ e).2.1 (rbN l 1 at_ e).2.2).2.2
def bnFin (n : Int) (Y : List S59) (at_ e : Int) : Int × List S59 × Int × Int := if e = 0 then (if RBn n Y then (n, Y, at_, 0) else (0, [], 0, 4)) else (0, [], 0, e)
def bnRest (l : List Int) (n m p2 e2 : Int) : Int × List S59 × Int × Int := bnFin n (blL l m.toNat [] p2 e2).1 (blL l m.toNat [] p2 e2).2.1 (blL l m.toNat [] p2 e2).2.2
def bnGo (l : List Int) (a : Int) : Int × List S59 × Int × Int := bnRest l (rbN l 4 a 0).1 (rbN l 1 (rbN l 4 a 0).2.1 (rbN l 4 a 0).2.2).1 (rbN l 1 (rbN l 4 a 0).2.1 (rbN l 4 a 0).2.2).2.1 (rbN l 1 (rbN l 4 a 0).2.1 (rbN l 4 a 0).2.2).2.2
instance (l : List Int) : Decidable (Bytes l) := by unfold Bytes; exact List.decidableBAll _ _
def beacon_Parse.f (l : List Int) (a : Int) : Option (Int × List S59 × Int × Int) := if l.length ≤ 1000000000000 ∧ Bytes l then some (bnGo l a) else none
theorem rbN_one {l : List Int} (hB : Bytes l) {a e v p f : Int} (h : rbN l 1 a e = (v, p, f)) : 0 ≤ v ∧ v ≤ 255 := by
 unfold rbN at h
 split at h
 ·split at h
  ·rename_i h0
   have hw := get_was l hB a 1 (by omega) (by omega) h0
   simp only [Prod.mk.injEq] at h
   obtain ⟨rfl, _, _⟩ := h
   rw [show ((1 : Nat) : Int) = 1 from rfl, show (256 : Int) ^ 1 = 256 by decide] at hw
   omega
  ·simp only [Prod.mk.injEq] at h; omega
 ·simp only [Prod.mk.injEq] at h; omega
theorem PE.below {w w' : World} {p : Option Addr} {e : Int} (h : PE w p e) (hb : Below w.heap.size w w') : PE w' p e := by
 rcases h with h | ⟨gb, h1, h2, h3⟩
 ·exact .inl h
 ·exact .inr ⟨gb, h1, h2, blk_below h3 hb⟩
theorem PE.grown {w w' : World} {p : Option Addr} {e : Int} {b : Option Nat} (h : PE w p e) (hg : w.grownBy w' b) (hb : ∀ gb o, w.heap[gb]? = some (.cells o 26 (0, 0)) → some gb ≠ b) : PE w' p e := by
 rcases h with h | ⟨gb, h1, h2, h3⟩
 ·exact .inl h
 ·exact .inr ⟨gb, h1, h2, blk_grown h3 hg (hb gb _ h3)⟩
theorem PE.set {w : World} {p : Option Addr} {e : Int} {g i : Nat} {u : Value} (h : PE w p e) (hb : ∀ gb o, w.heap[gb]? = some (.cells o 26 (0, 0)) → gb ≠ g) : PE (w.setCell ⟨g, i, none⟩ u) p e := by
 rcases h with h | ⟨gb, h1, h2, h3⟩
 ·exact .inl h
 ·exact .inr ⟨gb, h1, h2, blk_far (p := ⟨g, i, none⟩) h3 (hb gb _ h3) _⟩
structure BnSt (w0 w : World) (A : Option Addr) (n c g4 g7 g8 : Nat) (at_ e N : Int) (u : Value) (Y : List S59) : Prop where
 bl : Below w0.heap.size w0 w
 b4 : w.heap[g4]? = some (.cells #[.int .i64 0, .slice none 0 0] 25 (0, 0))
 br : ∃ p, w.heap[g7]? = some (.cells (RdB A n c at_ p) 56 (0, 0)) ∧ PE w p e
 b8 : w.heap[g8]? = some (.cells #[.int .i64 N, u] 25 (0, 0))
 row : Kd.R k59 59 w w0.heap.size (fun _ => True) u Y
 n4 : w0.heap.size ≤ g4
 n7 : w0.heap.size ≤ g7
 n8 : w0.heap.size ≤ g8
 d48 : g4 ≠ g8
theorem BnSt.below {w0 w : World} {A : Option Addr} {n c g4 g7 g8 : Nat} {at_ e N : Int} {u : Value} {Y : List S59} {w' : World} (h : BnSt w0 w A n c g4 g7 g8 at_ e N u Y) (hb : Below w.heap.size w w') : BnSt w0 w' A n c g4 g7 g8 at_ e N u Y := by
 obtain ⟨p, h1, h2⟩ := h.br
 exact ⟨below_step h.bl hb, blk_below h.b4 hb, ⟨p, blk_below h1 hb, h2.below hb⟩, blk_below h.b8 hb, Kd.R_below h.row hb, h.n4, h.n7, h.n8, h.d48⟩
theorem BnSt.drew {w0 w : World} {A : Option Addr} {n c g4 g7 g8 : Nat} {at_ e N : Int} {u : Value} {Y : List S59} (h : BnSt w0 w A n c g4 g7 g8 at_ e N u Y) : BnSt w0 w.drew A n c g4 g7 g8 at_ e N u Y := h.below (below_drew (Below.refl _ _))
theorem BnSt.call {w0 w : World} {A : Option Addr} {n c g4 g7 g8 : Nat} {at_ e N : Int} {u : Value} {Y : List S59} {w' : World} {at2 e2 : Int} {p2 : Option Addr} (h : BnSt w0 w A n c g4 g7 g8 at_ e N u Y) (hb : w'.heap[g7]? = some (.cells (RdB A n c at2 p2) 56 (0, 0))) (hp : PE w' p2 e2) (hg : w.grownBy w' (some g7)) : BnSt w0 w' A n c g4 g7 g8 at2 e2 N u Y := by
 obtain ⟨p, h1, h2⟩ := h.br
 exact ⟨pw_below_grown h.bl (some g7) (below_size h.bl) hg (fun k_ e_ => by cases e_; exact h.n7), blk_grown h.b4 hg (fun e_ => blk_ne h.b4 h1 (by decide) (Option.some.inj e_)), ⟨p2, hb, hp⟩, blk_grown h.b8 hg (fun e_ => blk_ne h.b8 h1 (by decide) (Option.some.inj e_)),
  Kd.R_mono (Kd.R_grown (Kd.R_types h.row h1 (by decide)) hg (fun k hk e_ => hk.2 (Option.some.inj e_))) (fun _ _ => trivial), h.n4, h.n7, h.n8, h.d48⟩
theorem BnSt.set0 {w0 w : World} {A : Option Addr} {n c g4 g7 g8 : Nat} {at_ e N : Int} {u : Value} {Y : List S59} (h : BnSt w0 w A n c g4 g7 g8 at_ e N u Y) (N2 : Int) : BnSt w0 (w.setCell ⟨g8, 0, none⟩ (.int .i64 N2)) A n c g4 g7 g8 at_ e N2 u Y := by
 obtain ⟨p, h1, h2⟩ := h.br
 exact ⟨below_set h.bl h.n8, blk_far (p := ⟨g8, 0, none⟩) h.b4 h.d48 _, ⟨p, blk_far (p := ⟨g8, 0, none⟩) h1 (blk_ne h1 h.b8 (by decide)) _, h2.set (fun gb o ho => blk_ne ho h.b8 (by decide))⟩, blk_put h.b8 0 _ rfl,
  Kd.R_mono (Kd.R_set h.row h.b8 (by decide) 0 _) (fun _ _ => trivial), h.n4, h.n7, h.n8, h.d48⟩
theorem BnSt.set1 {w0 w : World} {A : Option Addr} {n c g4 g7 g8 : Nat} {at_ e N : Int} {u : Value} {Y : List S59} (h : BnSt w0 w A n c g4 g7 g8 at_ e N u Y) {u2 : Value} {Y2 : List S59} (hr : Kd.R k59 59 w w0.heap.size (fun _ => True) u2 Y2) : BnSt w0 (w.setCell ⟨g8, 1, none⟩ u2) A n c g4 g7 g8 at_ e N u2 Y2 := by
 obtain ⟨p, h1, h2⟩ := h.br
 exact ⟨below_set h.bl h.n8, blk_far (p := ⟨g8, 1, none⟩) h.b4 h.d48 _, ⟨p, blk_far (p := ⟨g8, 1, none⟩) h1 (blk_ne h1 h.b8 (by decide)) _, h2.set (fun gb o ho => blk_ne ho h.b8 (by decide))⟩, blk_put h.b8 1 _ rfl,
  Kd.R_mono (Kd.R_set hr h.b8 (by decide) 1 _) (fun _ _ => trivial), h.n4, h.n7, h.n8, h.d48⟩
theorem BnSt.app8 {w0 w : World} {A : Option Addr} {n c g4 g7 g8 : Nat} {at_ e N : Int} {u : Value} {Y : List S59} {w' : World} (h : BnSt w0 w A n c g4 g7 g8 at_ e N u Y) (hg : w.grownBy w' u.ownBlock) : w'.heap[g8]? = some (.cells #[.int .i64 N, u] 25 (0, 0)) := blk_grown h.b8 hg (Kd.R_ne h.row h.b8 (by decide))
theorem BnSt.app {w0 w : World} {A : Option Addr} {n c g4 g7 g8 : Nat} {at_ e N : Int} {u : Value} {Y : List S59} {w' : World} {u2 : Value} {Y2 : List S59} (h : BnSt w0 w A n c g4 g7 g8 at_ e N u Y) (hr : Kd.R k59 59 w' w0.heap.size (fun _ => True) u2 Y2) (hb : Below w0.heap.size w0 w') (hg : w.grownBy w' u.ownBlock) : BnSt w0 (w'.setCell ⟨g8, 1, none⟩ u2) A n c g4 g7 g8 at_ e N u2 Y2 := by
 obtain ⟨p, h1, h2⟩ := h.br
 have b8 := h.app8 hg
 have b4 := blk_grown h.b4 hg (Kd.R_ne h.row h.b4 (by decide))
 have b7 := blk_grown h1 hg (Kd.R_ne h.row h1 (by decide))
 have pe := h2.grown hg (fun gb o ho => Kd.R_ne h.row ho (by decide))
 exact ⟨below_set hb h.n8, blk_far (p := ⟨g8, 1, none⟩) b4 h.d48 _, ⟨p, blk_far (p := ⟨g8, 1, none⟩) b7 (blk_ne b7 b8 (by decide)) _, pe.set (fun gb o ho => blk_ne ho b8 (by decide))⟩, blk_put b8 1 _ rfl,
  Kd.R_mono (Kd.R_set hr b8 (by decide) 1 _) (fun _ _ => trivial), h.n4, h.n7, h.n8, h.d48⟩
structure BnEc (w0 w : World) (A : Option Addr) (n c g4 g7 g8 g9 : Nat) (at_ e N : Int) (u : Value) (Y : List S59) (x y : Int) : Prop where
 st : BnSt w0 w A n c g4 g7 g8 at_ e N u Y
 b9 : w.heap[g9]? = some (.cells #[.int .i64 x, .int .i64 y] 59 (0, 0))
 away : Kd.R k59 59 w w0.heap.size (fun k => True ∧ k ≠ g9) u Y
 n9 : w0.heap.size ≤ g9
theorem BnEc.new {w0 w : World} {A : Option Addr} {n c g4 g7 g8 : Nat} {at_ e N : Int} {u : Value} {Y : List S59} {w' : World} {g9 : Nat} (h : BnSt w0 w A n c g4 g7 g8 at_ e N u Y) (hb : Below w.heap.size w w') (h9 : w'.heap[g9]? = some (.cells #[.int .i64 0, .int .i64 0] 59 (0, 0))) (hg : w.heap.size ≤ g9) : BnEc w0 w' A n c g4 g7 g8 g9 at_ e N u Y 0 0 :=
 ⟨h.below hb, h9, Kd.R_below (Kd.R_elderB h.row g9 hg) hb, Nat.le_trans (below_size h.bl) hg⟩
theorem BnEc.set {w0 w : World} {A : Option Addr} {n c g4 g7 g8 : Nat} {at_ e N : Int} {u : Value} {Y : List S59} {g9 : Nat} {x y x2 y2 : Int} (h : BnEc w0 w A n c g4 g7 g8 g9 at_ e N u Y x y) (i : Nat) (z : Int) (hs : (#[Value.int .i64 x, .int .i64 y] : Array Value).setIfInBounds i (.int .i64 z) = #[.int .i64 x2, .int .i64 y2]) : BnEc w0 (w.setCell ⟨g9, i, none⟩ (.int .i64 z)) A n c g4 g7 g8 g9 at_ e N u Y x2 y2 := by
 obtain ⟨p, h1, h2⟩ := h.st.br
 have far := Kd.R_far (p := ⟨g9, i, none⟩) h.away (fun _ hk => hk.2) (.int .i64 z)
 exact ⟨⟨below_set h.st.bl h.n9, blk_far (p := ⟨g9, i, none⟩) h.st.b4 (blk_ne h.st.b4 h.b9 (by decide)) _, ⟨p, blk_far (p := ⟨g9, i, none⟩) h1 (blk_ne h1 h.b9 (by decide)) _, h2.set (fun gb o ho => blk_ne ho h.b9 (by decide))⟩, blk_far (p := ⟨g9, i, none⟩) h.st.b8 (blk_ne h.st.b8 h.b9 (by decide)) _,
  Kd.R_mono far (fun _ _ => trivial), h.st.n4, h.st.n7, h.st.n8, h.st.d48⟩, blk_put h.b9 i _ hs, far, h.n9⟩
theorem BnEc.call {w0 w : World} {A : Option Addr} {n c g4 g7 g8 : Nat} {at_ e N : Int} {u : Value} {Y : List S59} {g9 : Nat} {x y : Int} {w' : World} {at2 e2 : Int} {p2 : Option Addr} (h : BnEc w0 w A n c g4 g7 g8 g9 at_ e N u Y x y) (hb : w'.heap[g7]? = some (.cells (RdB A n c at2 p2) 56 (0, 0))) (hp : PE w' p2 e2) (hg : w.grownBy w' (some g7)) : BnEc w0 w' A n c g4 g7 g8 g9 at2 e2 N u Y x y := by
 obtain ⟨p, h1, h2⟩ := h.st.br
 exact ⟨h.st.call hb hp hg, blk_grown h.b9 hg (fun e_ => blk_ne h.b9 h1 (by decide) (Option.some.inj e_)), Kd.R_mono (Kd.R_grown (Kd.R_types h.away h1 (by decide)) hg (fun k hk e_ => hk.2 (Option.some.inj e_))) (fun _ hk => hk.1), h.n9⟩
def beacon_Parse.T11 : Bool × List (List Nat × List Nat) := (true, [([], []), ([], []), ([1], [1]), ([2], [2]), ([0, 0], [0]), ([4, 0, 4], []), ([3, 5, 0, 1, 2, 3, 4, 5], [3])])
def beacon_Parse.B11 : List Nat := [0, 0, 2, 6, 1, 17, 63]
theorem beacon_Parse.tab11 : rtab .any (opsOf Try.f8 11) = beacon_Parse.T11 := by kernel_rfl
theorem beacon_Parse.bits11 : waitsOk beacon_Parse.T11.2 beacon_Parse.B11 = true := by kernel_rfl
def beacon_Parse.T14 : Bool × List (List Nat × List Nat) := (true, [([], []), ([], []), ([1], [1]), ([2], [2]), ([3], [3]), ([0, 0], [0]), ([4, 5, 0, 1, 2, 3, 4, 5], [4]), ([6, 0, 1, 2, 3, 4, 5, 6], [])])
def beacon_Parse.B14 : List Nat := [0, 0, 2, 6, 14, 1, 63, 127]
theorem beacon_Parse.tab14 : rtab .any (opsOf Try.f8 14) = beacon_Parse.T14 := by kernel_rfl
theorem beacon_Parse.bits14 : waitsOk beacon_Parse.T14.2 beacon_Parse.B14 = true := by kernel_rfl
theorem beacon_Parse.calls (A0 : Option Addr) (c0 : Nat) (l0 : List Int) (a1 : Int) (r1 : Int) (r2 : List S59) (r3 r4 : Int) (w : World) (hr0 : Kd.C (Kd.int .u8) w A0 l0.length l0) (hc0 : l0.length ≤ c0) (h : beacon_Parse.f l0 a1 = some (r1, r2, r3, r4)) :
  Calls Try.prog 8 #[.slice A0 l0.length c0, .int .i64 a1] w fun e w' => ∃ v1_ : Value, e = .returned (.tuple #[.agg #[.int .i64 r1, v1_], .int .i64 r3, .int .i64 r4]) ∧ Kd.R k59 59 w' w.heap.size (fun _ => True) v1_ r2 ∧ Below w.heap.size w w' := by
 have hu25 := Try.underlying25
 have hu59 := Try.underlying59
 have hu56 := Try.underlying56
 obtain ⟨hL, hB, hP⟩ : l0.length ≤ 1000000000000 ∧ Bytes l0 ∧ bnGo l0 a1 = (r1, r2, r3, r4) := by
  unfold beacon_Parse.f at h
  split at h
  ·rename_i hc
   exact ⟨hc.1, hc.2, Option.some.inj h⟩
  ·exact absurd h (by simp)
 clear h
 unfold bnGo at hP
 obtain ⟨n, p1, e1, h1⟩ : ∃ n p e, rbN l0 4 a1 0 = (n, p, e) := ⟨_, _, _, rfl⟩
 rw [h1] at hP
 simp only at hP
 obtain ⟨m, p2, e2, h2⟩ : ∃ n p e, rbN l0 1 p1 e1 = (n, p, e) := ⟨_, _, _, rfl⟩
 rw [h2] at hP
 simp only [bnRest] at hP
 have hm := rbN_one hB h2
 obtain ⟨M, rfl⟩ := Int.eq_ofNat_of_zero_le hm.1
 rw [Int.toNat_natCast] at hP
 obtain ⟨Y, at3, e3, hz⟩ : ∃ Y at3 e3, blL l0 M [] p2 e2 = (Y, at3, e3) := ⟨_, _, _, rfl⟩
 rw [hz] at hP
 simp only [bnFin] at hP
 have HL := Aside0.mk hL
 have HY := Aside0.mk hB
 have HR0 := Aside0.mk hr0
 have HC0 := Aside0.mk hc0
 have H1 := Aside0.mk h1
 have H2 := Aside0.mk h2
 have HZ := Aside0.mk hz
 have HP := Aside0.mk hP
 have HM := Aside0.mk hm.2
 clear hL hB hr0 hc0 h1 h2 hz hP hm
 go_enter Try.func8, Try.ntmps8
 go_upto_region 3 with (first
  | ((with_reducible refine gate_dst (N := 4) rfl ?_); refine box_event ?hg (N := 4) ?hd (cs := #[.int .i64 0, .slice none 0 0]) (t := 25) ?hr ?_; (case hd => rfl); (case hg => rfl); (case hr => first | (go_simp; done) | (go_simp; rfl)); intro g4 hg w4 hbox hb; have HB4 := Aside0.mk hb; have G4 := Aside0.mk (Nat.le_of_eq hg.symm); have B4 := Aside0.mk hbox; clear hb hbox hg)
  | ((with_reducible refine gate_dst (N := 14) rfl ?_); refine box_event ?hg (N := 14) ?hd (cs := RdB A0 l0.length c0 a1 none) (t := 56) ?hr ?_; (case hd => rfl); (case hg => rfl); (case hr => first | (go_simp; done) | (go_simp; rfl)); intro g7 hg w5 hbox hb; have HB5 := Aside0.mk (below_step HB4.out hb); have G7 := Aside0.mk (show w.heap.size ≤ g7 by rw [hg]; exact below_size HB4.out); have B45 := Aside0.mk (blk_below B4.out hb); have BR := Aside0.mk hbox; clear hb hbox hg HB4 B4)
  | (go_at_call 24; (with_reducible refine (bn_number g7 A0 c0 l0 a1 0 4 _ _ _ none _ H1.out HY.out HL.out (Kd.C_below HR0.out HB5.out) HC0.out BR.out (PE.nil w5)).mono ?_); rintro x_ w16 ⟨rfl, pp1, hbx, hpx, hgr⟩; have HB6 := Aside0.mk (pw_below_grown HB5.out (some g7) (below_size HB5.out) hgr (fun k_ e_ => by cases e_; exact G7.out)); have B46 := Aside0.mk (blk_grown B45.out hgr (fun e_ => blk_ne B45.out BR.out (by decide) (Option.some.inj e_))); have BR6 := Aside0.mk hbx; have PE6 := Aside0.mk hpx; clear hbx hpx hgr HB5 B45 BR)
  | ((with_reducible refine gate_dst (N := 8) rfl ?_); refine box_event ?hg (N := 8) ?hd (cs := #[.int .i64 0, .slice none 0 0]) (t := 25) ?hr ?_; (case hd => rfl); (case hg => rfl); (case hr => first | (go_simp; done) | (go_simp; rfl)); intro g8 hg w8 hbox hb; have ST0 := Aside0.mk (BnSt.mk (c := c0) (below_step HB6.out hb) (blk_below B46.out hb) ⟨pp1, blk_below BR6.out hb, PE.below PE6.out hb⟩ hbox (Kd.R_nil _ _ _ _ _) G4.out G7.out (by rw [hg]; exact below_size HB6.out) (by rw [hg]; exact Nat.ne_of_lt (blk_lt B46.out))); clear hb hbox hg; have u0 := (blk_cell ST0.out.b8 0).trans rfl; have u1 := (blk_cell ST0.out.b8 1).trans rfl; have uf0 := blk_frozen ST0.out.b8 0; have uf1 := blk_frozen ST0.out.b8 1))
 have ST := Aside0.mk ((ST0.out.set0 n).set1 (u2 := .slice none 0 0) (Y2 := []) (Kd.R_nil _ _ _ _ _))
 clear ST0 u0 u1 uf0 uf1
 generalize ((w8.setCell ⟨g8, 0, none⟩ (.int .i64 n)).setCell ⟨g8, 1, none⟩ (.slice none 0 0)) = wq at ST ⊢
 obtain ⟨pp, hbr, hpe⟩ := ST.out.br
 go_wp2_with ((go_at_call 24; (with_reducible refine (bn_number g7 A0 c0 l0 p1 e1 1 _ _ _ _ _ H2.out HY.out HL.out (Kd.C_below HR0.out ST.out.bl) HC0.out hbr hpe).mono ?_); rintro x_ w19 ⟨rfl, pp2, hbx, hpx, hgr⟩; have STn := Aside0.mk (ST.out.call hbx hpx hgr); clear hbx hpx hgr))
 clear ST hbr hpe
 have ST := STn
 clear STn
 go_loopg [20] M (fun kq v20 wr => ∃ (i : Nat) (at_ e : Int) (u : Value) (Z : List S59), v20 = .int .i64 i ∧ Aside0 (i + kq = M) ∧ Aside0 (blL l0 kq Z at_ e = (Y, at3, e3)) ∧ Aside0 (Z.length = i) ∧ Aside0 (BnSt w wr A0 l0.length c0 g4 g7 g8 at_ e n u Z))
 case atStart => exact ⟨0, p2, e2, .slice none 0 0, [], rfl, ⟨by omega⟩, HZ, ⟨rfl⟩, ST⟩
 case round =>
  clear ST HZ
  obtain ⟨i, at_, e, u, Z, rfl, HI, HZ, HN, ST⟩ := hrel
  cases gk with
  | zero =>
   obtain rfl : i = M := by have := HI.out; omega
   have hz := HZ.out
   simp only [blL, Prod.mk.injEq] at hz
   obtain ⟨rfl, rfl, rfl⟩ := hz
   clear HZ HI
   obtain ⟨pp, hbr, hpe⟩ := ST.out.br
   obtain ⟨Au, cu, eu⟩ := Kd.R_slice ST.out.row
   subst eu
   rcases hpe with ⟨rfl, he⟩ | ⟨gb, rfl, he, hgb⟩
   ·subst he
    have hP := HP.out
    rw [if_pos rfl] at hP
    have h2 : wr.cell? ⟨g7, 2, none⟩ = some (.pointer none) := (blk_cell hbr 2).trans rfl
    have k0 : wr.cell? ⟨g8, 0, none⟩ = some (.int .i64 n) := (blk_cell ST.out.b8 0).trans rfl
    have k1 : wr.cell? ⟨g8, 1, none⟩ = some (.slice Au Z.length cu) := (blk_cell ST.out.b8 1).trans rfl
    obtain ⟨K, hK⟩ := (bncheck_ev n Z (by have := HN.out; have := HM.out; omega)).rounds
    by_cases hR : RBn n Z
    ·rw [if_pos hR] at hP hK
     simp only [Prod.mk.injEq] at hP
     obtain ⟨rfl, rfl, rfl, rfl⟩ := hP
     have HK := Aside0.mk hK
     clear hK hR HP
     go_upto_region 14 with (first
      | (go_at_call 25; (with_reducible refine (bp_load0 g7 _ h2).mono ?_); rintro _ _ ⟨rfl, rfl⟩)
      | (go_at_call 22; (with_reducible refine (beacon_Check.calls K n Au cu Z 0 _ (Kd.R_reads' ST.out.row).2.2 (Kd.R_reads' ST.out.row).2.1 HK.out).mono ?_); rintro x_ ws ⟨rfl, hb⟩; have STn := Aside0.mk (ST.out.below hb); clear hb; have y0 := (blk_cell STn.out.b4 0).trans rfl; have y1 := (blk_cell STn.out.b4 1).trans rfl; have yf0 := blk_frozen STn.out.b4 0; have yf1 := blk_frozen STn.out.b4 1))
     clear y0 y1 yf0 yf1 k0 k1 h2 hbr ST
     have ST := Aside0.mk STn.out.drew
     clear STn
     obtain ⟨pp7, hb7, hp7⟩ := ST.out.br
     refine start_ (n := 8) (S := fun w' => w'.cell? ⟨g8, 0, none⟩ = some (.int .i64 n) ∧ w'.cell? ⟨g8, 1, none⟩ = some (.slice Au Z.length cu) ∧ w'.cell? ⟨g7, 1, none⟩ = some (.int .i64 at_)) (ds := []) #[false, false, false, false, false, false, false, false] (by kernel_rfl) rfl rfl ⟨(blk_cell ST.out.b8 0).trans rfl, (blk_cell ST.out.b8 1).trans rfl, (blk_cell hb7 1).trans rfl⟩ (fun hHeld => ?_); refine with_tabW beacon_Parse.tab14 beacon_Parse.bits14 (fun HT_ HW_ => ?_)
     generalize ws.drew = wd at ST hHeld ⊢
     have o0 : wd.cell? ⟨g4, 0, none⟩ = some (.int .i64 0) := (blk_cell ST.out.b4 0).trans rfl
     have o1 : wd.cell? ⟨g4, 1, none⟩ = some (.slice none 0 0) := (blk_cell ST.out.b4 1).trans rfl
     have of0 := blk_frozen ST.out.b4 0
     have of1 := blk_frozen ST.out.b4 1
     have n84 : g8 ≠ g4 := ST.out.d48.symm
     have n74 : g7 ≠ g4 := by obtain ⟨_, h7, _⟩ := ST.out.br; exact blk_ne h7 ST.out.b4 (by decide)
     refine pure_ (i := 1) (N := some 52) (v := ?_) (a' := ?_) #[false, true, false, false, false, false, false, false] rfl rfl (any_of HT_.out (by kernel_rfl)) (fun _ _ _ h => h) (Or.inl ⟨by rfl, ?_⟩) ?_ ?_
     rotate_left
     ·intro w'
      go_simp
      with_reducible rfl
     rotate_left
     ·simp only [Act.put, List.setIfInBounds_toArray, List.set_cons_zero, List.set_cons_succ, i64_w, i32_w]
      rfl
     refine pure_ (i := 2) (N := some 53) (v := ?_) (a' := ?_) #[false, true, true, false, false, false, false, false] rfl rfl (any_of HT_.out (by kernel_rfl)) (fun _ _ _ h => h) (Or.inl ⟨by rfl, ?_⟩) ?_ ?_
     rotate_left
     ·intro w'
      go_simp
      with_reducible rfl
     rotate_left
     ·simp only [Act.put, List.setIfInBounds_toArray, List.set_cons_zero, List.set_cons_succ, i64_w, i32_w]
      rfl
     refine pure_ (i := 3) (N := some 54) (v := ?_) (a' := ?_) #[false, true, true, true, false, false, false, false] rfl rfl (any_of HT_.out (by kernel_rfl)) (fun _ _ _ h => h) (Or.inl ⟨by rfl, ?_⟩) ?_ ?_
     rotate_left
     ·intro w'
      go_simp
      with_reducible rfl
     rotate_left
     ·simp only [Act.put, List.setIfInBounds_toArray, List.set_cons_zero, List.set_cons_succ, i64_w, i32_w]
      rfl
     refine take_ (i := 0) (N := some 51) (v := ?_) (a' := ?_) #[true, true, true, true, false, false, false, false] rfl rfl (take_ofW HT_.out HW_.out (by kernel_rfl)) (fun _ _ _ h => h) (Or.inl ⟨by rfl, ?_⟩) hHeld ?_ ?_
     rotate_left
     ·rintro w' ⟨s0, s1, s2⟩
      go_simp
      with_reducible rfl
     rotate_left
     ·simp only [Act.put, List.setIfInBounds_toArray, List.set_cons_zero, List.set_cons_succ, i64_w, i32_w]
      rfl
     refine take_ (i := 4) (N := some 55) (v := ?_) (a' := ?_) #[true, true, true, true, true, false, false, false] rfl rfl (take_ofW HT_.out HW_.out (by kernel_rfl)) (fun _ _ _ h => h) (Or.inl ⟨by rfl, ?_⟩) hHeld ?_ ?_
     rotate_left
     ·rintro w' ⟨s0, s1, s2⟩
      go_simp
      with_reducible rfl
     rotate_left
     ·simp only [Act.put, List.setIfInBounds_toArray, List.set_cons_zero, List.set_cons_succ, i64_w, i32_w]
      rfl
     refine one_ (i := 5) (N := none) #[true, true, true, true, true, true, false, false] rfl rfl (one_of HT_.out (by kernel_rfl)) (by decide) (fun K hK => ?_)
     refine skip_ (w1 := ?_) (by rfl) rfl ?_ ?_
     rotate_left
     ·go_simp
      rfl
     refine hK.out _ _ ?_ (fun hHeld2 => ?_)
     ·refine ⟨?_, ?_, ?_⟩
      ·(repeat (first | refine (cell_far n84 _).trans ?_ | refine (cell_far n74 _).trans ?_)); exact hHeld.1
      ·(repeat (first | refine (cell_far n84 _).trans ?_ | refine (cell_far n74 _).trans ?_)); exact hHeld.2.1
      ·(repeat (first | refine (cell_far n84 _).trans ?_ | refine (cell_far n74 _).trans ?_)); exact hHeld.2.2
     clear hHeld
     have hHeld := hHeld2
     clear hHeld2
     clear hK K
     refine pure_ (i := 6) (N := some 5) (v := ?_) (a' := ?_) #[true, true, true, true, true, true, true, false] rfl rfl (any_of HT_.out (by kernel_rfl)) (fun _ _ _ h => h) (Or.inl ⟨by rfl, ?_⟩) ?_ ?_
     rotate_left
     ·intro w'
      go_simp
      with_reducible rfl
     rotate_left
     ·simp only [Act.put, List.setIfInBounds_toArray, List.set_cons_zero, List.set_cons_succ, i64_w, i32_w]
      rfl
     refine pure_ (i := 7) (N := some 6) (v := ?_) (a' := ?_) #[true, true, true, true, true, true, true, true] rfl rfl (any_of HT_.out (by kernel_rfl)) (fun _ _ _ h => h) (Or.inl ⟨by rfl, ?_⟩) ?_ ?_
     rotate_left
     ·intro w'
      go_simp
      with_reducible rfl
     rotate_left
     ·simp only [Act.put, List.setIfInBounds_toArray, List.set_cons_zero, List.set_cons_succ, i64_w, i32_w]
      rfl
     refine done_ (done_of HT_.out (by kernel_rfl)) ?_
     clear HT_ HW_
     try go_wp2
     refine bodyPost_ret (results_ctt rfl _ _ g4 25 #[.int .i64 n, .slice Au Z.length cu] (0, 0) _ rfl (blk_put (blk_put ST.out.b4 0 (.int .i64 n) (cs' := #[.int .i64 n, .slice none 0 0]) rfl) 1 (.slice Au Z.length cu) (cs' := #[.int .i64 n, .slice Au Z.length cu]) rfl) Try.underlying25 rfl (by kernel_rfl)) rfl ?_
     exact ⟨_, rfl, Kd.R_mono (Kd.R_far (p := ⟨g4, 1, none⟩) (Kd.R_far (p := ⟨g4, 0, none⟩) (Kd.R_types ST.out.row ST.out.b4 (by decide)) (fun _ hk => hk.2) _) (fun _ hk => hk.2) _) (fun _ _ => trivial), below_set (below_set ST.out.bl ST.out.n4) ST.out.n4⟩
    ·rw [if_neg hR] at hP hK
     simp only [Prod.mk.injEq] at hP
     obtain ⟨rfl, rfl, rfl, rfl⟩ := hP
     have HK := Aside0.mk hK
     clear hK hR HP
     go_wp2_with (first
      | (go_at_call 25; (with_reducible refine (bp_load0 g7 _ h2).mono ?_); rintro _ _ ⟨rfl, rfl⟩)
      | (go_at_call 22; (with_reducible refine (beacon_Check.calls K n Au cu Z 1 _ (Kd.R_reads' ST.out.row).2.2 (Kd.R_reads' ST.out.row).2.1 HK.out).mono ?_); rintro x_ ws ⟨rfl, hb⟩; have STn := Aside0.mk (ST.out.below hb); clear hb; have y0 := (blk_cell STn.out.b4 0).trans rfl; have y1 := (blk_cell STn.out.b4 1).trans rfl; have yf0 := blk_frozen STn.out.b4 0; have yf1 := blk_frozen STn.out.b4 1))
     clear ST
     have ST := STn
     refine bodyPost_ret (results_ctt rfl _ _ g4 25 #[.int .i64 0, .slice none 0 0] (0, 0) _ rfl (blk_put (blk_put ST.out.b4 0 (.int .i64 0) (cs' := #[.int .i64 0, .slice none 0 0]) rfl) 1 (.slice none 0 0) (cs' := #[.int .i64 0, .slice none 0 0]) rfl) Try.underlying25 rfl (by kernel_rfl)) rfl ?_
     exact ⟨_, rfl, Kd.R_nil _ _ _ _ _, below_set (below_set ST.out.bl ST.out.n4) ST.out.n4⟩
   ·have hP := HP.out
    rw [if_neg he] at hP
    simp only [Prod.mk.injEq] at hP
    obtain ⟨rfl, rfl, rfl, rfl⟩ := hP
    have GB := Aside0.mk hgb
    have h2 : wr.cell? ⟨g7, 2, none⟩ = some (.pointer (some ⟨gb, 0, none⟩)) := (blk_cell hbr 2).trans rfl
    clear hgb hbr he HP
    go_upto_region 11 with ((go_at_call 25; (with_reducible refine (bp_load1 g7 gb e _ h2 GB.out).mono ?_); rintro _ _ ⟨rfl, rfl⟩))
    clear h2
    have STd := Aside0.mk ST.out.drew
    clear ST
    have ST := STd
    clear STd
    have GBd := Aside0.mk (show wr.drew.heap[gb]? = _ from GB.out)
    clear GB
    have GB := GBd
    clear GBd
    refine start_ (n := 7) (S := fun w' => w'.cell? ⟨gb, 0, none⟩ = some (.int .i64 e)) (ds := []) #[false, false, false, false, false, false, false] (by kernel_rfl) rfl rfl ((blk_cell GB.out 0).trans rfl) (fun hHeld => ?_); refine with_tabW beacon_Parse.tab11 beacon_Parse.bits11 (fun HT_ HW_ => ?_)
    generalize wr.drew = wd at ST hHeld GB ⊢
    have o0 : wd.cell? ⟨g4, 0, none⟩ = some (.int .i64 0) := (blk_cell ST.out.b4 0).trans rfl
    have o1 : wd.cell? ⟨g4, 1, none⟩ = some (.slice none 0 0) := (blk_cell ST.out.b4 1).trans rfl
    have of0 := blk_frozen ST.out.b4 0
    have of1 := blk_frozen ST.out.b4 1
    have nb4 : gb ≠ g4 := blk_ne GB.out ST.out.b4 (by decide)
    refine pure_ (i := 0) (N := some 42) (v := ?_) (a' := ?_) #[true, false, false, false, false, false, false] rfl rfl (any_of HT_.out (by kernel_rfl)) (fun _ _ _ h => h) (Or.inl ⟨by rfl, ?_⟩) ?_ ?_
    rotate_left
    ·intro w'
     go_simp
     with_reducible rfl
    rotate_left
    ·simp only [Act.put, List.setIfInBounds_toArray, List.set_cons_zero, List.set_cons_succ, i64_w, i32_w]
     rfl
    refine pure_ (i := 1) (N := some 43) (v := ?_) (a' := ?_) #[true, true, false, false, false, false, false] rfl rfl (any_of HT_.out (by kernel_rfl)) (fun _ _ _ h => h) (Or.inl ⟨by rfl, ?_⟩) ?_ ?_
    rotate_left
    ·intro w'
     go_simp
     with_reducible rfl
    rotate_left
    ·simp only [Act.put, List.setIfInBounds_toArray, List.set_cons_zero, List.set_cons_succ, i64_w, i32_w]
     rfl
    refine pure_ (i := 2) (N := some 44) (v := ?_) (a' := ?_) #[true, true, true, false, false, false, false] rfl rfl (any_of HT_.out (by kernel_rfl)) (fun _ _ _ h => h) (Or.inl ⟨by rfl, ?_⟩) ?_ ?_
    rotate_left
    ·intro w'
     go_simp
     with_reducible rfl
    rotate_left
    ·simp only [Act.put, List.setIfInBounds_toArray, List.set_cons_zero, List.set_cons_succ, i64_w, i32_w]
     rfl
    refine take_ (i := 3) (N := some 45) (v := ?_) (a' := ?_) #[true, true, true, true, false, false, false] rfl rfl (take_ofW HT_.out HW_.out (by kernel_rfl)) (fun _ _ _ h => h) (Or.inl ⟨by rfl, ?_⟩) hHeld ?_ ?_
    rotate_left
    ·intro w' s0
     go_simp
     with_reducible rfl
    rotate_left
    ·simp only [Act.put, List.setIfInBounds_toArray, List.set_cons_zero, List.set_cons_succ, i64_w, i32_w]
     rfl
    refine one_ (i := 4) (N := none) #[true, true, true, true, true, false, false] rfl rfl (one_of HT_.out (by kernel_rfl)) (by decide) (fun K hK => ?_)
    refine skip_ (w1 := ?_) (by rfl) rfl ?_ ?_
    rotate_left
    ·go_simp
     rfl
    refine hK.out _ _ ?_ (fun hHeld2 => ?_)
    ·(repeat (first | refine (cell_far nb4 _).trans ?_)); exact hHeld
    clear hHeld
    have hHeld := hHeld2
    clear hHeld2
    clear hK K
    refine pure_ (i := 5) (N := some 5) (v := ?_) (a' := ?_) #[true, true, true, true, true, true, false] rfl rfl (any_of HT_.out (by kernel_rfl)) (fun _ _ _ h => h) (Or.inl ⟨by rfl, ?_⟩) ?_ ?_
    rotate_left
    ·intro w'
     go_simp
     with_reducible rfl
    rotate_left
    ·simp only [Act.put, List.setIfInBounds_toArray, List.set_cons_zero, List.set_cons_succ, i64_w, i32_w]
     rfl
    refine pure_ (i := 6) (N := some 6) (v := ?_) (a' := ?_) #[true, true, true, true, true, true, true] rfl rfl (any_of HT_.out (by kernel_rfl)) (fun _ _ _ h => h) (Or.inl ⟨by rfl, ?_⟩) ?_ ?_
    rotate_left
    ·intro w'
     go_simp
     with_reducible rfl
    rotate_left
    ·simp only [Act.put, List.setIfInBounds_toArray, List.set_cons_zero, List.set_cons_succ, i64_w, i32_w]
     rfl
    refine done_ (done_of HT_.out (by kernel_rfl)) ?_
    clear HT_ HW_
    try go_wp2
    refine bodyPost_ret (results_ctt rfl _ _ g4 25 #[.int .i64 0, .slice none 0 0] (0, 0) _ rfl (blk_put (blk_put ST.out.b4 0 (.int .i64 0) (cs' := #[.int .i64 0, .slice none 0 0]) rfl) 1 (.slice none 0 0) (cs' := #[.int .i64 0, .slice none 0 0]) rfl) Try.underlying25 rfl (by kernel_rfl)) rfl ?_
    exact ⟨_, rfl, Kd.R_nil _ _ _ _ _, below_set (below_set ST.out.bl ST.out.n4) ST.out.n4⟩
  | succ k1 =>
   have hz := HZ.out
   simp only [blL] at hz
   obtain ⟨x, q1, f1, hx⟩ : ∃ x q f, rbN l0 1 at_ e = (x, q, f) := ⟨_, _, _, rfl⟩
   rw [hx] at hz
   simp only at hz
   obtain ⟨y, q2, f2, hy⟩ : ∃ x q f, rbN l0 4 q1 f1 = (x, q, f) := ⟨_, _, _, rfl⟩
   rw [hy] at hz
   simp only at hz
   clear HZ
   have HZ := Aside0.mk hz
   have HX := Aside0.mk hx
   have HV := Aside0.mk hy
   clear hz hx hy
   have hlt : decide ((i : Int) < (M : Int)) = true := decide_eq_true (by have := HI.out; omega)
   have hltn : decide (i < M) = true := decide_eq_true (by have := HI.out; omega)
   have hi0 : (0 : Int) ≤ (i : Int) := by omega
   have hi1 : (i : Int) < 256 := by have := HI.out; have := HM.out; omega
   obtain ⟨pp, hbr, hpe⟩ := ST.out.br
   go_upto_region 6 with (first
    | (go_at_call 24; (with_reducible refine (bn_number g7 A0 c0 l0 at_ e 1 _ _ _ _ _ HX.out HY.out HL.out (Kd.C_below HR0.out ST.out.bl) HC0.out hbr hpe).mono ?_); rintro x_ w23 ⟨rfl, pp3, hbx, hpx, hgr⟩; have STn := Aside0.mk (ST.out.call hbx hpx hgr); clear hbx hpx hgr ST hbr hpe; have ST := STn; clear STn)
    | ((with_reducible refine gate_dst (N := 9) rfl ?_); refine box_event ?hg (N := 9) ?hd (cs := #[.int .i64 0, .int .i64 0]) (t := 59) ?hr ?_; (case hd => rfl); (case hg => rfl); (case hr => first | (go_simp; done) | (go_simp; rfl)); intro g9 hg w9 hbox hb; have E9 := Aside0.mk (BnEc.new ST.out hb hbox (Nat.le_of_eq hg.symm)); clear hb hbox hg ST; have v0 := (blk_cell E9.out.b9 0).trans rfl; have v1 := (blk_cell E9.out.b9 1).trans rfl; have vf0 := blk_frozen E9.out.b9 0; have vf1 := blk_frozen E9.out.b9 1))
   have E2 := Aside0.mk ((E9.out.set (x2 := x) (y2 := 0) 0 x rfl).set (x2 := x) (y2 := 0) 1 0 rfl)
   clear E9 v0 v1 vf0 vf1
   generalize ((w9.setCell ⟨g9, 0, none⟩ (.int .i64 x)).setCell ⟨g9, 1, none⟩ (.int .i64 0)) = wa at E2 ⊢
   obtain ⟨pp, hbr, hpe⟩ := E2.out.st.br
   go_upto_region 7 with ((go_at_call 24; (with_reducible refine (bn_number g7 A0 c0 l0 q1 f1 4 _ _ _ _ _ HV.out HY.out HL.out (Kd.C_below HR0.out E2.out.st.bl) HC0.out hbr hpe).mono ?_); rintro x_ w26 ⟨rfl, pp4, hbx, hpx, hgr⟩; have E3 := Aside0.mk (E2.out.call hbx hpx hgr); clear hbx hpx hgr E2 hbr hpe; have z1 := (blk_cell E3.out.b9 1).trans rfl; have zf1 := blk_frozen E3.out.b9 1))
   have E4 := Aside0.mk (E3.out.set (x2 := x) (y2 := y) 1 y rfl)
   clear E3 z1 zf1
   generalize (w26.setCell ⟨g9, 1, none⟩ (.int .i64 y)) = wb at E4 ⊢
   have m0 : wb.cell? ⟨g8, 1, none⟩ = some u := (blk_cell E4.out.st.b8 1).trans rfl
   have m1 : wb.cell? ⟨g9, 0, none⟩ = some (.int .i64 x) := (blk_cell E4.out.b9 0).trans rfl
   have m2 : wb.cell? ⟨g9, 1, none⟩ = some (.int .i64 y) := (blk_cell E4.out.b9 1).trans rfl
   obtain ⟨Z2, hZ2⟩ : ∃ Z2 : List S59, Z2 = Z ++ [(⟨x, y⟩ : S59)] := ⟨_, rfl⟩
   have NZ := Aside0.mk hZ2
   clear hZ2
   go_wp2_with (((with_reducible refine gate_builtin (b := .append) (xs := #[.tmp 29, .tmp 31]) rfl ?_); at_builtin; refine Kd.R_append k59 (w0 := w) w.heap.size rfl (.tmp 29) (.tmp 31) 23 59 (.agg #[(.int .i64 0), (.int .i64 0)]) 16 rfl Try.underlying23 info59 rfl (by decide) (by omega) u Z (⟨x, y⟩ : S59) [.int .i64 x, .int .i64 y] (fun _ => True) (fun _ => False) rfl rfl ?aP (fun _ hk => hk.elim) ?aF ?aO ?aB ?aS ?aL ?_; (case aP => exact k59_mkM _ _ _ (⟨x, y⟩ : S59)); (case aB => exact E4.out.st.bl); (case aF => exact (fun _ _ => trivial)); (case aO => exact E4.out.st.row); (case aS => exact below_size E4.out.st.bl); (case aL => have := HN.out; have := HI.out; have := HM.out; omega); intro v2 w2 ho hb hg hat; rw [← NZ.out] at ho; obtain ⟨A2, c2, ev2⟩ := Kd.R_slice ho; subst ev2; have hc1 : w2.cell? ⟨g8, 1, none⟩ = some u := (blk_cell (E4.out.st.app8 hg) 1).trans rfl; have hf1 := blk_frozen (E4.out.st.app8 hg) 1; have STn := Aside0.mk (E4.out.st.app ho hb hg); clear ho hb hg hat))
   go_roundg k1
   case measure => have := HI.out; omega
   case rel => exact ⟨i + 1, q2, f2, _, Z2, by simp, ⟨by have := HI.out; omega⟩, ⟨by rw [NZ.out]; exact HZ.out⟩, ⟨by rw [NZ.out, List.length_append, HN.out]; rfl⟩, STn⟩
end Go.Proofs.Ytaiklcpmlkpfjaa.P
namespace Go.Proofs.Ytaiklcpmlkpfjaa.P
open Go.RowKit YtaiklcpmlkpfjaaW.PrintWords YtaiklcpmlkpfjaaW.PrintLast YtaiklcpmlkpfjaaW.PrintMore
attribute [local go_sem] max2_int min2_int max_two min_two max_three min_three max_four min_four
def thalweglaw06_BeaconReads.f (k : Nat) (l0 : List Int) (a1 : Int) : Option (Bool) := if (l0.length : Int) > 500 then (some true) else ((beacon_Parse.f l0 a1).bind fun bt171 => ((thalwegref06_Parse.f k l0 a1).bind fun bt178 => ((thalweglaw06_awake.f k).bind fun t185 => (if t185 = true then ((thalwegref06_Same.f k bt171.1 bt171.2.1 bt178.1 bt178.2.1).bind fun t186 => (if t186 = true then (if bt171.2.2.1 = bt178.2.2.1 then (some (bt171.2.2.2 == bt178.2.2.2)) else (none)) else (none))) else (none)))))
def thalweglaw06_BeaconReads.Pure : Prop := ∀ (l0 : List Int) (a1 : Int), l0.length ≤ maxLen → l0.length * 1 ≤ 140737488351232 → (∀ x ∈ l0, (Lit.int .u8 x).wf = true) → (Lit.int .i64 a1).wf = true → ∃ k, thalweglaw06_BeaconReads.f k l0 a1 = some true
def thalwegref01_Both.l0 : Nat → List (List Int) → List Int → Int → Option (List Int)
 | 0, _, _, _ => none
 | k + 1, x0, x3, x4 => if x4 < (x0.length : Int) then (if 0 ≤ x4 then (if x3.length + (rd_L3 x0 x4).length < 140737488355328 then (thalwegref01_Both.l0 k x0 (x3 ++ (rd_L3 x0 x4)) (wrap64 (x4 + 1))) else (none)) else (none)) else (some x3)
def thalwegref01_Both.f (k : Nat) (l0 : List (List Int)) : Option (List Int) := thalwegref01_Both.l0 k l0 ([] : List Int) 0
theorem thalwegref01_Both.calls (k : Nat) (A0 : Option Addr) (c0 : Nat) (l0 : List (List Int)) (r : List Int) (w : World) (hr0 : Kd.C (Kd.slice 5 (Kd.int .u8)) w A0 l0.length l0) (hc0 : l0.length ≤ c0) (h : thalwegref01_Both.f k l0 = some r) :
  Calls Try.prog 13 #[.slice A0 l0.length c0] w fun e w' => ∃ v0_ : Value, e = .returned (v0_) ∧ Kd.R (Kd.int .u8) 5 w' w.heap.size (fun _ => True) v0_ r ∧ Below w.heap.size w w' := by
 have HR0 := Aside0.mk hr0
 have HC0 := Aside0.mk hc0
 clear hr0 hc0
 have HB := Aside0.mk (Below.refl w.heap.size w)
 have H : (thalwegref01_Both.l0 k l0 ([] : List Int) 0) = some r := h
 clear h
 have H' := Aside0.mk H
 clear H
 go_enter Try.func13, Try.ntmps13
 go_wp2
 go_loopg [3, 4] k (fun kq v3 v4 w' => ∃ (x3_1 : List Int) (x4_1 : Int), v4 = .int .i64 x4_1 ∧ Aside0 (thalwegref01_Both.l0 kq l0 x3_1 x4_1 = some r) ∧ Aside0 (kq ≤ k) ∧ Aside0 (Kd.R (Kd.int .u8) 5 w' w.heap.size (fun _ => True) v3 x3_1) ∧ Aside0 (Below w.heap.size w w'))
 case atStart => exact ⟨(([] : List Int)), (0), (by first | rfl | (simp; done) | (simp [*]; done)), H', ⟨Nat.le_refl _⟩, ⟨by first | exact Kd.R_nil _ _ _ _ _ | exact Kd.N_nil _ _ _ _ _ | exact Kd.V_nil _ _ _ _ _ | exact Kd.Q_nil _ _ _ _ _ | exact Kd.S_nil _ _ _ _ _⟩, ⟨by repeat (first | (with_reducible first | exact HB.out | apply below_alloc | apply pw_below_drewN | apply below_drew1) | exact HB.out)⟩⟩
 case round =>
  clear H'
  try clear c1
  obtain ⟨x3_1, x4_1, rfl, HA, HK1, HO_3, HB⟩ := hrel
  cases gk with
  | zero => exact absurd HA.out (by simp [thalwegref01_Both.l0])
  | succ k1 =>
   have H := HA.out
   clear HA
   simp only [thalwegref01_Both.l0] at H
   by_cases c2 : x4_1 < (l0.length : Int)
   ·rw [if_pos c2] at H
    have c2b0 : decide (x4_1 < (l0.length : Int)) = true := decide_eq_true c2
    clear c2
    by_cases c3 : 0 ≤ x4_1
    rotate_left
    ·rw [if_neg c3] at H
     exact absurd H (by simp)
    rw [if_pos c3] at H
    have c3b0 : decide (0 ≤ x4_1) = true := decide_eq_true c3
    clear c3
    by_cases c4 : x3_1.length + (rd_L3 l0 x4_1).length < 140737488355328
    rotate_left
    ·rw [if_neg c4] at H
     exact absurd H (by simp)
    rw [if_pos c4] at H
    have LMc4 := Aside0.mk c4
    clear c4
    obtain ⟨y188, hy188⟩ : ∃ y_ : List Int, y_ = (x3_1 ++ (rd_L3 l0 x4_1)) := ⟨_, rfl⟩
    replace H : (thalwegref01_Both.l0 k1 l0 y188 (wrap64 (x4_1 + 1))) = some r := by first | (rw [hy188]; with_reducible exact H) | (have H2_ := (Option.bind_some _ _).symm.trans H; rw [hy188]; with_reducible exact H2_) | (have H2_ := (Option.bind_some _ _).symm.trans H; with_reducible exact H2_) | with_reducible exact H | (rw [hy188]; exact H) | exact H
    have Ny188 := Aside0.mk hy188
    clear hy188
    have H' := Aside0.mk H
    clear H
    have p187 : 0 ≤ (x4_1 : Int) := of_decide_eq_true (by first | (with_reducible assumption) | assumption)
    have q187 : x4_1 < (l0.length : Int) := of_decide_eq_true (by first | (with_reducible assumption) | assumption)
    obtain ⟨ad187, A187_0, c187_0, e187, hx187_0, hl187_0, hi187_0⟩ := at_L3 HR0.out x4_1 p187 q187
    cases e187
    replace hx187_0 := (HB.out.cell (World.block_lt_of_cell? w _ hx187_0)).trans hx187_0
    have HR187_0 := Aside0.mk hi187_0
    have HC187_0 := Aside0.mk hl187_0
    clear hi187_0 hl187_0
    replace p187 := eq_true p187
    replace q187 := eq_true q187
    go_wp2_with (first | ((with_reducible refine gate_builtin (b := .append) (xs := #[.tmp 11, .tmp 15]) rfl ?_); at_builtin; refine Kd.R_append_rows (Kd.int .u8) (w0 := w) w.heap.size rfl (.tmp 11) (.tmp 15) 22 5 (.int .u8 0) 1 rfl Try.underlying22 info5 rfl (by decide) (by omega) u3 x3_1 (rd_L3 l0 x4_1) _ _ _ (fun _ => True) (fun _ => False) rfl rfl ?aO ?aR (fun _ _ h => h) (fun _ h => h.elim) ?aF ?aB ?aS ?aL ?_; (case aR => repeat (first | exact (Kd.C_below HR187_0.out HB.out) | (with_reducible refine Kd.C_alloc ?_ _) | (with_reducible refine Kd.C_drewN ?_ _) | (with_reducible refine Kd.C_drew ?_))); (case aB => exact (by repeat (first | (with_reducible first | exact HB.out | apply below_alloc | apply pw_below_drewN | apply below_drew1) | exact HB.out))); (case aF => exact (fun _ _ => trivial)); (case aO => exact (by (with_reducible repeat (first | apply Kd.R_alloc | apply Kd.R_drewN | apply Kd.R_drew)); exact HO_3.out)); (case aS => exact (below_size (by repeat (first | (with_reducible first | exact HB.out | apply below_alloc | apply pw_below_drewN | apply below_drew1) | exact HB.out)))); (case aL => have := LMc4.out; omega); intro v189 w5 ho hb hg hat; rw [← Ny188.out] at ho; have n0_ := Aside0.mk (hb); have n1_ := Aside0.mk (ho); clear HB; clear HO_3; have HB := n0_; have HO190 := n1_; clear n0_ n1_; clear ho hb hg hat))
    go_roundg k1
    case measure => have := HK1.out; omega
    case rel => exact ⟨(y188), (wrap64 (x4_1 + 1)), (by first | rfl | (simp; done) | (simp [*]; done)), H', ⟨by have := HK1.out; omega⟩, ⟨by (with_reducible repeat (first | apply Kd.R_alloc | apply Kd.R_drewN | apply Kd.R_drew)); exact HO190.out⟩, ⟨by repeat (first | (with_reducible first | exact HB.out | apply below_alloc | apply pw_below_drewN | apply below_drew1) | exact HB.out)⟩⟩
   ·rw [if_neg c2] at H
    have c2b0 : decide (x4_1 < (l0.length : Int)) = false := decide_eq_false c2
    clear c2
    obtain rfl := Option.some.inj H
    go_wp2
    go_ret
    exact ⟨_, by first | rfl | (simp [errW_none, errW_some] <;> rfl) | (simp [*, errW_none, errW_some] <;> rfl), by (with_reducible repeat (first | apply Kd.R_alloc | apply Kd.R_drewN | apply Kd.R_drew)); exact HO_3.out, by repeat (first | (with_reducible first | exact HB.out | apply below_alloc | apply pw_below_drewN | apply below_drew1) | exact HB.out)⟩
end Go.Proofs.Ytaiklcpmlkpfjaa.P
