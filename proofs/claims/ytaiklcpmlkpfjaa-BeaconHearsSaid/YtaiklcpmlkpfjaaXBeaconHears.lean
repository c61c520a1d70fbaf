/- The statement BeaconHears, proved of the given program; it has no conditions. (Of many texts laid together) -/
import Derived.Test.YtaiklcpmlkpfjaaXBeaconHearsWWords
import Derived.Test.YtaiklcpmlkpfjaaXBeaconHearsWMore
import Derived.ProofKit
import Derived.OpenShut
import Derived.ChangeSame
import Derived.ChangeOld
import Derived.Deep.Slices
import Derived.Deep.Fields
import Derived.Test.YtaiklcpmlkpfjaaRows
import Derived.WalkKit
import Derived.ShutString
import Derived.Below
import Derived.SizedLaws
import Derived.Test.YtaiklcpmlkpfjaaXBeaconHearsa
import Derived.Test.YtaiklcpmlkpfjaaXBeaconHearsb
import Derived.Test.YtaiklcpmlkpfjaaXBeaconHearsc
set_option linter.unusedVariables false
set_option linter.unusedSimpArgs false
namespace Go.Proofs.Ytaiklcpmlkpfjaa.P
open Go.RowKit Go.Proofs.YtaiklcpmlkpfjaaW.PrintWords Go.Proofs.YtaiklcpmlkpfjaaW.PrintLast Go.Proofs.YtaiklcpmlkpfjaaW.PrintMore
theorem bp_load0 (g : Nat) (w : World) (hc : w.cell? ⟨g, 2, none⟩ = some (.pointer none)) :
    Calls Try.prog 25 #[.pointer (some ⟨g, 2, none⟩)] w fun e w' => e = .returned (.pointer none) ∧ w = w' := by
  have hld := run_call_loadp (P := Try.prog) Try.func39 (by kernel_rfl) (by kernel_rfl) (by kernel_rfl) (by kernel_rfl) hc
  have hcv := run_convert_nil_from (P := Try.prog) (src := 52) (dst := 48) Try.underlying52 Try.underlying48 w
  go_enter Try.func25, Try.ntmps25
  go_wp2
  go_ret
  exact ⟨rfl, rfl⟩
theorem bp_load1 (g gb : Nat) (e : Int) (w : World) (hc : w.cell? ⟨g, 2, none⟩ = some (.pointer (some ⟨gb, 0, none⟩))) (hb : w.heap[gb]? = some (.cells #[.int .i64 e] 26 (0, 0))) :
    Calls Try.prog 25 #[.pointer (some ⟨g, 2, none⟩)] w fun e w' => e = .returned (.pointer (some ⟨gb, 0, none⟩)) ∧ w = w' := by
  have hld := run_call_loadp (P := Try.prog) Try.func39 (by kernel_rfl) (by kernel_rfl) (by kernel_rfl) (by kernel_rfl) hc
  have hcv := run_convert_from (P := Try.prog) (src := 52) (dst := 48) Try.underlying52 Try.underlying48 (by kernel_rfl) (by kernel_rfl) hb
  clear hb
  go_enter Try.func25, Try.ntmps25
  go_wp2
  go_ret
  exact ⟨rfl, rfl⟩
theorem bp_cas (g gb : Nat) (v : Value) (w : World) (hc : w.cell? ⟨g, 2, none⟩ = some (.pointer none)) (hz : w.frozen? ⟨g, 2, none⟩ = false) (hb : w.cell? ⟨gb, 0, none⟩ = some v) :
    Calls Try.prog 38 #[.pointer (some ⟨g, 2, none⟩), .pointer none, .pointer (some ⟨gb, 0, none⟩)] w fun e w' => e = .returned (.bool true) ∧ w.setCell ⟨g, 2, none⟩ (.pointer (some ⟨gb, 0, none⟩)) = w' := by
  have hcs := run_call_casp (P := Try.prog) Try.func48 (by kernel_rfl) (by kernel_rfl) (by kernel_rfl) (by kernel_rfl) (q := some ⟨gb, 0, none⟩) hc hz
  have hc0 := run_convert_nil_to (P := Try.prog) (src := 48) (dst := 52) Try.underlying48 Try.underlying52 w
  have hc1 := run_convert_to_unsafe (P := Try.prog) (src := 48) (dst := 52) Try.underlying48 Try.underlying52 (by kernel_rfl) hb
  go_enter Try.func38, Try.ntmps38
  go_wp2
  go_ret
  exact ⟨rfl, rfl⟩
theorem bgrown_below {w w1 w2 : World} {g : Nat} (hb : Below w.heap.size w w1) (h : w1.grownBy w2 (some g)) : w.grownBy w2 (some g) :=
  ⟨h.os.trans hb.os, h.tape.trans hb.tape, h.output.trans hb.output, Nat.le_trans hb.size h.size, fun k hk hn => (h.block k (Nat.lt_of_lt_of_le hk hb.size) hn).trans (hb.block k hk)⟩
theorem bgrown_set {w : World} {g : Nat} {cs : Array Value} {t : TypeId} (hb : w.heap[g]? = some (.cells cs t (0, 0))) (i : Nat) (u : Value) : w.grownBy (w.setCell ⟨g, i, none⟩ u) (some g) :=
  ⟨rfl, rfl, rfl, by simp [World.setCell], fun k hk hn => Below.heap_setCell w ⟨g, i, none⟩ u k (fun e => hn (by rw [e]))⟩
def RdB (A : Option Addr) (n c : Nat) (at_ : Int) (p : Option Addr) : Array Value := #[.slice A n c, .int .i64 at_, .pointer p]
set_option maxHeartbeats 8000000 in
set_option maxRecDepth 100000 in
theorem bn_E (g gb : Nat) (A : Option Addr) (n c : Nat) (at_ e sz : Int) (w : World) (hb : w.heap[g]? = some (.cells (RdB A n c at_ (some ⟨gb, 0, none⟩)) 56 (0, 0))) (he : w.heap[gb]? = some (.cells #[.int .i64 e] 26 (0, 0))) :
    Calls Try.prog 24 #[.pointer (some ⟨g, 0, none⟩), .int .i64 sz] w fun x w' => x = .returned (.int .i64 0) ∧ w = w' := by
  have h2 : w.cell? ⟨g, 2, none⟩ = some (.pointer (some ⟨gb, 0, none⟩)) := (blk_cell hb 2).trans rfl
  have HE := Aside0.mk he
  clear hb he
  go_enter Try.func24, Try.ntmps24
  go_wp2_with (go_at_call 25; (with_reducible refine (bp_load1 g gb e _ h2 HE.out).mono ?_); rintro _ _ ⟨rfl, rfl⟩)
  go_ret
  exact ⟨rfl, rfl⟩
def bn_ok.T3 : Bool × List (List Nat × List Nat) := (true, [([], []), ([0], [0]), ([1], [1]), ([2], [2]), ([], []), ([4], [4]), ([5], [5]), ([6], [6]), ([], []), ([3, 7, 8], [3, 7, 8]), ([9], [9]), ([10], [10]), ([10], [10]), ([10], [10]), ([], []), ([11, 9, 0, 1, 2, 3, 4, 5, 6, 7, 8, 9, 10, 11, 14], [11]), ([12, 15, 0, 1, 2, 3, 4, 5, 6, 7, 8, 9, 10, 11, 12, 14, 15], [12]), ([14, 13, 16, 0, 1, 2, 3, 4, 5, 6, 7, 8, 9, 10, 11, 12, 13, 14, 15, 16], [13, 14])])
def bn_ok.B3 : List Nat := [0, 1, 3, 7, 0, 16, 48, 112, 0, 511, 1023, 2047, 2047, 2047, 0, 20479, 57343, 131071]
theorem bn_ok.tab3 : rtab .any (opsOf Try.f24 3) = bn_ok.T3 := by kernel_rfl
theorem bn_ok.bits3 : waitsOk bn_ok.T3.2 bn_ok.B3 = true := by kernel_rfl
set_option maxHeartbeats 8000000 in
set_option maxRecDepth 100000 in
theorem bn_ok (g : Nat) (A : Option Addr) (c : Nat) (l : List Int) (at_ sz s1 s2 s3 : Int) (w : World) (hG : getSpec l at_ sz = (s1, s2, s3)) (hs : s3 = 0) (hB : Bytes l) (hl : l.length ≤ 1000000000000) (hr : Kd.C (Kd.int .u8) w A l.length l) (hc : l.length ≤ c) (hb : w.heap[g]? = some (.cells (RdB A l.length c at_ none) 56 (0, 0))) :
    Calls Try.prog 24 #[.pointer (some ⟨g, 0, none⟩), .int .i64 sz] w fun x w' => x = .returned (.int .i64 s1) ∧ w'.heap[g]? = some (.cells (RdB A l.length c s2 none) 56 (0, 0)) ∧ w.grownBy w' (some g) := by
  have h2 : w.cell? ⟨g, 2, none⟩ = some (.pointer none) := (blk_cell hb 2).trans rfl
  have HBB := Aside0.mk hb
  have HG := Aside0.mk (show wire_Get.f l at_ sz = some (s1, s2, s3) by rw [wire_Get_eq _ _ _ hB hl, hG])
  have HR := Aside0.mk hr
  have HC := Aside0.mk hc
  subst hs
  clear hG hb hr hc hB hl
  go_enter Try.func24, Try.ntmps24
  go_upto_region 3 with (go_at_call 25; (with_reducible refine (bp_load0 g _ h2).mono ?_); rintro _ _ ⟨rfl, rfl⟩)
  clear h2
  have HBd := Aside0.mk (below_drew (Below.refl w.heap.size w))
  have BRd := Aside0.mk (show w.drew.heap[g]? = _ from HBB.out)
  refine start_ (n := 18) (S := fun w' => w'.cell? ⟨g, 0, none⟩ = some (.slice A l.length c) ∧ w'.cell? ⟨g, 1, none⟩ = some (.int .i64 at_)) (ds := [17]) #[false, false, false, false, false, false, false, false, false, false, false, false, false, false, false, false, false, false] (by kernel_rfl) rfl rfl ⟨(blk_cell BRd.out 0).trans rfl, (blk_cell BRd.out 1).trans rfl⟩ (fun hHeld => ?_); refine with_tabW bn_ok.tab3 bn_ok.bits3 (fun HT_ HW_ => ?_)
  refine pure_ (i := 0) (N := some 14) (v := ?_) (a' := ?_) #[true, false, false, false, false, false, false, false, false, false, false, false, false, false, false, false, false, false] rfl rfl (any_of HT_.out (by kernel_rfl)) (fun _ _ _ h => h) (Or.inl ⟨by rfl, ?_⟩) ?_ ?_
  rotate_left
  · intro w'
    go_simp
    with_reducible rfl
  rotate_left
  · simp only [Act.put, List.setIfInBounds_toArray, List.set_cons_zero, List.set_cons_succ, i64_w, i32_w]
    rfl
  refine pure_ (i := 1) (N := some 15) (v := ?_) (a' := ?_) #[true, true, false, false, false, false, false, false, false, false, false, false, false, false, false, false, false, false] rfl rfl (any_of HT_.out (by kernel_rfl)) (fun _ _ _ h => h) (Or.inl ⟨by rfl, ?_⟩) ?_ ?_
  rotate_left
  · intro w'
    go_simp
    with_reducible rfl
  rotate_left
  · simp only [Act.put, List.setIfInBounds_toArray, List.set_cons_zero, List.set_cons_succ, i64_w, i32_w]
    rfl
  refine pure_ (i := 2) (N := some 16) (v := ?_) (a' := ?_) #[true, true, true, false, false, false, false, false, false, false, false, false, false, false, false, false, false, false] rfl rfl (any_of HT_.out (by kernel_rfl)) (fun _ _ _ h => h) (Or.inl ⟨by rfl, ?_⟩) ?_ ?_
  rotate_left
  · intro w'
    go_simp
    with_reducible rfl
  rotate_left
  · simp only [Act.put, List.setIfInBounds_toArray, List.set_cons_zero, List.set_cons_succ, i64_w, i32_w]
    rfl
  refine pure_ (i := 4) (N := some 18) (v := ?_) (a' := ?_) #[true, true, true, false, true, false, false, false, false, false, false, false, false, false, false, false, false, false] rfl rfl (any_of HT_.out (by kernel_rfl)) (fun _ _ _ h => h) (Or.inl ⟨by rfl, ?_⟩) ?_ ?_
  rotate_left
  · intro w'
    go_simp
    with_reducible rfl
  rotate_left
  · simp only [Act.put, List.setIfInBounds_toArray, List.set_cons_zero, List.set_cons_succ, i64_w, i32_w]
    rfl
  refine pure_ (i := 5) (N := some 19) (v := ?_) (a' := ?_) #[true, true, true, false, true, true, false, false, false, false, false, false, false, false, false, false, false, false] rfl rfl (any_of HT_.out (by kernel_rfl)) (fun _ _ _ h => h) (Or.inl ⟨by rfl, ?_⟩) ?_ ?_
  rotate_left
  · intro w'
    go_simp
    with_reducible rfl
  rotate_left
  · simp only [Act.put, List.setIfInBounds_toArray, List.set_cons_zero, List.set_cons_succ, i64_w, i32_w]
    rfl
  refine pure_ (i := 6) (N := some 20) (v := ?_) (a' := ?_) #[true, true, true, false, true, true, true, false, false, false, false, false, false, false, false, false, false, false] rfl rfl (any_of HT_.out (by kernel_rfl)) (fun _ _ _ h => h) (Or.inl ⟨by rfl, ?_⟩) ?_ ?_
  rotate_left
  · intro w'
    go_simp
    with_reducible rfl
  rotate_left
  · simp only [Act.put, List.setIfInBounds_toArray, List.set_cons_zero, List.set_cons_succ, i64_w, i32_w]
    rfl
  refine pure_ (i := 8) (N := some 22) (v := ?_) (a' := ?_) #[true, true, true, false, true, true, true, false, true, false, false, false, false, false, false, false, false, false] rfl rfl (any_of HT_.out (by kernel_rfl)) (fun _ _ _ h => h) (Or.inl ⟨by rfl, ?_⟩) ?_ ?_
  rotate_left
  · intro w'
    go_simp
    with_reducible rfl
  rotate_left
  · simp only [Act.put, List.setIfInBounds_toArray, List.set_cons_zero, List.set_cons_succ, i64_w, i32_w]
    rfl
  refine take_ (i := 3) (N := some 17) (v := ?_) (a' := ?_) #[true, true, true, true, true, true, true, false, true, false, false, false, false, false, false, false, false, false] rfl rfl (take_ofW HT_.out HW_.out (by kernel_rfl)) (fun _ _ _ h => h) (Or.inl ⟨by rfl, ?_⟩) hHeld ?_ ?_
  rotate_left
  · rintro w' ⟨s0, s1⟩
    go_simp
    with_reducible rfl
  rotate_left
  · simp only [Act.put, List.setIfInBounds_toArray, List.set_cons_zero, List.set_cons_succ, i64_w, i32_w]
    rfl
  refine take_ (i := 7) (N := some 21) (v := ?_) (a' := ?_) #[true, true, true, true, true, true, true, true, true, false, false, false, false, false, false, false, false, false] rfl rfl (take_ofW HT_.out HW_.out (by kernel_rfl)) (fun _ _ _ h => h) (Or.inl ⟨by rfl, ?_⟩) hHeld ?_ ?_
  rotate_left
  · rintro w' ⟨s0, s1⟩
    go_simp
    with_reducible rfl
  rotate_left
  · simp only [Act.put, List.setIfInBounds_toArray, List.set_cons_zero, List.set_cons_succ, i64_w, i32_w]
    rfl
  refine join_ (σ := Nat) 3 #[true, true, true, true, true, true, true, true, true, true, true, true, true, true, true, false, false, false] (fun s_ => [(23, .tuple #[.int .i64 s1, .int .i64 s2, .int .i64 0]), (13, .tuple #[.int .i64 s1, .int .i64 s2, .int .i64 0]), (24, .int .i64 s1), (25, .int .i64 s2), (26, .int .i64 0), (7, .pointer (some ⟨s_, 0, none⟩))]) (fun s_ w' => (w'.cell? ⟨g, 0, none⟩ = some (.slice A l.length c) ∧ w'.cell? ⟨g, 1, none⟩ = some (.int .i64 at_)) ∧ Aside0 (w'.heap[s_]? = some (.cells #[.int .i64 0] 26 (0, 0))) ∧ Aside0 (w'.heap[g]? = some (.cells (RdB A l.length c at_ none) 56 (0, 0))) ∧ Aside0 (Below w.heap.size w w') ∧ Aside0 (w.heap.size ≤ s_)) ?_ ?_
  rotate_left
  · intro hCont
    refine two_ (i := 9) (j := 14) (Ni := some 23) (Nj := some 7) #[true, true, true, true, true, true, true, true, true, true, false, false, false, false, false, false, false, false] #[true, true, true, true, true, true, true, true, true, false, false, false, false, false, true, false, false, false] rfl rfl rfl rfl (two_of HT_.out (by kernel_rfl)) (by decide) (by decide) (fun K hK => ?_) (fun K hK => ?_)
    · skip
      refine goes_ Try.func37 (by kernel_rfl) rfl #[.slice A l.length c, .int .i64 at_, .int .i64 sz] (by rfl) rfl rfl (by simp only [List.map_toArray, List.map_cons, List.map_nil]; rfl) ?_
      with_reducible refine (wire_Get.calls A c l at_ sz _ _ _ _ (Kd.C_below HR.out HBd.out) HC.out HG.out).mono ?_
      rintro e w7 ⟨rfl, hb7⟩
      refine ⟨_, rfl, ?_⟩
      have HBn := Aside0.mk (below_step HBd.out hb7)
      have BRn := Aside0.mk (blk_below BRd.out hb7)
      clear HBd BRd hb7
      have HBd := HBn
      have BRd := BRn
      clear HBn BRn
      refine hK.out _ _ ⟨(blk_cell BRd.out 0).trans rfl, (blk_cell BRd.out 1).trans rfl⟩ (fun hHeld => ?_)
      clear hK K
      refine norm_ (a' := ?_) ?_ ?_
      rotate_left
      · show Act.put _ (some 23) _ = _
        simp only [Act.put, List.setIfInBounds_toArray, List.set_cons_zero, List.set_cons_succ, i64_w, i32_w]
        rfl
      refine pure_ (i := 10) (N := some 13) (v := ?_) (a' := ?_) #[true, true, true, true, true, true, true, true, true, true, true, false, false, false, false, false, false, false] rfl rfl (any_of HT_.out (by kernel_rfl)) (fun _ _ _ h => h) (Or.inl ⟨by rfl, ?_⟩) ?_ ?_
      rotate_left
      · intro w'
        go_simp
        with_reducible rfl
      rotate_left
      · simp only [Act.put, List.setIfInBounds_toArray, List.set_cons_zero, List.set_cons_succ, i64_w, i32_w]
        rfl
      refine pure_ (i := 11) (N := some 24) (v := ?_) (a' := ?_) #[true, true, true, true, true, true, true, true, true, true, true, true, false, false, false, false, false, false] rfl rfl (any_of HT_.out (by kernel_rfl)) (fun _ _ _ h => h) (Or.inl ⟨by rfl, ?_⟩) ?_ ?_
      rotate_left
      · intro w'
        go_simp
        with_reducible rfl
      rotate_left
      · simp only [Act.put, List.setIfInBounds_toArray, List.set_cons_zero, List.set_cons_succ, i64_w, i32_w]
        rfl
      refine pure_ (i := 12) (N := some 25) (v := ?_) (a' := ?_) #[true, true, true, true, true, true, true, true, true, true, true, true, true, false, false, false, false, false] rfl rfl (any_of HT_.out (by kernel_rfl)) (fun _ _ _ h => h) (Or.inl ⟨by rfl, ?_⟩) ?_ ?_
      rotate_left
      · intro w'
        go_simp
        with_reducible rfl
      rotate_left
      · simp only [Act.put, List.setIfInBounds_toArray, List.set_cons_zero, List.set_cons_succ, i64_w, i32_w]
        rfl
      refine pure_ (i := 13) (N := some 26) (v := ?_) (a' := ?_) #[true, true, true, true, true, true, true, true, true, true, true, true, true, true, false, false, false, false] rfl rfl (any_of HT_.out (by kernel_rfl)) (fun _ _ _ h => h) (Or.inl ⟨by rfl, ?_⟩) ?_ ?_
      rotate_left
      · intro w'
        go_simp
        with_reducible rfl
      rotate_left
      · simp only [Act.put, List.setIfInBounds_toArray, List.set_cons_zero, List.set_cons_succ, i64_w, i32_w]
        rfl
      refine one_ (i := 14) (N := some 7) #[true, true, true, true, true, true, true, true, true, true, true, true, true, true, true, false, false, false] rfl rfl (one_of HT_.out (by kernel_rfl)) (by decide) (fun K hK => ?_)
      refine box_step ?hg (N := 7) ?hd (cs := #[.int .i64 0]) (t := 26) ?hr ?_
      (case hd => rfl)
      (case hg => rfl)
      (case hr => first | (go_simp; done) | (go_simp; rfl))
      intro g3 hg w8 hbox hb
      have HBn := Aside0.mk (below_step HBd.out hb)
      have BRn := Aside0.mk (blk_below BRd.out hb)
      have B3d := Aside0.mk hbox
      have G3 := Aside0.mk (show w.heap.size ≤ g3 by rw [hg]; exact below_size HBd.out)
      clear HBd BRd hb hbox hg
      have HBd := HBn
      have BRd := BRn
      clear HBn BRn
      refine hK.out _ _ ⟨(blk_cell BRd.out 0).trans rfl, (blk_cell BRd.out 1).trans rfl⟩ (fun hHeld => ?_)
      clear hK K
      refine norm_ (a' := ?_) ?_ ?_
      rotate_left
      · show Act.put _ (some 7) _ = _
        simp only [Act.put, List.setIfInBounds_toArray, List.set_cons_zero, List.set_cons_succ, i64_w, i32_w]
        rfl
      exact norm_ (by simp only [putAll, Act.put, List.setIfInBounds_toArray, List.set_cons_zero, List.set_cons_succ]) (hCont g3 _ ⟨hHeld, B3d, BRd, HBd, G3⟩)
    · skip
      refine box_step ?hg (N := 7) ?hd (cs := #[.int .i64 0]) (t := 26) ?hr ?_
      (case hd => rfl)
      (case hg => rfl)
      (case hr => first | (go_simp; done) | (go_simp; rfl))
      intro g3 hg w8 hbox hb
      have HBn := Aside0.mk (below_step HBd.out hb)
      have BRn := Aside0.mk (blk_below BRd.out hb)
      have B3d := Aside0.mk hbox
      have G3 := Aside0.mk (show w.heap.size ≤ g3 by rw [hg]; exact below_size HBd.out)
      clear HBd BRd hb hbox hg
      have HBd := HBn
      have BRd := BRn
      clear HBn BRn
      refine hK.out _ _ ⟨(blk_cell BRd.out 0).trans rfl, (blk_cell BRd.out 1).trans rfl⟩ (fun hHeld => ?_)
      clear hK K
      refine norm_ (a' := ?_) ?_ ?_
      rotate_left
      · show Act.put _ (some 7) _ = _
        simp only [Act.put, List.setIfInBounds_toArray, List.set_cons_zero, List.set_cons_succ, i64_w, i32_w]
        rfl
      refine one_ (i := 9) (N := some 23) #[true, true, true, true, true, true, true, true, true, true, false, false, false, false, true, false, false, false] rfl rfl (one_of HT_.out (by kernel_rfl)) (by decide) (fun K hK => ?_)
      refine goes_ Try.func37 (by kernel_rfl) rfl #[.slice A l.length c, .int .i64 at_, .int .i64 sz] (by rfl) rfl rfl (by simp only [List.map_toArray, List.map_cons, List.map_nil]; rfl) ?_
      with_reducible refine (wire_Get.calls A c l at_ sz _ _ _ _ (Kd.C_below HR.out HBd.out) HC.out HG.out).mono ?_
      rintro e w7 ⟨rfl, hb7⟩
      refine ⟨_, rfl, ?_⟩
      have HBn := Aside0.mk (below_step HBd.out hb7)
      have BRn := Aside0.mk (blk_below BRd.out hb7)
      have B3n := Aside0.mk (blk_below B3d.out hb7)
      clear HBd BRd B3d hb7
      have HBd := HBn
      have BRd := BRn
      have B3d := B3n
      clear HBn BRn B3n
      refine hK.out _ _ ⟨(blk_cell BRd.out 0).trans rfl, (blk_cell BRd.out 1).trans rfl⟩ (fun hHeld => ?_)
      clear hK K
      refine norm_ (a' := ?_) ?_ ?_
      rotate_left
      · show Act.put _ (some 23) _ = _
        simp only [Act.put, List.setIfInBounds_toArray, List.set_cons_zero, List.set_cons_succ, i64_w, i32_w]
        rfl
      refine pure_ (i := 10) (N := some 13) (v := ?_) (a' := ?_) #[true, true, true, true, true, true, true, true, true, true, true, false, false, false, true, false, false, false] rfl rfl (any_of HT_.out (by kernel_rfl)) (fun _ _ _ h => h) (Or.inl ⟨by rfl, ?_⟩) ?_ ?_
      rotate_left
      · intro w'
        go_simp
        with_reducible rfl
      rotate_left
      · simp only [Act.put, List.setIfInBounds_toArray, List.set_cons_zero, List.set_cons_succ, i64_w, i32_w]
        rfl
      refine pure_ (i := 11) (N := some 24) (v := ?_) (a' := ?_) #[true, true, true, true, true, true, true, true, true, true, true, true, false, false, true, false, false, false] rfl rfl (any_of HT_.out (by kernel_rfl)) (fun _ _ _ h => h) (Or.inl ⟨by rfl, ?_⟩) ?_ ?_
      rotate_left
      · intro w'
        go_simp
        with_reducible rfl
      rotate_left
      · simp only [Act.put, List.setIfInBounds_toArray, List.set_cons_zero, List.set_cons_succ, i64_w, i32_w]
        rfl
      refine pure_ (i := 12) (N := some 25) (v := ?_) (a' := ?_) #[true, true, true, true, true, true, true, true, true, true, true, true, true, false, true, false, false, false] rfl rfl (any_of HT_.out (by kernel_rfl)) (fun _ _ _ h => h) (Or.inl ⟨by rfl, ?_⟩) ?_ ?_
      rotate_left
      · intro w'
        go_simp
        with_reducible rfl
      rotate_left
      · simp only [Act.put, List.setIfInBounds_toArray, List.set_cons_zero, List.set_cons_succ, i64_w, i32_w]
        rfl
      refine pure_ (i := 13) (N := some 26) (v := ?_) (a' := ?_) #[true, true, true, true, true, true, true, true, true, true, true, true, true, true, true, false, false, false] rfl rfl (any_of HT_.out (by kernel_rfl)) (fun _ _ _ h => h) (Or.inl ⟨by rfl, ?_⟩) ?_ ?_
      rotate_left
      · intro w'
        go_simp
        with_reducible rfl
      rotate_left
      · simp only [Act.put, List.setIfInBounds_toArray, List.set_cons_zero, List.set_cons_succ, i64_w, i32_w]
        rfl
      exact norm_ (by simp only [putAll, Act.put, List.setIfInBounds_toArray, List.set_cons_zero, List.set_cons_succ]) (hCont g3 _ ⟨hHeld, B3d, BRd, HBd, G3⟩)
  rintro g3 w8 ⟨hHeld, B3, BR, HB, G3⟩
  clear BRd HBd
  have u0 : w8.cell? ⟨g3, 0, none⟩ = some (.int .i64 0) := (blk_cell B3.out 0).trans rfl
  have uf0 := blk_frozen B3.out 0
  refine norm_ (a' := ?_) ?_ ?_
  rotate_left
  · simp only [putAll, Act.put, List.setIfInBounds_toArray, List.set_cons_zero, List.set_cons_succ]
    rfl
  refine pure_ (i := 15) (N := some 5) (v := ?_) (a' := ?_) #[true, true, true, true, true, true, true, true, true, true, true, true, true, true, true, true, false, false] rfl rfl (any_of HT_.out (by kernel_rfl)) (fun _ _ _ h => h) (Or.inl ⟨by rfl, ?_⟩) ?_ ?_
  rotate_left
  · intro w'
    go_simp
    with_reducible rfl
  rotate_left
  · simp only [Act.put, List.setIfInBounds_toArray, List.set_cons_zero, List.set_cons_succ, i64_w, i32_w]
    rfl
  refine pure_ (i := 16) (N := some 6) (v := ?_) (a' := ?_) #[true, true, true, true, true, true, true, true, true, true, true, true, true, true, true, true, true, false] rfl rfl (any_of HT_.out (by kernel_rfl)) (fun _ _ _ h => h) (Or.inl ⟨by rfl, ?_⟩) ?_ ?_
  rotate_left
  · intro w'
    go_simp
    with_reducible rfl
  rotate_left
  · simp only [Act.put, List.setIfInBounds_toArray, List.set_cons_zero, List.set_cons_succ, i64_w, i32_w]
    rfl
  refine last_ (i := 17) (N := none) #[true, true, true, true, true, true, true, true, true, true, true, true, true, true, true, true, true, true] rfl rfl (one_of HT_.out (by kernel_rfl)) (by decide) (fun K hK => ?_)
  refine skip_ (w1 := ?_) (by rfl) rfl ?_ ?_
  rotate_left
  · go_simp
    rfl
  refine hK.out _ _ ?_
  clear hK K
  refine done_ (done_of HT_.out (by kernel_rfl)) ?_
  clear HT_ HW_ hHeld u0 uf0
  have nr3 : g ≠ g3 := Nat.ne_of_lt (Nat.lt_of_lt_of_le (blk_lt HBB.out) G3.out)
  have C3 := Aside0.mk (show (w8.setCell ⟨g3, 0, none⟩ (.int .i64 0)).heap[g3]? = some (.cells #[.int .i64 0] 26 (0, 0)) from blk_put B3.out 0 _ rfl)
  have CR := Aside0.mk (show (w8.setCell ⟨g3, 0, none⟩ (.int .i64 0)).heap[g]? = some (.cells (RdB A l.length c at_ none) 56 (0, 0)) from blk_far (p := ⟨g3, 0, none⟩) BR.out nr3 _)
  have CB := Aside0.mk (show Below w.heap.size w (w8.setCell ⟨g3, 0, none⟩ (.int .i64 0)) from below_set HB.out G3.out)
  clear B3 BR HB
  generalize (w8.setCell ⟨g3, 0, none⟩ (.int .i64 0)) = w9 at C3 CR CB ⊢
  have y0 : w9.cell? ⟨g3, 0, none⟩ = some (.int .i64 0) := (blk_cell C3.out 0).trans rfl
  have k1 : w9.cell? ⟨g, 1, none⟩ = some (.int .i64 at_) := (blk_cell CR.out 1).trans rfl
  have kf := blk_frozen CR.out 1
  have n3 : g3 ≠ g := nr3.symm
  go_wp2
  go_ret
  exact ⟨rfl, blk_put CR.out 1 _ rfl, bgrown_below CB.out (bgrown_set CR.out _ _)⟩
def bn_x.T3 : Bool × List (List Nat × List Nat) := (true, [([], []), ([0], [0]), ([1], [1]), ([2], [2]), ([], []), ([4], [4]), ([5], [5]), ([6], [6]), ([], []), ([3, 7, 8], [3, 7, 8]), ([9], [9]), ([10], [10]), ([10], [10]), ([10], [10]), ([], []), ([11, 9, 0, 1, 2, 3, 4, 5, 6, 7, 8, 9, 10, 11, 14], [11]), ([12, 15, 0, 1, 2, 3, 4, 5, 6, 7, 8, 9, 10, 11, 12, 14, 15], [12]), ([14, 13, 16, 0, 1, 2, 3, 4, 5, 6, 7, 8, 9, 10, 11, 12, 13, 14, 15, 16], [13, 14])])
def bn_x.B3 : List Nat := [0, 1, 3, 7, 0, 16, 48, 112, 0, 511, 1023, 2047, 2047, 2047, 0, 20479, 57343, 131071]
theorem bn_x.tab3 : rtab .any (opsOf Try.f24 3) = bn_x.T3 := by kernel_rfl
theorem bn_x.bits3 : waitsOk bn_x.T3.2 bn_x.B3 = true := by kernel_rfl
set_option maxHeartbeats 8000000 in
set_option maxRecDepth 100000 in
theorem bn_x (g : Nat) (A : Option Addr) (c : Nat) (l : List Int) (at_ sz s1 s2 s3 : Int) (w : World) (hG : getSpec l at_ sz = (s1, s2, s3)) (hs : ¬ s3 = 0) (hB : Bytes l) (hl : l.length ≤ 1000000000000) (hr : Kd.C (Kd.int .u8) w A l.length l) (hc : l.length ≤ c) (hb : w.heap[g]? = some (.cells (RdB A l.length c at_ none) 56 (0, 0))) :
    Calls Try.prog 24 #[.pointer (some ⟨g, 0, none⟩), .int .i64 sz] w fun x w' => x = .returned (.int .i64 0) ∧ ∃ gb, w'.heap[g]? = some (.cells (RdB A l.length c at_ (some ⟨gb, 0, none⟩)) 56 (0, 0)) ∧ w'.heap[gb]? = some (.cells #[.int .i64 s3] 26 (0, 0)) ∧ w.heap.size ≤ gb ∧ w.grownBy w' (some g) := by
  have h2 : w.cell? ⟨g, 2, none⟩ = some (.pointer none) := (blk_cell hb 2).trans rfl
  have HBB := Aside0.mk hb
  have HG := Aside0.mk (show wire_Get.f l at_ sz = some (s1, s2, s3) by rw [wire_Get_eq _ _ _ hB hl, hG])
  have HR := Aside0.mk hr
  have HC := Aside0.mk hc
  have b1 : (s3 != 0) = true := bne_iff_ne.mpr hs
  clear hs
  clear hG hb hr hc hB hl
  go_enter Try.func24, Try.ntmps24
  go_upto_region 3 with (go_at_call 25; (with_reducible refine (bp_load0 g _ h2).mono ?_); rintro _ _ ⟨rfl, rfl⟩)
  clear h2
  have HBd := Aside0.mk (below_drew (Below.refl w.heap.size w))
  have BRd := Aside0.mk (show w.drew.heap[g]? = _ from HBB.out)
  refine start_ (n := 18) (S := fun w' => w'.cell? ⟨g, 0, none⟩ = some (.slice A l.length c) ∧ w'.cell? ⟨g, 1, none⟩ = some (.int .i64 at_)) (ds := [17]) #[false, false, false, false, false, false, false, false, false, false, false, false, false, false, false, false, false, false] (by kernel_rfl) rfl rfl ⟨(blk_cell BRd.out 0).trans rfl, (blk_cell BRd.out 1).trans rfl⟩ (fun hHeld => ?_); refine with_tabW bn_x.tab3 bn_x.bits3 (fun HT_ HW_ => ?_)
  refine pure_ (i := 0) (N := some 14) (v := ?_) (a' := ?_) #[true, false, false, false, false, false, false, false, false, false, false, false, false, false, false, false, false, false] rfl rfl (any_of HT_.out (by kernel_rfl)) (fun _ _ _ h => h) (Or.inl ⟨by rfl, ?_⟩) ?_ ?_
  rotate_left
  · intro w'
    go_simp
    with_reducible rfl
  rotate_left
  · simp only [Act.put, List.setIfInBounds_toArray, List.set_cons_zero, List.set_cons_succ, i64_w, i32_w]
    rfl
  refine pure_ (i := 1) (N := some 15) (v := ?_) (a' := ?_) #[true, true, false, false, false, false, false, false, false, false, false, false, false, false, false, false, false, false] rfl rfl (any_of HT_.out (by kernel_rfl)) (fun _ _ _ h => h) (Or.inl ⟨by rfl, ?_⟩) ?_ ?_
  rotate_left
  · intro w'
    go_simp
    with_reducible rfl
  rotate_left
  · simp only [Act.put, List.setIfInBounds_toArray, List.set_cons_zero, List.set_cons_succ, i64_w, i32_w]
    rfl
  refine pure_ (i := 2) (N := some 16) (v := ?_) (a' := ?_) #[true, true, true, false, false, false, false, false, false, false, false, false, false, false, false, false, false, false] rfl rfl (any_of HT_.out (by kernel_rfl)) (fun _ _ _ h => h) (Or.inl ⟨by rfl, ?_⟩) ?_ ?_
  rotate_left
  · intro w'
    go_simp
    with_reducible rfl
  rotate_left
  · simp only [Act.put, List.setIfInBounds_toArray, List.set_cons_zero, List.set_cons_succ, i64_w, i32_w]
    rfl
  refine pure_ (i := 4) (N := some 18) (v := ?_) (a' := ?_) #[true, true, true, false, true, false, false, false, false, false, false, false, false, false, false, false, false, false] rfl rfl (any_of HT_.out (by kernel_rfl)) (fun _ _ _ h => h) (Or.inl ⟨by rfl, ?_⟩) ?_ ?_
  rotate_left
  · intro w'
    go_simp
    with_reducible rfl
  rotate_left
  · simp only [Act.put, List.setIfInBounds_toArray, List.set_cons_zero, List.set_cons_succ, i64_w, i32_w]
    rfl
  refine pure_ (i := 5) (N := some 19) (v := ?_) (a' := ?_) #[true, true, true, false, true, true, false, false, false, false, false, false, false, false, false, false, false, false] rfl rfl (any_of HT_.out (by kernel_rfl)) (fun _ _ _ h => h) (Or.inl ⟨by rfl, ?_⟩) ?_ ?_
  rotate_left
  · intro w'
    go_simp
    with_reducible rfl
  rotate_left
  · simp only [Act.put, List.setIfInBounds_toArray, List.set_cons_zero, List.set_cons_succ, i64_w, i32_w]
    rfl
  refine pure_ (i := 6) (N := some 20) (v := ?_) (a' := ?_) #[true, true, true, false, true, true, true, false, false, false, false, false, false, false, false, false, false, false] rfl rfl (any_of HT_.out (by kernel_rfl)) (fun _ _ _ h => h) (Or.inl ⟨by rfl, ?_⟩) ?_ ?_
  rotate_left
  · intro w'
    go_simp
    with_reducible rfl
  rotate_left
  · simp only [Act.put, List.setIfInBounds_toArray, List.set_cons_zero, List.set_cons_succ, i64_w, i32_w]
    rfl
  refine pure_ (i := 8) (N := some 22) (v := ?_) (a' := ?_) #[true, true, true, false, true, true, true, false, true, false, false, false, false, false, false, false, false, false] rfl rfl (any_of HT_.out (by kernel_rfl)) (fun _ _ _ h => h) (Or.inl ⟨by rfl, ?_⟩) ?_ ?_
  rotate_left
  · intro w'
    go_simp
    with_reducible rfl
  rotate_left
  · simp only [Act.put, List.setIfInBounds_toArray, List.set_cons_zero, List.set_cons_succ, i64_w, i32_w]
    rfl
  refine take_ (i := 3) (N := some 17) (v := ?_) (a' := ?_) #[true, true, true, true, true, true, true, false, true, false, false, false, false, false, false, false, false, false] rfl rfl (take_ofW HT_.out HW_.out (by kernel_rfl)) (fun _ _ _ h => h) (Or.inl ⟨by rfl, ?_⟩) hHeld ?_ ?_
  rotate_left
  · rintro w' ⟨s0, s1⟩
    go_simp
    with_reducible rfl
  rotate_left
  · simp only [Act.put, List.setIfInBounds_toArray, List.set_cons_zero, List.set_cons_succ, i64_w, i32_w]
    rfl
  refine take_ (i := 7) (N := some 21) (v := ?_) (a' := ?_) #[true, true, true, true, true, true, true, true, true, false, false, false, false, false, false, false, false, false] rfl rfl (take_ofW HT_.out HW_.out (by kernel_rfl)) (fun _ _ _ h => h) (Or.inl ⟨by rfl, ?_⟩) hHeld ?_ ?_
  rotate_left
  · rintro w' ⟨s0, s1⟩
    go_simp
    with_reducible rfl
  rotate_left
  · simp only [Act.put, List.setIfInBounds_toArray, List.set_cons_zero, List.set_cons_succ, i64_w, i32_w]
    rfl
  refine join_ (σ := Nat) 3 #[true, true, true, true, true, true, true, true, true, true, true, true, true, true, true, false, false, false] (fun s_ => [(23, .tuple #[.int .i64 s1, .int .i64 s2, .int .i64 s3]), (13, .tuple #[.int .i64 s1, .int .i64 s2, .int .i64 s3]), (24, .int .i64 s1), (25, .int .i64 s2), (26, .int .i64 s3), (7, .pointer (some ⟨s_, 0, none⟩))]) (fun s_ w' => (w'.cell? ⟨g, 0, none⟩ = some (.slice A l.length c) ∧ w'.cell? ⟨g, 1, none⟩ = some (.int .i64 at_)) ∧ Aside0 (w'.heap[s_]? = some (.cells #[.int .i64 0] 26 (0, 0))) ∧ Aside0 (w'.heap[g]? = some (.cells (RdB A l.length c at_ none) 56 (0, 0))) ∧ Aside0 (Below w.heap.size w w') ∧ Aside0 (w.heap.size ≤ s_)) ?_ ?_
  rotate_left
  · intro hCont
    refine two_ (i := 9) (j := 14) (Ni := some 23) (Nj := some 7) #[true, true, true, true, true, true, true, true, true, true, false, false, false, false, false, false, false, false] #[true, true, true, true, true, true, true, true, true, false, false, false, false, false, true, false, false, false] rfl rfl rfl rfl (two_of HT_.out (by kernel_rfl)) (by decide) (by decide) (fun K hK => ?_) (fun K hK => ?_)
    · skip
      refine goes_ Try.func37 (by kernel_rfl) rfl #[.slice A l.length c, .int .i64 at_, .int .i64 sz] (by rfl) rfl rfl (by simp only [List.map_toArray, List.map_cons, List.map_nil]; rfl) ?_
      with_reducible refine (wire_Get.calls A c l at_ sz _ _ _ _ (Kd.C_below HR.out HBd.out) HC.out HG.out).mono ?_
      rintro e w7 ⟨rfl, hb7⟩
      refine ⟨_, rfl, ?_⟩
      have HBn := Aside0.mk (below_step HBd.out hb7)
      have BRn := Aside0.mk (blk_below BRd.out hb7)
      clear HBd BRd hb7
      have HBd := HBn
      have BRd := BRn
      clear HBn BRn
      refine hK.out _ _ ⟨(blk_cell BRd.out 0).trans rfl, (blk_cell BRd.out 1).trans rfl⟩ (fun hHeld => ?_)
      clear hK K
      refine norm_ (a' := ?_) ?_ ?_
      rotate_left
      · show Act.put _ (some 23) _ = _
        simp only [Act.put, List.setIfInBounds_toArray, List.set_cons_zero, List.set_cons_succ, i64_w, i32_w]
        rfl
      refine pure_ (i := 10) (N := some 13) (v := ?_) (a' := ?_) #[true, true, true, true, true, true, true, true, true, true, true, false, false, false, false, false, false, false] rfl rfl (any_of HT_.out (by kernel_rfl)) (fun _ _ _ h => h) (Or.inl ⟨by rfl, ?_⟩) ?_ ?_
      rotate_left
      · intro w'
        go_simp
        with_reducible rfl
      rotate_left
      · simp only [Act.put, List.setIfInBounds_toArray, List.set_cons_zero, List.set_cons_succ, i64_w, i32_w]
        rfl
      refine pure_ (i := 11) (N := some 24) (v := ?_) (a' := ?_) #[true, true, true, true, true, true, true, true, true, true, true, true, false, false, false, false, false, false] rfl rfl (any_of HT_.out (by kernel_rfl)) (fun _ _ _ h => h) (Or.inl ⟨by rfl, ?_⟩) ?_ ?_
      rotate_left
      · intro w'
        go_simp
        with_reducible rfl
      rotate_left
      · simp only [Act.put, List.setIfInBounds_toArray, List.set_cons_zero, List.set_cons_succ, i64_w, i32_w]
        rfl
      refine pure_ (i := 12) (N := some 25) (v := ?_) (a' := ?_) #[true, true, true, true, true, true, true, true, true, true, true, true, true, false, false, false, false, false] rfl rfl (any_of HT_.out (by kernel_rfl)) (fun _ _ _ h => h) (Or.inl ⟨by rfl, ?_⟩) ?_ ?_
      rotate_left
      · intro w'
        go_simp
        with_reducible rfl
      rotate_left
      · simp only [Act.put, List.setIfInBounds_toArray, List.set_cons_zero, List.set_cons_succ, i64_w, i32_w]
        rfl
      refine pure_ (i := 13) (N := some 26) (v := ?_) (a' := ?_) #[true, true, true, true, true, true, true, true, true, true, true, true, true, true, false, false, false, false] rfl rfl (any_of HT_.out (by kernel_rfl)) (fun _ _ _ h => h) (Or.inl ⟨by rfl, ?_⟩) ?_ ?_
      rotate_left
      · intro w'
        go_simp
        with_reducible rfl
      rotate_left
      · simp only [Act.put, List.setIfInBounds_toArray, List.set_cons_zero, List.set_cons_succ, i64_w, i32_w]
        rfl
      refine one_ (i := 14) (N := some 7) #[true, true, true, true, true, true, true, true, true, true, true, true, true, true, true, false, false, false] rfl rfl (one_of HT_.out (by kernel_rfl)) (by decide) (fun K hK => ?_)
      refine box_step ?hg (N := 7) ?hd (cs := #[.int .i64 0]) (t := 26) ?hr ?_
      (case hd => rfl)
      (case hg => rfl)
      (case hr => first | (go_simp; done) | (go_simp; rfl))
      intro g3 hg w8 hbox hb
      have HBn := Aside0.mk (below_step HBd.out hb)
      have BRn := Aside0.mk (blk_below BRd.out hb)
      have B3d := Aside0.mk hbox
      have G3 := Aside0.mk (show w.heap.size ≤ g3 by rw [hg]; exact below_size HBd.out)
      clear HBd BRd hb hbox hg
      have HBd := HBn
      have BRd := BRn
      clear HBn BRn
      refine hK.out _ _ ⟨(blk_cell BRd.out 0).trans rfl, (blk_cell BRd.out 1).trans rfl⟩ (fun hHeld => ?_)
      clear hK K
      refine norm_ (a' := ?_) ?_ ?_
      rotate_left
      · show Act.put _ (some 7) _ = _
        simp only [Act.put, List.setIfInBounds_toArray, List.set_cons_zero, List.set_cons_succ, i64_w, i32_w]
        rfl
      exact norm_ (by simp only [putAll, Act.put, List.setIfInBounds_toArray, List.set_cons_zero, List.set_cons_succ]) (hCont g3 _ ⟨hHeld, B3d, BRd, HBd, G3⟩)
    · skip
      refine box_step ?hg (N := 7) ?hd (cs := #[.int .i64 0]) (t := 26) ?hr ?_
      (case hd => rfl)
      (case hg => rfl)
      (case hr => first | (go_simp; done) | (go_simp; rfl))
      intro g3 hg w8 hbox hb
      have HBn := Aside0.mk (below_step HBd.out hb)
      have BRn := Aside0.mk (blk_below BRd.out hb)
      have B3d := Aside0.mk hbox
      have G3 := Aside0.mk (show w.heap.size ≤ g3 by rw [hg]; exact below_size HBd.out)
      clear HBd BRd hb hbox hg
      have HBd := HBn
      have BRd := BRn
      clear HBn BRn
      refine hK.out _ _ ⟨(blk_cell BRd.out 0).trans rfl, (blk_cell BRd.out 1).trans rfl⟩ (fun hHeld => ?_)
      clear hK K
      refine norm_ (a' := ?_) ?_ ?_
      rotate_left
      · show Act.put _ (some 7) _ = _
        simp only [Act.put, List.setIfInBounds_toArray, List.set_cons_zero, List.set_cons_succ, i64_w, i32_w]
        rfl
      refine one_ (i := 9) (N := some 23) #[true, true, true, true, true, true, true, true, true, true, false, false, false, false, true, false, false, false] rfl rfl (one_of HT_.out (by kernel_rfl)) (by decide) (fun K hK => ?_)
      refine goes_ Try.func37 (by kernel_rfl) rfl #[.slice A l.length c, .int .i64 at_, .int .i64 sz] (by rfl) rfl rfl (by simp only [List.map_toArray, List.map_cons, List.map_nil]; rfl) ?_
      with_reducible refine (wire_Get.calls A c l at_ sz _ _ _ _ (Kd.C_below HR.out HBd.out) HC.out HG.out).mono ?_
      rintro e w7 ⟨rfl, hb7⟩
      refine ⟨_, rfl, ?_⟩
      have HBn := Aside0.mk (below_step HBd.out hb7)
      have BRn := Aside0.mk (blk_below BRd.out hb7)
      have B3n := Aside0.mk (blk_below B3d.out hb7)
      clear HBd BRd B3d hb7
      have HBd := HBn
      have BRd := BRn
      have B3d := B3n
      clear HBn BRn B3n
      refine hK.out _ _ ⟨(blk_cell BRd.out 0).trans rfl, (blk_cell BRd.out 1).trans rfl⟩ (fun hHeld => ?_)
      clear hK K
      refine norm_ (a' := ?_) ?_ ?_
      rotate_left
      · show Act.put _ (some 23) _ = _
        simp only [Act.put, List.setIfInBounds_toArray, List.set_cons_zero, List.set_cons_succ, i64_w, i32_w]
        rfl
      refine pure_ (i := 10) (N := some 13) (v := ?_) (a' := ?_) #[true, true, true, true, true, true, true, true, true, true, true, false, false, false, true, false, false, false] rfl rfl (any_of HT_.out (by kernel_rfl)) (fun _ _ _ h => h) (Or.inl ⟨by rfl, ?_⟩) ?_ ?_
      rotate_left
      · intro w'
        go_simp
        with_reducible rfl
      rotate_left
      · simp only [Act.put, List.setIfInBounds_toArray, List.set_cons_zero, List.set_cons_succ, i64_w, i32_w]
        rfl
      refine pure_ (i := 11) (N := some 24) (v := ?_) (a' := ?_) #[true, true, true, true, true, true, true, true, true, true, true, true, false, false, true, false, false, false] rfl rfl (any_of HT_.out (by kernel_rfl)) (fun _ _ _ h => h) (Or.inl ⟨by rfl, ?_⟩) ?_ ?_
      rotate_left
      · intro w'
        go_simp
        with_reducible rfl
      rotate_left
      · simp only [Act.put, List.setIfInBounds_toArray, List.set_cons_zero, List.set_cons_succ, i64_w, i32_w]
        rfl
      refine pure_ (i := 12) (N := some 25) (v := ?_) (a' := ?_) #[true, true, true, true, true, true, true, true, true, true, true, true, true, false, true, false, false, false] rfl rfl (any_of HT_.out (by kernel_rfl)) (fun _ _ _ h => h) (Or.inl ⟨by rfl, ?_⟩) ?_ ?_
      rotate_left
      · intro w'
        go_simp
        with_reducible rfl
      rotate_left
      · simp only [Act.put, List.setIfInBounds_toArray, List.set_cons_zero, List.set_cons_succ, i64_w, i32_w]
        rfl
      refine pure_ (i := 13) (N := some 26) (v := ?_) (a' := ?_) #[true, true, true, true, true, true, true, true, true, true, true, true, true, true, true, false, false, false] rfl rfl (any_of HT_.out (by kernel_rfl)) (fun _ _ _ h => h) (Or.inl ⟨by rfl, ?_⟩) ?_ ?_
      rotate_left
      · intro w'
        go_simp
        with_reducible rfl
      rotate_left
      · simp only [Act.put, List.setIfInBounds_toArray, List.set_cons_zero, List.set_cons_succ, i64_w, i32_w]
        rfl
      exact norm_ (by simp only [putAll, Act.put, List.setIfInBounds_toArray, List.set_cons_zero, List.set_cons_succ]) (hCont g3 _ ⟨hHeld, B3d, BRd, HBd, G3⟩)
  rintro g3 w8 ⟨hHeld, B3, BR, HB, G3⟩
  clear BRd HBd
  have u0 : w8.cell? ⟨g3, 0, none⟩ = some (.int .i64 0) := (blk_cell B3.out 0).trans rfl
  have uf0 := blk_frozen B3.out 0
  refine norm_ (a' := ?_) ?_ ?_
  rotate_left
  · simp only [putAll, Act.put, List.setIfInBounds_toArray, List.set_cons_zero, List.set_cons_succ]
    rfl
  refine pure_ (i := 15) (N := some 5) (v := ?_) (a' := ?_) #[true, true, true, true, true, true, true, true, true, true, true, true, true, true, true, true, false, false] rfl rfl (any_of HT_.out (by kernel_rfl)) (fun _ _ _ h => h) (Or.inl ⟨by rfl, ?_⟩) ?_ ?_
  rotate_left
  · intro w'
    go_simp
    with_reducible rfl
  rotate_left
  · simp only [Act.put, List.setIfInBounds_toArray, List.set_cons_zero, List.set_cons_succ, i64_w, i32_w]
    rfl
  refine pure_ (i := 16) (N := some 6) (v := ?_) (a' := ?_) #[true, true, true, true, true, true, true, true, true, true, true, true, true, true, true, true, true, false] rfl rfl (any_of HT_.out (by kernel_rfl)) (fun _ _ _ h => h) (Or.inl ⟨by rfl, ?_⟩) ?_ ?_
  rotate_left
  · intro w'
    go_simp
    with_reducible rfl
  rotate_left
  · simp only [Act.put, List.setIfInBounds_toArray, List.set_cons_zero, List.set_cons_succ, i64_w, i32_w]
    rfl
  refine last_ (i := 17) (N := none) #[true, true, true, true, true, true, true, true, true, true, true, true, true, true, true, true, true, true] rfl rfl (one_of HT_.out (by kernel_rfl)) (by decide) (fun K hK => ?_)
  refine skip_ (w1 := ?_) (by rfl) rfl ?_ ?_
  rotate_left
  · go_simp
    rfl
  refine hK.out _ _ ?_
  clear hK K
  refine done_ (done_of HT_.out (by kernel_rfl)) ?_
  clear HT_ HW_ hHeld u0 uf0
  have nr3 : g ≠ g3 := Nat.ne_of_lt (Nat.lt_of_lt_of_le (blk_lt HBB.out) G3.out)
  have C3 := Aside0.mk (show (w8.setCell ⟨g3, 0, none⟩ (.int .i64 s3)).heap[g3]? = some (.cells #[.int .i64 s3] 26 (0, 0)) from blk_put B3.out 0 _ rfl)
  have CR := Aside0.mk (show (w8.setCell ⟨g3, 0, none⟩ (.int .i64 s3)).heap[g]? = some (.cells (RdB A l.length c at_ none) 56 (0, 0)) from blk_far (p := ⟨g3, 0, none⟩) BR.out nr3 _)
  have CB := Aside0.mk (show Below w.heap.size w (w8.setCell ⟨g3, 0, none⟩ (.int .i64 s3)) from below_set HB.out G3.out)
  clear B3 BR HB
  generalize (w8.setCell ⟨g3, 0, none⟩ (.int .i64 s3)) = w9 at C3 CR CB ⊢
  have y0 : w9.cell? ⟨g3, 0, none⟩ = some (.int .i64 s3) := (blk_cell C3.out 0).trans rfl
  have k1 : w9.cell? ⟨g, 2, none⟩ = some (.pointer none) := (blk_cell CR.out 2).trans rfl
  have kf := blk_frozen CR.out 2
  have n3 : g3 ≠ g := nr3.symm
  go_wp2_with (go_at_call 38; (with_reducible refine (bp_cas g g3 _ _ k1 kf y0).mono ?_); rintro _ _ ⟨rfl, rfl⟩)
  go_ret
  exact ⟨rfl, g3, blk_put CR.out 2 _ rfl, blk_far (p := ⟨g, 2, none⟩) C3.out n3 _, G3.out, bgrown_below CB.out (bgrown_set CR.out _ _)⟩
end Go.Proofs.Ytaiklcpmlkpfjaa.P
namespace Go.Proofs.Ytaiklcpmlkpfjaa.P
open Go.RowKit Go.Proofs.YtaiklcpmlkpfjaaW.PrintWords Go.Proofs.YtaiklcpmlkpfjaaW.PrintLast Go.Proofs.YtaiklcpmlkpfjaaW.PrintMore
open Classical
def rbN (l : List Int) (n at_ e : Int) : Int × Int × Int := if e = 0 then (if (getSpec l at_ n).2.2 = 0 then ((getSpec l at_ n).1, (getSpec l at_ n).2.1, 0) else (0, at_, (getSpec l at_ n).2.2)) else (0, at_, e)
def PE (w : World) (p : Option Addr) (e : Int) : Prop := (p = none ∧ e = 0) ∨ ∃ gb, p = some ⟨gb, 0, none⟩ ∧ ¬ e = 0 ∧ w.heap[gb]? = some (.cells #[.int .i64 e] 26 (0, 0))
theorem PE.nil (w : World) : PE w none 0 := Or.inl ⟨rfl, rfl⟩
theorem bn_number (g : Nat) (A : Option Addr) (c : Nat) (l : List Int) (at_ e sz v at2 e2 : Int) (p : Option Addr) (w : World) (hN : rbN l sz at_ e = (v, at2, e2)) (hB : Bytes l) (hl : l.length ≤ 1000000000000) (hr : Kd.C (Kd.int .u8) w A l.length l) (hc : l.length ≤ c)
    (hb : w.heap[g]? = some (.cells (RdB A l.length c at_ p) 56 (0, 0))) (hp : PE w p e) :
    Calls Try.prog 24 #[.pointer (some ⟨g, 0, none⟩), .int .i64 sz] w fun x w' => x = .returned (.int .i64 v) ∧ ∃ p2, w'.heap[g]? = some (.cells (RdB A l.length c at2 p2) 56 (0, 0)) ∧ PE w' p2 e2 ∧ w.grownBy w' (some g) := by
  unfold rbN at hN
  rcases hp with ⟨rfl, he⟩ | ⟨gb, rfl, he, hgb⟩
  · rw [if_pos he] at hN
    obtain ⟨s1, s2, s3, hG⟩ : ∃ s1 s2 s3, getSpec l at_ sz = (s1, s2, s3) := ⟨_, _, _, rfl⟩
    rw [hG] at hN
    by_cases hs : s3 = 0
    · rw [if_pos hs] at hN
      simp only [Prod.mk.injEq] at hN
      obtain ⟨rfl, rfl, rfl⟩ := hN
      refine (bn_ok g A c l at_ sz s1 s2 s3 w hG hs hB hl hr hc hb).mono ?_
      rintro x w' ⟨rfl, h1, h2⟩
      exact ⟨rfl, none, h1, .inl ⟨rfl, rfl⟩, h2⟩
    · rw [if_neg hs] at hN
      simp only [Prod.mk.injEq] at hN
      obtain ⟨rfl, rfl, rfl⟩ := hN
      refine (bn_x g A c l at_ sz s1 s2 s3 w hG hs hB hl hr hc hb).mono ?_
      rintro x w' ⟨rfl, gb, h1, h3, _, h2⟩
      exact ⟨rfl, _, h1, .inr ⟨gb, rfl, hs, h3⟩, h2⟩
  · rw [if_neg he] at hN
    simp only [Prod.mk.injEq] at hN
    obtain ⟨rfl, rfl, rfl⟩ := hN
    refine (bn_E g gb A l.length c at_ e sz w hb hgb).mono ?_
    rintro x w' ⟨rfl, rfl⟩
    exact ⟨rfl, _, hb, .inr ⟨gb, rfl, he, hgb⟩, rfl, rfl, rfl, Nat.le_refl _, fun _ _ _ => rfl⟩
def blL (l : List Int) : Nat → List S59 → Int → Int → List S59 × Int × Int
  | 0, Y, at_, e => (Y, at_, e)
  | m + 1, Y, at_, e => blL l m (Y ++ [⟨(rbN l 1 at_ e).1, (rbN l 4 (rbN l 1 at_ e).2.1 (rbN l 1 at_ e).2.2).1⟩]) (rbN l 4 (rbN l 1 at_ e).2.1 (rbN l 1 at_ e).2.2).2.1 (rbN l 4 (rbN l 1 at_ e).2.1 (rbN l 1 at_ e).2.2).2.2
def bnFin (n : Int) (Y : List S59) (at_ e : Int) : Int × List S59 × Int × Int := if e = 0 then (if RBn n Y then (n, Y, at_, 0) else (0, [], 0, 4)) else (0, [], 0, e)
def bnRest (l : List Int) (n m p2 e2 : Int) : Int × List S59 × Int × Int := bnFin n (blL l m.toNat [] p2 e2).1 (blL l m.toNat [] p2 e2).2.1 (blL l m.toNat [] p2 e2).2.2
def bnGo (l : List Int) (a : Int) : Int × List S59 × Int × Int := bnRest l (rbN l 4 a 0).1 (rbN l 1 (rbN l 4 a 0).2.1 (rbN l 4 a 0).2.2).1 (rbN l 1 (rbN l 4 a 0).2.1 (rbN l 4 a 0).2.2).2.1 (rbN l 1 (rbN l 4 a 0).2.1 (rbN l 4 a 0).2.2).2.2
instance (l : List Int) : Decidable (Bytes l) := by unfold Bytes; exact List.decidableBAll _ _
def beacon_Parse.f (l : List Int) (a : Int) : Option (Int × List S59 × Int × Int) := if l.length ≤ 1000000000000 ∧ Bytes l then some (bnGo l a) else none
theorem rbN_one {l : List Int} (hB : Bytes l) {a e v p f : Int} (h : rbN l 1 a e = (v, p, f)) : 0 ≤ v ∧ v ≤ 255 := by
  unfold rbN at h
  split at h
  · split at h
    · rename_i h0
      have hw := get_was l hB a 1 (by omega) (by omega) h0
      simp only [Prod.mk.injEq] at h
      obtain ⟨rfl, _, _⟩ := h
      rw [show ((1 : Nat) : Int) = 1 from rfl, show (256 : Int) ^ 1 = 256 by decide] at hw
      omega
    · simp only [Prod.mk.injEq] at h; omega
  · simp only [Prod.mk.injEq] at h; omega
theorem PE.below {w w' : World} {p : Option Addr} {e : Int} (h : PE w p e) (hb : Below w.heap.size w w') : PE w' p e := by
  rcases h with h | ⟨gb, h1, h2, h3⟩
  · exact .inl h
  · exact .inr ⟨gb, h1, h2, blk_below h3 hb⟩
theorem PE.grown {w w' : World} {p : Option Addr} {e : Int} {b : Option Nat} (h : PE w p e) (hg : w.grownBy w' b) (hb : ∀ gb o, w.heap[gb]? = some (.cells o 26 (0, 0)) → some gb ≠ b) : PE w' p e := by
  rcases h with h | ⟨gb, h1, h2, h3⟩
  · exact .inl h
  · exact .inr ⟨gb, h1, h2, blk_grown h3 hg (hb gb _ h3)⟩
theorem PE.set {w : World} {p : Option Addr} {e : Int} {g i : Nat} {u : Value} (h : PE w p e) (hb : ∀ gb o, w.heap[gb]? = some (.cells o 26 (0, 0)) → gb ≠ g) : PE (w.setCell ⟨g, i, none⟩ u) p e := by
  rcases h with h | ⟨gb, h1, h2, h3⟩
  · exact .inl h
  · exact .inr ⟨gb, h1, h2, blk_far (p := ⟨g, i, none⟩) h3 (hb gb _ h3) _⟩
structure BnSt (w0 w : World) (A : Option Addr) (n c g4 g7 g8 : Nat) (at_ e N : Int) (u : Value) (Y : List S59) : Prop where
  bl : Below w0.heap.size w0 w
  b4 : w.heap[g4]? = some (.cells #[.int .i64 0, .slice none 0 0] 25 (0, 0))
  br : ∃ p, w.heap[g7]? = some (.cells (RdB A n c at_ p) 56 (0, 0)) ∧ PE w p e
  b8 : w.heap[g8]? = some (.cells #[.int .i64 N, u] 25 (0, 0))
  row : Kd.R k59 59 w w0.heap.size (fun _ => True) u Y
  n4 : w0.heap.size ≤ g4
  n7 : w0.heap.size ≤ g7
  n8 : w0.heap.size ≤ g8
  d48 : g4 ≠ g8
theorem BnSt.below {w0 w : World} {A : Option Addr} {n c g4 g7 g8 : Nat} {at_ e N : Int} {u : Value} {Y : List S59} {w' : World} (h : BnSt w0 w A n c g4 g7 g8 at_ e N u Y) (hb : Below w.heap.size w w') : BnSt w0 w' A n c g4 g7 g8 at_ e N u Y := by
  obtain ⟨p, h1, h2⟩ := h.br
  exact ⟨below_step h.bl hb, blk_below h.b4 hb, ⟨p, blk_below h1 hb, h2.below hb⟩, blk_below h.b8 hb, Kd.R_below h.row hb, h.n4, h.n7, h.n8, h.d48⟩
theorem BnSt.drew {w0 w : World} {A : Option Addr} {n c g4 g7 g8 : Nat} {at_ e N : Int} {u : Value} {Y : List S59} (h : BnSt w0 w A n c g4 g7 g8 at_ e N u Y) : BnSt w0 w.drew A n c g4 g7 g8 at_ e N u Y := h.below (below_drew (Below.refl _ _))
theorem BnSt.call {w0 w : World} {A : Option Addr} {n c g4 g7 g8 : Nat} {at_ e N : Int} {u : Value} {Y : List S59} {w' : World} {at2 e2 : Int} {p2 : Option Addr} (h : BnSt w0 w A n c g4 g7 g8 at_ e N u Y) (hb : w'.heap[g7]? = some (.cells (RdB A n c at2 p2) 56 (0, 0))) (hp : PE w' p2 e2) (hg : w.grownBy w' (some g7)) : BnSt w0 w' A n c g4 g7 g8 at2 e2 N u Y := by
  obtain ⟨p, h1, h2⟩ := h.br
  exact ⟨pw_below_grown h.bl (some g7) (below_size h.bl) hg (fun k_ e_ => by cases e_; exact h.n7), blk_grown h.b4 hg (fun e_ => blk_ne h.b4 h1 (by decide) (Option.some.inj e_)), ⟨p2, hb, hp⟩, blk_grown h.b8 hg (fun e_ => blk_ne h.b8 h1 (by decide) (Option.some.inj e_)),
    Kd.R_mono (Kd.R_grown (Kd.R_types h.row h1 (by decide)) hg (fun k hk e_ => hk.2 (Option.some.inj e_))) (fun _ _ => trivial), h.n4, h.n7, h.n8, h.d48⟩
theorem BnSt.set0 {w0 w : World} {A : Option Addr} {n c g4 g7 g8 : Nat} {at_ e N : Int} {u : Value} {Y : List S59} (h : BnSt w0 w A n c g4 g7 g8 at_ e N u Y) (N2 : Int) : BnSt w0 (w.setCell ⟨g8, 0, none⟩ (.int .i64 N2)) A n c g4 g7 g8 at_ e N2 u Y := by
  obtain ⟨p, h1, h2⟩ := h.br
  exact ⟨below_set h.bl h.n8, blk_far (p := ⟨g8, 0, none⟩) h.b4 h.d48 _, ⟨p, blk_far (p := ⟨g8, 0, none⟩) h1 (blk_ne h1 h.b8 (by decide)) _, h2.set (fun gb o ho => blk_ne ho h.b8 (by decide))⟩, blk_put h.b8 0 _ rfl,
    Kd.R_mono (Kd.R_set h.row h.b8 (by decide) 0 _) (fun _ _ => trivial), h.n4, h.n7, h.n8, h.d48⟩
theorem BnSt.set1 {w0 w : World} {A : Option Addr} {n c g4 g7 g8 : Nat} {at_ e N : Int} {u : Value} {Y : List S59} (h : BnSt w0 w A n c g4 g7 g8 at_ e N u Y) {u2 : Value} {Y2 : List S59} (hr : Kd.R k59 59 w w0.heap.size (fun _ => True) u2 Y2) : BnSt w0 (w.setCell ⟨g8, 1, none⟩ u2) A n c g4 g7 g8 at_ e N u2 Y2 := by
  obtain ⟨p, h1, h2⟩ := h.br
  exact ⟨below_set h.bl h.n8, blk_far (p := ⟨g8, 1, none⟩) h.b4 h.d48 _, ⟨p, blk_far (p := ⟨g8, 1, none⟩) h1 (blk_ne h1 h.b8 (by decide)) _, h2.set (fun gb o ho => blk_ne ho h.b8 (by decide))⟩, blk_put h.b8 1 _ rfl,
    Kd.R_mono (Kd.R_set hr h.b8 (by decide) 1 _) (fun _ _ => trivial), h.n4, h.n7, h.n8, h.d48⟩
theorem BnSt.app8 {w0 w : World} {A : Option Addr} {n c g4 g7 g8 : Nat} {at_ e N : Int} {u : Value} {Y : List S59} {w' : World} (h : BnSt w0 w A n c g4 g7 g8 at_ e N u Y) (hg : w.grownBy w' u.ownBlock) : w'.heap[g8]? = some (.cells #[.int .i64 N, u] 25 (0, 0)) := blk_grown h.b8 hg (Kd.R_ne h.row h.b8 (by decide))
theorem BnSt.app {w0 w : World} {A : Option Addr} {n c g4 g7 g8 : Nat} {at_ e N : Int} {u : Value} {Y : List S59} {w' : World} {u2 : Value} {Y2 : List S59} (h : BnSt w0 w A n c g4 g7 g8 at_ e N u Y) (hr : Kd.R k59 59 w' w0.heap.size (fun _ => True) u2 Y2) (hb : Below w0.heap.size w0 w') (hg : w.grownBy w' u.ownBlock) : BnSt w0 (w'.setCell ⟨g8, 1, none⟩ u2) A n c g4 g7 g8 at_ e N u2 Y2 := by
  obtain ⟨p, h1, h2⟩ := h.br
  have b8 := h.app8 hg
  have b4 := blk_grown h.b4 hg (Kd.R_ne h.row h.b4 (by decide))
  have b7 := blk_grown h1 hg (Kd.R_ne h.row h1 (by decide))
  have pe := h2.grown hg (fun gb o ho => Kd.R_ne h.row ho (by decide))
  exact ⟨below_set hb h.n8, blk_far (p := ⟨g8, 1, none⟩) b4 h.d48 _, ⟨p, blk_far (p := ⟨g8, 1, none⟩) b7 (blk_ne b7 b8 (by decide)) _, pe.set (fun gb o ho => blk_ne ho b8 (by decide))⟩, blk_put b8 1 _ rfl,
    Kd.R_mono (Kd.R_set hr b8 (by decide) 1 _) (fun _ _ => trivial), h.n4, h.n7, h.n8, h.d48⟩
structure BnEc (w0 w : World) (A : Option Addr) (n c g4 g7 g8 g9 : Nat) (at_ e N : Int) (u : Value) (Y : List S59) (x y : Int) : Prop where
  st : BnSt w0 w A n c g4 g7 g8 at_ e N u Y
  b9 : w.heap[g9]? = some (.cells #[.int .i64 x, .int .i64 y] 59 (0, 0))
  away : Kd.R k59 59 w w0.heap.size (fun k => True ∧ k ≠ g9) u Y
  n9 : w0.heap.size ≤ g9
theorem BnEc.new {w0 w : World} {A : Option Addr} {n c g4 g7 g8 : Nat} {at_ e N : Int} {u : Value} {Y : List S59} {w' : World} {g9 : Nat} (h : BnSt w0 w A n c g4 g7 g8 at_ e N u Y) (hb : Below w.heap.size w w') (h9 : w'.heap[g9]? = some (.cells #[.int .i64 0, .int .i64 0] 59 (0, 0))) (hg : w.heap.size ≤ g9) : BnEc w0 w' A n c g4 g7 g8 g9 at_ e N u Y 0 0 :=
  ⟨h.below hb, h9, Kd.R_below (Kd.R_elderB h.row g9 hg) hb, Nat.le_trans (below_size h.bl) hg⟩
theorem BnEc.set {w0 w : World} {A : Option Addr} {n c g4 g7 g8 : Nat} {at_ e N : Int} {u : Value} {Y : List S59} {g9 : Nat} {x y x2 y2 : Int} (h : BnEc w0 w A n c g4 g7 g8 g9 at_ e N u Y x y) (i : Nat) (z : Int) (hs : (#[Value.int .i64 x, .int .i64 y] : Array Value).setIfInBounds i (.int .i64 z) = #[.int .i64 x2, .int .i64 y2]) : BnEc w0 (w.setCell ⟨g9, i, none⟩ (.int .i64 z)) A n c g4 g7 g8 g9 at_ e N u Y x2 y2 := by
  obtain ⟨p, h1, h2⟩ := h.st.br
  have far := Kd.R_far (p := ⟨g9, i, none⟩) h.away (fun _ hk => hk.2) (.int .i64 z)
  exact ⟨⟨below_set h.st.bl h.n9, blk_far (p := ⟨g9, i, none⟩) h.st.b4 (blk_ne h.st.b4 h.b9 (by decide)) _, ⟨p, blk_far (p := ⟨g9, i, none⟩) h1 (blk_ne h1 h.b9 (by decide)) _, h2.set (fun gb o ho => blk_ne ho h.b9 (by decide))⟩, blk_far (p := ⟨g9, i, none⟩) h.st.b8 (blk_ne h.st.b8 h.b9 (by decide)) _,
    Kd.R_mono far (fun _ _ => trivial), h.st.n4, h.st.n7, h.st.n8, h.st.d48⟩, blk_put h.b9 i _ hs, far, h.n9⟩
theorem BnEc.call {w0 w : World} {A : Option Addr} {n c g4 g7 g8 : Nat} {at_ e N : Int} {u : Value} {Y : List S59} {g9 : Nat} {x y : Int} {w' : World} {at2 e2 : Int} {p2 : Option Addr} (h : BnEc w0 w A n c g4 g7 g8 g9 at_ e N u Y x y) (hb : w'.heap[g7]? = some (.cells (RdB A n c at2 p2) 56 (0, 0))) (hp : PE w' p2 e2) (hg : w.grownBy w' (some g7)) : BnEc w0 w' A n c g4 g7 g8 g9 at2 e2 N u Y x y := by
  obtain ⟨p, h1, h2⟩ := h.st.br
  exact ⟨h.st.call hb hp hg, blk_grown h.b9 hg (fun e_ => blk_ne h.b9 h1 (by decide) (Option.some.inj e_)), Kd.R_mono (Kd.R_grown (Kd.R_types h.away h1 (by decide)) hg (fun k hk e_ => hk.2 (Option.some.inj e_))) (fun _ hk => hk.1), h.n9⟩
def beacon_Parse.T11 : Bool × List (List Nat × List Nat) := (true, [([], []), ([], []), ([1], [1]), ([2], [2]), ([0, 0], [0]), ([4, 0, 4], []), ([3, 5, 0, 1, 2, 3, 4, 5], [3])])
def beacon_Parse.B11 : List Nat := [0, 0, 2, 6, 1, 17, 63]
theorem beacon_Parse.tab11 : rtab .any (opsOf Try.f8 11) = beacon_Parse.T11 := by kernel_rfl
theorem beacon_Parse.bits11 : waitsOk beacon_Parse.T11.2 beacon_Parse.B11 = true := by kernel_rfl
def beacon_Parse.T14 : Bool × List (List Nat × List Nat) := (true, [([], []), ([], []), ([1], [1]), ([2], [2]), ([3], [3]), ([0, 0], [0]), ([4, 5, 0, 1, 2, 3, 4, 5], [4]), ([6, 0, 1, 2, 3, 4, 5, 6], [])])
def beacon_Parse.B14 : List Nat := [0, 0, 2, 6, 14, 1, 63, 127]
theorem beacon_Parse.tab14 : rtab .any (opsOf Try.f8 14) = beacon_Parse.T14 := by kernel_rfl
theorem beacon_Parse.bits14 : waitsOk beacon_Parse.T14.2 beacon_Parse.B14 = true := by kernel_rfl
set_option maxHeartbeats 8000000 in
set_option maxRecDepth 100000 in
theorem beacon_Parse.calls (A0 : Option Addr) (c0 : Nat) (l0 : List Int) (a1 : Int) (r1 : Int) (r2 : List S59) (r3 r4 : Int) (w : World) (hr0 : Kd.C (Kd.int .u8) w A0 l0.length l0) (hc0 : l0.length ≤ c0) (h : beacon_Parse.f l0 a1 = some (r1, r2, r3, r4)) :
    Calls Try.prog 8 #[.slice A0 l0.length c0, .int .i64 a1] w fun e w' => ∃ v1_ : Value, e = .returned (.tuple #[.agg #[.int .i64 r1, v1_], .int .i64 r3, .int .i64 r4]) ∧ Kd.R k59 59 w' w.heap.size (fun _ => True) v1_ r2 ∧ Below w.heap.size w w' := by
  have hu25 := Try.underlying25
  have hu59 := Try.underlying59
  have hu56 := Try.underlying56
  obtain ⟨hL, hB, hP⟩ : l0.length ≤ 1000000000000 ∧ Bytes l0 ∧ bnGo l0 a1 = (r1, r2, r3, r4) := by
    unfold beacon_Parse.f at h
    split at h
    · rename_i hc
      exact ⟨hc.1, hc.2, Option.some.inj h⟩
    · exact absurd h (by simp)
  clear h
  unfold bnGo at hP
  obtain ⟨n, p1, e1, h1⟩ : ∃ n p e, rbN l0 4 a1 0 = (n, p, e) := ⟨_, _, _, rfl⟩
  rw [h1] at hP
  simp only at hP
  obtain ⟨m, p2, e2, h2⟩ : ∃ n p e, rbN l0 1 p1 e1 = (n, p, e) := ⟨_, _, _, rfl⟩
  rw [h2] at hP
  simp only [bnRest] at hP
  have hm := rbN_one hB h2
  obtain ⟨M, rfl⟩ := Int.eq_ofNat_of_zero_le hm.1
  rw [Int.toNat_natCast] at hP
  obtain ⟨Y, at3, e3, hz⟩ : ∃ Y at3 e3, blL l0 M [] p2 e2 = (Y, at3, e3) := ⟨_, _, _, rfl⟩
  rw [hz] at hP
  simp only [bnFin] at hP
  have HL := Aside0.mk hL
  have HY := Aside0.mk hB
  have HR0 := Aside0.mk hr0
  have HC0 := Aside0.mk hc0
  have H1 := Aside0.mk h1
  have H2 := Aside0.mk h2
  have HZ := Aside0.mk hz
  have HP := Aside0.mk hP
  have HM := Aside0.mk hm.2
  clear hL hB hr0 hc0 h1 h2 hz hP hm
  go_enter Try.func8, Try.ntmps8
  go_upto_region 3 with (first
    | ((with_reducible refine gate_dst (N := 4) rfl ?_); refine box_event ?hg (N := 4) ?hd (cs := #[.int .i64 0, .slice none 0 0]) (t := 25) ?hr ?_; (case hd => rfl); (case hg => rfl); (case hr => first | (go_simp; done) | (go_simp; rfl)); intro g4 hg w4 hbox hb; have HB4 := Aside0.mk hb; have G4 := Aside0.mk (Nat.le_of_eq hg.symm); have B4 := Aside0.mk hbox; clear hb hbox hg)
    | ((with_reducible refine gate_dst (N := 14) rfl ?_); refine box_event ?hg (N := 14) ?hd (cs := RdB A0 l0.length c0 a1 none) (t := 56) ?hr ?_; (case hd => rfl); (case hg => rfl); (case hr => first | (go_simp; done) | (go_simp; rfl)); intro g7 hg w5 hbox hb; have HB5 := Aside0.mk (below_step HB4.out hb); have G7 := Aside0.mk (show w.heap.size ≤ g7 by rw [hg]; exact below_size HB4.out); have B45 := Aside0.mk (blk_below B4.out hb); have BR := Aside0.mk hbox; clear hb hbox hg HB4 B4)
    | (go_at_call 24; (with_reducible refine (bn_number g7 A0 c0 l0 a1 0 4 _ _ _ none _ H1.out HY.out HL.out (Kd.C_below HR0.out HB5.out) HC0.out BR.out (PE.nil w5)).mono ?_); rintro x_ w16 ⟨rfl, pp1, hbx, hpx, hgr⟩; have HB6 := Aside0.mk (pw_below_grown HB5.out (some g7) (below_size HB5.out) hgr (fun k_ e_ => by cases e_; exact G7.out)); have B46 := Aside0.mk (blk_grown B45.out hgr (fun e_ => blk_ne B45.out BR.out (by decide) (Option.some.inj e_))); have BR6 := Aside0.mk hbx; have PE6 := Aside0.mk hpx; clear hbx hpx hgr HB5 B45 BR)
    | ((with_reducible refine gate_dst (N := 8) rfl ?_); refine box_event ?hg (N := 8) ?hd (cs := #[.int .i64 0, .slice none 0 0]) (t := 25) ?hr ?_; (case hd => rfl); (case hg => rfl); (case hr => first | (go_simp; done) | (go_simp; rfl)); intro g8 hg w8 hbox hb; have ST0 := Aside0.mk (BnSt.mk (c := c0) (below_step HB6.out hb) (blk_below B46.out hb) ⟨pp1, blk_below BR6.out hb, PE.below PE6.out hb⟩ hbox (Kd.R_nil _ _ _ _ _) G4.out G7.out (by rw [hg]; exact below_size HB6.out) (by rw [hg]; exact Nat.ne_of_lt (blk_lt B46.out))); clear hb hbox hg; have u0 := (blk_cell ST0.out.b8 0).trans rfl; have u1 := (blk_cell ST0.out.b8 1).trans rfl; have uf0 := blk_frozen ST0.out.b8 0; have uf1 := blk_frozen ST0.out.b8 1))
  have ST := Aside0.mk ((ST0.out.set0 n).set1 (u2 := .slice none 0 0) (Y2 := []) (Kd.R_nil _ _ _ _ _))
  clear ST0 u0 u1 uf0 uf1
  generalize ((w8.setCell ⟨g8, 0, none⟩ (.int .i64 n)).setCell ⟨g8, 1, none⟩ (.slice none 0 0)) = wq at ST ⊢
  obtain ⟨pp, hbr, hpe⟩ := ST.out.br
  go_wp2_with ((go_at_call 24; (with_reducible refine (bn_number g7 A0 c0 l0 p1 e1 1 _ _ _ _ _ H2.out HY.out HL.out (Kd.C_below HR0.out ST.out.bl) HC0.out hbr hpe).mono ?_); rintro x_ w19 ⟨rfl, pp2, hbx, hpx, hgr⟩; have STn := Aside0.mk (ST.out.call hbx hpx hgr); clear hbx hpx hgr))
  clear ST hbr hpe
  have ST := STn
  clear STn
  go_loopg [20] M (fun kq v20 wr => ∃ (i : Nat) (at_ e : Int) (u : Value) (Z : List S59), v20 = .int .i64 i ∧ Aside0 (i + kq = M) ∧ Aside0 (blL l0 kq Z at_ e = (Y, at3, e3)) ∧ Aside0 (Z.length = i) ∧ Aside0 (BnSt w wr A0 l0.length c0 g4 g7 g8 at_ e n u Z))
  case atStart => exact ⟨0, p2, e2, .slice none 0 0, [], rfl, ⟨by omega⟩, HZ, ⟨rfl⟩, ST⟩
  case round =>
    clear ST HZ
    obtain ⟨i, at_, e, u, Z, rfl, HI, HZ, HN, ST⟩ := hrel
    cases gk with
    | zero =>
      obtain rfl : i = M := by have := HI.out; omega
      have hz := HZ.out
      simp only [blL, Prod.mk.injEq] at hz
      obtain ⟨rfl, rfl, rfl⟩ := hz
      clear HZ HI
      obtain ⟨pp, hbr, hpe⟩ := ST.out.br
      obtain ⟨Au, cu, eu⟩ := Kd.R_slice ST.out.row
      subst eu
      rcases hpe with ⟨rfl, he⟩ | ⟨gb, rfl, he, hgb⟩
      · subst he
        have hP := HP.out
        rw [if_pos rfl] at hP
        have h2 : wr.cell? ⟨g7, 2, none⟩ = some (.pointer none) := (blk_cell hbr 2).trans rfl
        have k0 : wr.cell? ⟨g8, 0, none⟩ = some (.int .i64 n) := (blk_cell ST.out.b8 0).trans rfl
        have k1 : wr.cell? ⟨g8, 1, none⟩ = some (.slice Au Z.length cu) := (blk_cell ST.out.b8 1).trans rfl
        obtain ⟨K, hK⟩ := (bncheck_ev n Z (by have := HN.out; have := HM.out; omega)).rounds
        by_cases hR : RBn n Z
        · rw [if_pos hR] at hP hK
          simp only [Prod.mk.injEq] at hP
          obtain ⟨rfl, rfl, rfl, rfl⟩ := hP
          have HK := Aside0.mk hK
          clear hK hR HP
          go_upto_region 14 with (first
            | (go_at_call 25; (with_reducible refine (bp_load0 g7 _ h2).mono ?_); rintro _ _ ⟨rfl, rfl⟩)
            | (go_at_call 22; (with_reducible refine (beacon_Check.calls K n Au cu Z 0 _ (Kd.R_reads' ST.out.row).2.2 (Kd.R_reads' ST.out.row).2.1 HK.out).mono ?_); rintro x_ ws ⟨rfl, hb⟩; have STn := Aside0.mk (ST.out.below hb); clear hb; have y0 := (blk_cell STn.out.b4 0).trans rfl; have y1 := (blk_cell STn.out.b4 1).trans rfl; have yf0 := blk_frozen STn.out.b4 0; have yf1 := blk_frozen STn.out.b4 1))
          clear y0 y1 yf0 yf1 k0 k1 h2 hbr ST
          have ST := Aside0.mk STn.out.drew
          clear STn
          obtain ⟨pp7, hb7, hp7⟩ := ST.out.br
          refine start_ (n := 8) (S := fun w' => w'.cell? ⟨g8, 0, none⟩ = some (.int .i64 n) ∧ w'.cell? ⟨g8, 1, none⟩ = some (.slice Au Z.length cu) ∧ w'.cell? ⟨g7, 1, none⟩ = some (.int .i64 at_)) (ds := []) #[false, false, false, false, false, false, false, false] (by kernel_rfl) rfl rfl ⟨(blk_cell ST.out.b8 0).trans rfl, (blk_cell ST.out.b8 1).trans rfl, (blk_cell hb7 1).trans rfl⟩ (fun hHeld => ?_); refine with_tabW beacon_Parse.tab14 beacon_Parse.bits14 (fun HT_ HW_ => ?_)
          generalize ws.drew = wd at ST hHeld ⊢
          have o0 : wd.cell? ⟨g4, 0, none⟩ = some (.int .i64 0) := (blk_cell ST.out.b4 0).trans rfl
          have o1 : wd.cell? ⟨g4, 1, none⟩ = some (.slice none 0 0) := (blk_cell ST.out.b4 1).trans rfl
          have of0 := blk_frozen ST.out.b4 0
          have of1 := blk_frozen ST.out.b4 1
          have n84 : g8 ≠ g4 := ST.out.d48.symm
          have n74 : g7 ≠ g4 := by obtain ⟨_, h7, _⟩ := ST.out.br; exact blk_ne h7 ST.out.b4 (by decide)
          refine pure_ (i := 1) (N := some 52) (v := ?_) (a' := ?_) #[false, true, false, false, false, false, false, false] rfl rfl (any_of HT_.out (by kernel_rfl)) (fun _ _ _ h => h) (Or.inl ⟨by rfl, ?_⟩) ?_ ?_
          rotate_left
          · intro w'
            go_simp
            with_reducible rfl
          rotate_left
          · simp only [Act.put, List.setIfInBounds_toArray, List.set_cons_zero, List.set_cons_succ, i64_w, i32_w]
            rfl
          refine pure_ (i := 2) (N := some 53) (v := ?_) (a' := ?_) #[false, true, true, false, false, false, false, false] rfl rfl (any_of HT_.out (by kernel_rfl)) (fun _ _ _ h => h) (Or.inl ⟨by rfl, ?_⟩) ?_ ?_
          rotate_left
          · intro w'
            go_simp
            with_reducible rfl
          rotate_left
          · simp only [Act.put, List.setIfInBounds_toArray, List.set_cons_zero, List.set_cons_succ, i64_w, i32_w]
            rfl
          refine pure_ (i := 3) (N := some 54) (v := ?_) (a' := ?_) #[false, true, true, true, false, false, false, false] rfl rfl (any_of HT_.out (by kernel_rfl)) (fun _ _ _ h => h) (Or.inl ⟨by rfl, ?_⟩) ?_ ?_
          rotate_left
          · intro w'
            go_simp
            with_reducible rfl
          rotate_left
          · simp only [Act.put, List.setIfInBounds_toArray, List.set_cons_zero, List.set_cons_succ, i64_w, i32_w]
            rfl
          refine take_ (i := 0) (N := some 51) (v := ?_) (a' := ?_) #[true, true, true, true, false, false, false, false] rfl rfl (take_ofW HT_.out HW_.out (by kernel_rfl)) (fun _ _ _ h => h) (Or.inl ⟨by rfl, ?_⟩) hHeld ?_ ?_
          rotate_left
          · rintro w' ⟨s0, s1, s2⟩
            go_simp
            with_reducible rfl
          rotate_left
          · simp only [Act.put, List.setIfInBounds_toArray, List.set_cons_zero, List.set_cons_succ, i64_w, i32_w]
            rfl
          refine take_ (i := 4) (N := some 55) (v := ?_) (a' := ?_) #[true, true, true, true, true, false, false, false] rfl rfl (take_ofW HT_.out HW_.out (by kernel_rfl)) (fun _ _ _ h => h) (Or.inl ⟨by rfl, ?_⟩) hHeld ?_ ?_
          rotate_left
          · rintro w' ⟨s0, s1, s2⟩
            go_simp
            with_reducible rfl
          rotate_left
          · simp only [Act.put, List.setIfInBounds_toArray, List.set_cons_zero, List.set_cons_succ, i64_w, i32_w]
            rfl
          refine one_ (i := 5) (N := none) #[true, true, true, true, true, true, false, false] rfl rfl (one_of HT_.out (by kernel_rfl)) (by decide) (fun K hK => ?_)
          refine skip_ (w1 := ?_) (by rfl) rfl ?_ ?_
          rotate_left
          · go_simp
            rfl
          refine hK.out _ _ ?_ (fun hHeld2 => ?_)
          · refine ⟨?_, ?_, ?_⟩
            · (repeat (first | refine (cell_far n84 _).trans ?_ | refine (cell_far n74 _).trans ?_)); exact hHeld.1
            · (repeat (first | refine (cell_far n84 _).trans ?_ | refine (cell_far n74 _).trans ?_)); exact hHeld.2.1
            · (repeat (first | refine (cell_far n84 _).trans ?_ | refine (cell_far n74 _).trans ?_)); exact hHeld.2.2
          clear hHeld
          have hHeld := hHeld2
          clear hHeld2
          clear hK K
          refine pure_ (i := 6) (N := some 5) (v := ?_) (a' := ?_) #[true, true, true, true, true, true, true, false] rfl rfl (any_of HT_.out (by kernel_rfl)) (fun _ _ _ h => h) (Or.inl ⟨by rfl, ?_⟩) ?_ ?_
          rotate_left
          · intro w'
            go_simp
            with_reducible rfl
          rotate_left
          · simp only [Act.put, List.setIfInBounds_toArray, List.set_cons_zero, List.set_cons_succ, i64_w, i32_w]
            rfl
          refine pure_ (i := 7) (N := some 6) (v := ?_) (a' := ?_) #[true, true, true, true, true, true, true, true] rfl rfl (any_of HT_.out (by kernel_rfl)) (fun _ _ _ h => h) (Or.inl ⟨by rfl, ?_⟩) ?_ ?_
          rotate_left
          · intro w'
            go_simp
            with_reducible rfl
          rotate_left
          · simp only [Act.put, List.setIfInBounds_toArray, List.set_cons_zero, List.set_cons_succ, i64_w, i32_w]
            rfl
          refine done_ (done_of HT_.out (by kernel_rfl)) ?_
          clear HT_ HW_
          try go_wp2
          refine bodyPost_ret (results_ctt rfl _ _ g4 25 #[.int .i64 n, .slice Au Z.length cu] (0, 0) _ rfl (blk_put (blk_put ST.out.b4 0 (.int .i64 n) (cs' := #[.int .i64 n, .slice none 0 0]) rfl) 1 (.slice Au Z.length cu) (cs' := #[.int .i64 n, .slice Au Z.length cu]) rfl) Try.underlying25 rfl (by kernel_rfl)) rfl ?_
          exact ⟨_, rfl, Kd.R_mono (Kd.R_far (p := ⟨g4, 1, none⟩) (Kd.R_far (p := ⟨g4, 0, none⟩) (Kd.R_types ST.out.row ST.out.b4 (by decide)) (fun _ hk => hk.2) _) (fun _ hk => hk.2) _) (fun _ _ => trivial), below_set (below_set ST.out.bl ST.out.n4) ST.out.n4⟩
        · rw [if_neg hR] at hP hK
          simp only [Prod.mk.injEq] at hP
          obtain ⟨rfl, rfl, rfl, rfl⟩ := hP
          have HK := Aside0.mk hK
          clear hK hR HP
          go_wp2_with (first
            | (go_at_call 25; (with_reducible refine (bp_load0 g7 _ h2).mono ?_); rintro _ _ ⟨rfl, rfl⟩)
            | (go_at_call 22; (with_reducible refine (beacon_Check.calls K n Au cu Z 1 _ (Kd.R_reads' ST.out.row).2.2 (Kd.R_reads' ST.out.row).2.1 HK.out).mono ?_); rintro x_ ws ⟨rfl, hb⟩; have STn := Aside0.mk (ST.out.below hb); clear hb; have y0 := (blk_cell STn.out.b4 0).trans rfl; have y1 := (blk_cell STn.out.b4 1).trans rfl; have yf0 := blk_frozen STn.out.b4 0; have yf1 := blk_frozen STn.out.b4 1))
          clear ST
          have ST := STn
          refine bodyPost_ret (results_ctt rfl _ _ g4 25 #[.int .i64 0, .slice none 0 0] (0, 0) _ rfl (blk_put (blk_put ST.out.b4 0 (.int .i64 0) (cs' := #[.int .i64 0, .slice none 0 0]) rfl) 1 (.slice none 0 0) (cs' := #[.int .i64 0, .slice none 0 0]) rfl) Try.underlying25 rfl (by kernel_rfl)) rfl ?_
          exact ⟨_, rfl, Kd.R_nil _ _ _ _ _, below_set (below_set ST.out.bl ST.out.n4) ST.out.n4⟩
      · have hP := HP.out
        rw [if_neg he] at hP
        simp only [Prod.mk.injEq] at hP
        obtain ⟨rfl, rfl, rfl, rfl⟩ := hP
        have GB := Aside0.mk hgb
        have h2 : wr.cell? ⟨g7, 2, none⟩ = some (.pointer (some ⟨gb, 0, none⟩)) := (blk_cell hbr 2).trans rfl
        clear hgb hbr he HP
        go_upto_region 11 with ((go_at_call 25; (with_reducible refine (bp_load1 g7 gb e _ h2 GB.out).mono ?_); rintro _ _ ⟨rfl, rfl⟩))
        clear h2
        have STd := Aside0.mk ST.out.drew
        clear ST
        have ST := STd
        clear STd
        have GBd := Aside0.mk (show wr.drew.heap[gb]? = _ from GB.out)
        clear GB
        have GB := GBd
        clear GBd
        refine start_ (n := 7) (S := fun w' => w'.cell? ⟨gb, 0, none⟩ = some (.int .i64 e)) (ds := []) #[false, false, false, false, false, false, false] (by kernel_rfl) rfl rfl ((blk_cell GB.out 0).trans rfl) (fun hHeld => ?_); refine with_tabW beacon_Parse.tab11 beacon_Parse.bits11 (fun HT_ HW_ => ?_)
        generalize wr.drew = wd at ST hHeld GB ⊢
        have o0 : wd.cell? ⟨g4, 0, none⟩ = some (.int .i64 0) := (blk_cell ST.out.b4 0).trans rfl
        have o1 : wd.cell? ⟨g4, 1, none⟩ = some (.slice none 0 0) := (blk_cell ST.out.b4 1).trans rfl
        have of0 := blk_frozen ST.out.b4 0
        have of1 := blk_frozen ST.out.b4 1
        have nb4 : gb ≠ g4 := blk_ne GB.out ST.out.b4 (by decide)
        refine pure_ (i := 0) (N := some 42) (v := ?_) (a' := ?_) #[true, false, false, false, false, false, false] rfl rfl (any_of HT_.out (by kernel_rfl)) (fun _ _ _ h => h) (Or.inl ⟨by rfl, ?_⟩) ?_ ?_
        rotate_left
        · intro w'
          go_simp
          with_reducible rfl
        rotate_left
        · simp only [Act.put, List.setIfInBounds_toArray, List.set_cons_zero, List.set_cons_succ, i64_w, i32_w]
          rfl
        refine pure_ (i := 1) (N := some 43) (v := ?_) (a' := ?_) #[true, true, false, false, false, false, false] rfl rfl (any_of HT_.out (by kernel_rfl)) (fun _ _ _ h => h) (Or.inl ⟨by rfl, ?_⟩) ?_ ?_
        rotate_left
        · intro w'
          go_simp
          with_reducible rfl
        rotate_left
        · simp only [Act.put, List.setIfInBounds_toArray, List.set_cons_zero, List.set_cons_succ, i64_w, i32_w]
          rfl
        refine pure_ (i := 2) (N := some 44) (v := ?_) (a' := ?_) #[true, true, true, false, false, false, false] rfl rfl (any_of HT_.out (by kernel_rfl)) (fun _ _ _ h => h) (Or.inl ⟨by rfl, ?_⟩) ?_ ?_
        rotate_left
        · intro w'
          go_simp
          with_reducible rfl
        rotate_left
        · simp only [Act.put, List.setIfInBounds_toArray, List.set_cons_zero, List.set_cons_succ, i64_w, i32_w]
          rfl
        refine take_ (i := 3) (N := some 45) (v := ?_) (a' := ?_) #[true, true, true, true, false, false, false] rfl rfl (take_ofW HT_.out HW_.out (by kernel_rfl)) (fun _ _ _ h => h) (Or.inl ⟨by rfl, ?_⟩) hHeld ?_ ?_
        rotate_left
        · intro w' s0
          go_simp
          with_reducible rfl
        rotate_left
        · simp only [Act.put, List.setIfInBounds_toArray, List.set_cons_zero, List.set_cons_succ, i64_w, i32_w]
          rfl
        refine one_ (i := 4) (N := none) #[true, true, true, true, true, false, false] rfl rfl (one_of HT_.out (by kernel_rfl)) (by decide) (fun K hK => ?_)
        refine skip_ (w1 := ?_) (by rfl) rfl ?_ ?_
        rotate_left
        · go_simp
          rfl
        refine hK.out _ _ ?_ (fun hHeld2 => ?_)
        · (repeat (first | refine (cell_far nb4 _).trans ?_)); exact hHeld
        clear hHeld
        have hHeld := hHeld2
        clear hHeld2
        clear hK K
        refine pure_ (i := 5) (N := some 5) (v := ?_) (a' := ?_) #[true, true, true, true, true, true, false] rfl rfl (any_of HT_.out (by kernel_rfl)) (fun _ _ _ h => h) (Or.inl ⟨by rfl, ?_⟩) ?_ ?_
        rotate_left
        · intro w'
          go_simp
          with_reducible rfl
        rotate_left
        · simp only [Act.put, List.setIfInBounds_toArray, List.set_cons_zero, List.set_cons_succ, i64_w, i32_w]
          rfl
        refine pure_ (i := 6) (N := some 6) (v := ?_) (a' := ?_) #[true, true, true, true, true, true, true] rfl rfl (any_of HT_.out (by kernel_rfl)) (fun _ _ _ h => h) (Or.inl ⟨by rfl, ?_⟩) ?_ ?_
        rotate_left
        · intro w'
          go_simp
          with_reducible rfl
        rotate_left
        · simp only [Act.put, List.setIfInBounds_toArray, List.set_cons_zero, List.set_cons_succ, i64_w, i32_w]
          rfl
        refine done_ (done_of HT_.out (by kernel_rfl)) ?_
        clear HT_ HW_
        try go_wp2
        refine bodyPost_ret (results_ctt rfl _ _ g4 25 #[.int .i64 0, .slice none 0 0] (0, 0) _ rfl (blk_put (blk_put ST.out.b4 0 (.int .i64 0) (cs' := #[.int .i64 0, .slice none 0 0]) rfl) 1 (.slice none 0 0) (cs' := #[.int .i64 0, .slice none 0 0]) rfl) Try.underlying25 rfl (by kernel_rfl)) rfl ?_
        exact ⟨_, rfl, Kd.R_nil _ _ _ _ _, below_set (below_set ST.out.bl ST.out.n4) ST.out.n4⟩
    | succ k1 =>
      have hz := HZ.out
      simp only [blL] at hz
      obtain ⟨x, q1, f1, hx⟩ : ∃ x q f, rbN l0 1 at_ e = (x, q, f) := ⟨_, _, _, rfl⟩
      rw [hx] at hz
      simp only at hz
      obtain ⟨y, q2, f2, hy⟩ : ∃ x q f, rbN l0 4 q1 f1 = (x, q, f) := ⟨_, _, _, rfl⟩
      rw [hy] at hz
      simp only at hz
      clear HZ
      have HZ := Aside0.mk hz
      have HX := Aside0.mk hx
      have HV := Aside0.mk hy
      clear hz hx hy
      have hlt : decide ((i : Int) < (M : Int)) = true := decide_eq_true (by have := HI.out; omega)
      have hltn : decide (i < M) = true := decide_eq_true (by have := HI.out; omega)
      have hi0 : (0 : Int) ≤ (i : Int) := by omega
      have hi1 : (i : Int) < 256 := by have := HI.out; have := HM.out; omega
      obtain ⟨pp, hbr, hpe⟩ := ST.out.br
      go_upto_region 6 with (first
        | (go_at_call 24; (with_reducible refine (bn_number g7 A0 c0 l0 at_ e 1 _ _ _ _ _ HX.out HY.out HL.out (Kd.C_below HR0.out ST.out.bl) HC0.out hbr hpe).mono ?_); rintro x_ w23 ⟨rfl, pp3, hbx, hpx, hgr⟩; have STn := Aside0.mk (ST.out.call hbx hpx hgr); clear hbx hpx hgr ST hbr hpe; have ST := STn; clear STn)
        | ((with_reducible refine gate_dst (N := 9) rfl ?_); refine box_event ?hg (N := 9) ?hd (cs := #[.int .i64 0, .int .i64 0]) (t := 59) ?hr ?_; (case hd => rfl); (case hg => rfl); (case hr => first | (go_simp; done) | (go_simp; rfl)); intro g9 hg w9 hbox hb; have E9 := Aside0.mk (BnEc.new ST.out hb hbox (Nat.le_of_eq hg.symm)); clear hb hbox hg ST; have v0 := (blk_cell E9.out.b9 0).trans rfl; have v1 := (blk_cell E9.out.b9 1).trans rfl; have vf0 := blk_frozen E9.out.b9 0; have vf1 := blk_frozen E9.out.b9 1))
      have E2 := Aside0.mk ((E9.out.set (x2 := x) (y2 := 0) 0 x rfl).set (x2 := x) (y2 := 0) 1 0 rfl)
      clear E9 v0 v1 vf0 vf1
      generalize ((w9.setCell ⟨g9, 0, none⟩ (.int .i64 x)).setCell ⟨g9, 1, none⟩ (.int .i64 0)) = wa at E2 ⊢
      obtain ⟨pp, hbr, hpe⟩ := E2.out.st.br
      go_upto_region 7 with ((go_at_call 24; (with_reducible refine (bn_number g7 A0 c0 l0 q1 f1 4 _ _ _ _ _ HV.out HY.out HL.out (Kd.C_below HR0.out E2.out.st.bl) HC0.out hbr hpe).mono ?_); rintro x_ w26 ⟨rfl, pp4, hbx, hpx, hgr⟩; have E3 := Aside0.mk (E2.out.call hbx hpx hgr); clear hbx hpx hgr E2 hbr hpe; have z1 := (blk_cell E3.out.b9 1).trans rfl; have zf1 := blk_frozen E3.out.b9 1))
      have E4 := Aside0.mk (E3.out.set (x2 := x) (y2 := y) 1 y rfl)
      clear E3 z1 zf1
      generalize (w26.setCell ⟨g9, 1, none⟩ (.int .i64 y)) = wb at E4 ⊢
      have m0 : wb.cell? ⟨g8, 1, none⟩ = some u := (blk_cell E4.out.st.b8 1).trans rfl
      have m1 : wb.cell? ⟨g9, 0, none⟩ = some (.int .i64 x) := (blk_cell E4.out.b9 0).trans rfl
      have m2 : wb.cell? ⟨g9, 1, none⟩ = some (.int .i64 y) := (blk_cell E4.out.b9 1).trans rfl
      obtain ⟨Z2, hZ2⟩ : ∃ Z2 : List S59, Z2 = Z ++ [(⟨x, y⟩ : S59)] := ⟨_, rfl⟩
      have NZ := Aside0.mk hZ2
      clear hZ2
      go_wp2_with (((with_reducible refine gate_builtin (b := .append) (xs := #[.tmp 29, .tmp 31]) rfl ?_); at_builtin; refine Kd.R_append k59 (w0 := w) w.heap.size rfl (.tmp 29) (.tmp 31) 23 59 (.agg #[(.int .i64 0), (.int .i64 0)]) 16 rfl Try.underlying23 info59 rfl (by decide) (by omega) u Z (⟨x, y⟩ : S59) [.int .i64 x, .int .i64 y] (fun _ => True) (fun _ => False) rfl rfl ?aP (fun _ hk => hk.elim) ?aF ?aO ?aB ?aS ?aL ?_; (case aP => exact k59_mkM _ _ _ (⟨x, y⟩ : S59)); (case aB => exact E4.out.st.bl); (case aF => exact (fun _ _ => trivial)); (case aO => exact E4.out.st.row); (case aS => exact below_size E4.out.st.bl); (case aL => have := HN.out; have := HI.out; have := HM.out; omega); intro v2 w2 ho hb hg hat; rw [← NZ.out] at ho; obtain ⟨A2, c2, ev2⟩ := Kd.R_slice ho; subst ev2; have hc1 : w2.cell? ⟨g8, 1, none⟩ = some u := (blk_cell (E4.out.st.app8 hg) 1).trans rfl; have hf1 := blk_frozen (E4.out.st.app8 hg) 1; have STn := Aside0.mk (E4.out.st.app ho hb hg); clear ho hb hg hat))
      go_roundg k1
      case measure => have := HI.out; omega
      case rel => exact ⟨i + 1, q2, f2, _, Z2, by simp, ⟨by have := HI.out; omega⟩, ⟨by rw [NZ.out]; exact HZ.out⟩, ⟨by rw [NZ.out, List.length_append, HN.out]; rfl⟩, STn⟩
end Go.Proofs.Ytaiklcpmlkpfjaa.P
namespace Go.Proofs.Ytaiklcpmlkpfjaa.P
open Go.RowKit Go.Proofs.YtaiklcpmlkpfjaaW.PrintWords Go.Proofs.YtaiklcpmlkpfjaaW.PrintLast Go.Proofs.YtaiklcpmlkpfjaaW.PrintMore
attribute [local go_sem] max2_int min2_int max_two min_two max_three min_three max_four min_four   -- for this text's walks alone
mutual
def thalwegref01_Get.j0 : Nat → List Int → Int → Int → Bool → Option (Int × Int × Int)
  | 0, _, _, _, _ => none
  | k + 1, x0, x1, x2, x26 => if x26 = true then (some (0, 0, 1)) else (if (wrap64 ((x0.length : Int) - x1)) < x2 then (some (0, 0, 6)) else (thalwegref01_Get.l0 k x0 x1 x2 0 0))
def thalwegref01_Get.l0 : Nat → List Int → Int → Int → Int → Int → Option (Int × Int × Int)
  | 0, _, _, _, _, _ => none
  | k + 1, x0, x1, x2, x9, x10 => if x10 < x2 then (if 0 ≤ (wrap64 (x1 + x10)) then (if (wrap64 (x1 + x10)) < (x0.length : Int) then (thalwegref01_Get.l0 k x0 x1 x2 (wrap64 ((wrap64 (256 * x9)) + (wrap64 (rd x0 (wrap64 (x1 + x10)))))) (wrap64 (x10 + 1))) else (none)) else (none)) else (some (x9, wrap64 (x1 + x2), 0))
end
def thalwegref01_Get.f (k : Nat) (l0 : List Int) (a1 : Int) (a2 : Int) : Option (Int × Int × Int) := if a2 < 1 then (thalwegref01_Get.j0 k l0 a1 a2 true) else (if a2 > 7 then (thalwegref01_Get.j0 k l0 a1 a2 true) else (if a1 < 0 then (thalwegref01_Get.j0 k l0 a1 a2 true) else (thalwegref01_Get.j0 k l0 a1 a2 (decide (a1 > (l0.length : Int))))))
theorem thalwegref01_Get.mono_l : ∀ k, (∀ y0 y1 y2 y3, LeO (thalwegref01_Get.j0 k y0 y1 y2 y3) (thalwegref01_Get.j0 (k + 1) y0 y1 y2 y3)) ∧ (∀ y0 y1 y2 y3 y4, LeO (thalwegref01_Get.l0 k y0 y1 y2 y3 y4) (thalwegref01_Get.l0 (k + 1) y0 y1 y2 y3 y4))
  | 0 => ⟨fun _ _ _ _ r h => by simp [thalwegref01_Get.j0] at h, fun _ _ _ _ _ r h => by simp [thalwegref01_Get.l0] at h⟩
  | k + 1 => by
    obtain ⟨ih0, ih1⟩ := thalwegref01_Get.mono_l k
    refine ⟨?_, ?_⟩
    · intro y0 y1 y2 y3
      unfold thalwegref01_Get.j0
      repeat' first
      | (with_reducible exact ih0 _ _ _ _)
      | (with_reducible exact ih1 _ _ _ _ _)
      | (with_reducible exact LeO.refl _)
      | (with_reducible exact LeO.none _)
      | (with_reducible refine LeO.ite ?_ ?_)
      | (with_reducible refine LeO.bind ?_ (fun _ => ?_))
      | exact ih0 _ _ _ _
      | exact ih1 _ _ _ _ _
      | exact LeO.none _
      | refine LeO.ite ?_ ?_
      | refine LeO.bind ?_ (fun _ => ?_)
    · intro y0 y1 y2 y3 y4
      unfold thalwegref01_Get.l0
      repeat' first
      | (with_reducible exact ih0 _ _ _ _)
      | (with_reducible exact ih1 _ _ _ _ _)
      | (with_reducible exact LeO.refl _)
      | (with_reducible exact LeO.none _)
      | (with_reducible refine LeO.ite ?_ ?_)
      | (with_reducible refine LeO.bind ?_ (fun _ => ?_))
      | exact ih0 _ _ _ _
      | exact ih1 _ _ _ _ _
      | exact LeO.none _
      | refine LeO.ite ?_ ?_
      | refine LeO.bind ?_ (fun _ => ?_)
theorem thalwegref01_Get.mono : ∀ a0 a1 a2 k, LeO (thalwegref01_Get.f k a0 a1 a2) (thalwegref01_Get.f (k + 1) a0 a1 a2) := by
  intro a0 a1 a2 k
  obtain ⟨ih0, ih1⟩ := thalwegref01_Get.mono_l k
  unfold thalwegref01_Get.f
  repeat' first
      | (with_reducible exact ih0 _ _ _ _)
      | (with_reducible exact ih1 _ _ _ _ _)
      | (with_reducible exact LeO.refl _)
      | (with_reducible exact LeO.none _)
      | (with_reducible refine LeO.ite ?_ ?_)
      | (with_reducible refine LeO.bind ?_ (fun _ => ?_))
      | exact ih0 _ _ _ _
      | exact ih1 _ _ _ _ _
      | exact LeO.none _
      | refine LeO.ite ?_ ?_
      | refine LeO.bind ?_ (fun _ => ?_)
set_option maxHeartbeats 8000000 in
set_option maxRecDepth 100000 in
theorem thalwegref01_Get.calls (k : Nat) (A0 : Option Addr) (c0 : Nat) (l0 : List Int) (a1 : Int) (a2 : Int) (r1 : Int) (r2 : Int) (r3 : Int) (w : World) (hr0 : Kd.C (Kd.int .u8) w A0 l0.length l0) (hc0 : l0.length ≤ c0) (h : thalwegref01_Get.f k l0 a1 a2 = some (r1, r2, r3)) :
    Calls Try.prog 26 #[.slice A0 l0.length c0, .int .i64 a1, .int .i64 a2] w fun e w' => e = .returned (.tuple #[.int .i64 r1, .int .i64 r2, .int .i64 r3]) ∧ Drawn0 w w' := by
  have HR0 := Aside0.mk hr0
  have HC0 := Aside0.mk hc0
  clear hr0 hc0
  have H : (if a2 < 1 then (thalwegref01_Get.j0 k l0 a1 a2 true) else (if a2 > 7 then (thalwegref01_Get.j0 k l0 a1 a2 true) else (if a1 < 0 then (thalwegref01_Get.j0 k l0 a1 a2 true) else (thalwegref01_Get.j0 k l0 a1 a2 (decide (a1 > (l0.length : Int))))))) = some (r1, r2, r3) := h
  clear h
  have HC4 := Aside0.mk H
  clear H
  go_enter Try.func26, Try.ntmps26
  go_upto_region 1 with (fail)
  go_cut [26] (fun v26 wc => ∃ (kq : Nat) (x26_3 : Bool), v26 = .bool x26_3 ∧ Aside0 (thalwegref01_Get.j0 kq l0 a1 a2 x26_3 = some (r1, r2, r3)) ∧ Aside0 (kq ≤ k) ∧ Drawn0 w wc)
  case first =>
    have H := HC4.out
    clear HC4
    by_cases c5 : a2 < 1
    · rw [if_pos c5] at H
      have c5b0 : decide (a2 < 1) = true := decide_eq_true c5
      clear c5
      (first | rw [c5b0] | (simp only [i64_w, i32_w]; rw [c5b0]) | rw [c5b1] | skip)
      have H' := Aside0.mk H
      clear H
      go_wp2
      go_meet
      case rel => exact ⟨_, (true), (by first | rfl | (simp; done) | (simp [*]; done)), H', ⟨by first | omega | exact Nat.le_refl _⟩, by repeat (first | exact Drawn0.refl _ | apply Drawn0.step)⟩
    · rw [if_neg c5] at H
      have c5b0 : decide (a2 < 1) = false := decide_eq_false c5
      clear c5
      (first | rw [c5b0] | (simp only [i64_w, i32_w]; rw [c5b0]) | rw [c5b1] | skip)
      by_cases c6 : a2 > 7
      · rw [if_pos c6] at H
        have c6b0 : decide (7 < a2) = true := decide_eq_true c6
        clear c6
        have H' := Aside0.mk H
        clear H
        go_wp2
        go_meet
        case rel => exact ⟨_, (true), (by first | rfl | (simp; done) | (simp [*]; done)), H', ⟨by first | omega | exact Nat.le_refl _⟩, by repeat (first | exact Drawn0.refl _ | apply Drawn0.step)⟩
      · rw [if_neg c6] at H
        have c6b0 : decide (7 < a2) = false := decide_eq_false c6
        clear c6
        by_cases c7 : a1 < 0
        · rw [if_pos c7] at H
          have c7b0 : decide (a1 < 0) = true := decide_eq_true c7
          clear c7
          have H' := Aside0.mk H
          clear H
          go_wp2
          go_meet
          case rel => exact ⟨_, (true), (by first | rfl | (simp; done) | (simp [*]; done)), H', ⟨by first | omega | exact Nat.le_refl _⟩, by repeat (first | exact Drawn0.refl _ | apply Drawn0.step)⟩
        · rw [if_neg c7] at H
          have c7b0 : decide (a1 < 0) = false := decide_eq_false c7
          clear c7
          have H' := Aside0.mk H
          clear H
          go_wp2
          go_meet
          case rel => exact ⟨_, (decide (a1 > (l0.length : Int))), (by first | rfl | (simp; done) | (simp [*]; done)), H', ⟨by first | omega | exact Nat.le_refl _⟩, by repeat (first | exact Drawn0.refl _ | apply Drawn0.step)⟩
  case rest =>
    clear HC4
    try clear c2
    try clear p2
    try clear c5
    try clear c5b0
    try clear c6
    try clear c6b0
    try clear c7
    try clear c7b0
    obtain ⟨kq, x26_3, rfl, HA, HJ3, ⟨mc3, rfl⟩⟩ := hcut
    cases kq with
    | zero => exact absurd HA.out (by simp [thalwegref01_Get.j0])
    | succ kj3 =>
      have H := HA.out
      clear HA
      simp only [thalwegref01_Get.j0] at H
      by_cases c8 : x26_3 = true
      · subst c8
        have H1 : (some (0, 0, 1)) = some (r1, r2, r3) := by rw [if_pos rfl] at H; exact H
        clear H
        have H := H1
        clear H1
        simp only [Option.some.injEq, Prod.mk.injEq] at H
        obtain ⟨rfl, rfl, rfl⟩ := H
        go_wp2
        go_ret3
        exact ⟨by first | rfl | (simp; done) | (simp [*]; done), by repeat (first | exact Drawn0.refl _ | apply Drawn0.step)⟩
      · replace c8 := Bool.eq_false_iff.mpr c8
        subst c8
        have H1 : (if (wrap64 ((l0.length : Int) - a1)) < a2 then (some (0, 0, 6)) else (thalwegref01_Get.l0 kj3 l0 a1 a2 0 0)) = some (r1, r2, r3) := by rw [if_neg (show ¬ (false = true) by decide)] at H; exact H
        clear H
        have H := H1
        clear H1
        by_cases c9 : (wrap64 ((l0.length : Int) - a1)) < a2
        · rw [if_pos c9] at H
          have c9b0 : decide ((wrap64 ((l0.length : Int) - a1)) < a2) = true := decide_eq_true c9
          clear c9
          simp only [Option.some.injEq, Prod.mk.injEq] at H
          obtain ⟨rfl, rfl, rfl⟩ := H
          go_wp2
          go_ret3
          exact ⟨by first | rfl | (simp; done) | (simp [*]; done), by repeat (first | exact Drawn0.refl _ | apply Drawn0.step)⟩
        · rw [if_neg c9] at H
          have c9b0 : decide ((wrap64 ((l0.length : Int) - a1)) < a2) = false := decide_eq_false c9
          clear c9
          have H' := Aside0.mk H
          clear H
          go_wp2
          go_loopg [9, 10] kj3 (fun kq v9 v10 w' => ∃ (x9_2 : Int) (x10_2 : Int), v9 = .int .i64 x9_2 ∧ v10 = .int .i64 x10_2 ∧ Aside0 (thalwegref01_Get.l0 kq l0 a1 a2 x9_2 x10_2 = some (r1, r2, r3)) ∧ Aside0 (kq ≤ kj3) ∧ Drawn0 w w')
          case atStart => exact ⟨(0), (0), (by first | rfl | (simp; done) | (simp [*]; done)), (by first | rfl | (simp; done) | (simp [*]; done)), H', ⟨Nat.le_refl _⟩, by repeat (first | exact Drawn0.refl _ | apply Drawn0.step)⟩
          case round =>
            clear H'
            try clear c2
            try clear p2
            try clear c3
            try clear c5
            try clear c5b0
            try clear c6
            try clear c6b0
            try clear p6
            try clear c7
            try clear c7b0
            try clear c8
            try clear c9
            try clear c9b0
            try clear p2
            obtain ⟨x9_2, x10_2, rfl, rfl, HA, HK2, ⟨m2, rfl⟩⟩ := hrel
            cases gk with
            | zero => exact absurd HA.out (by simp [thalwegref01_Get.l0])
            | succ k2 =>
              have H := HA.out
              clear HA
              simp only [thalwegref01_Get.l0] at H
              by_cases c10 : x10_2 < a2
              · rw [if_pos c10] at H
                have c10b0 : decide (x10_2 < a2) = true := decide_eq_true c10
                clear c10
                obtain ⟨ji11, hji11⟩ : ∃ j_ : Int, (wrap64 (a1 + x10_2)) = j_ := ⟨_, rfl⟩
                replace H : (if 0 ≤ (ji11) then (if (ji11) < (l0.length : Int) then (thalwegref01_Get.l0 k2 l0 a1 a2 (wrap64 ((wrap64 (256 * x9_2)) + (wrap64 (rd l0 (ji11))))) (wrap64 (x10_2 + 1))) else (none)) else (none)) = some (r1, r2, r3) := by first | (rw [hji11] at H; exact H) | (simp only [hji11] at H ⊢; exact H)
                have hji11w : (IntKind.i64.wrap (a1 + x10_2)) = ji11 := (i64_w _).trans hji11
                by_cases c12 : 0 ≤ (ji11)
                rotate_left
                · rw [if_neg c12] at H
                  exact absurd H (by simp)
                rw [if_pos c12] at H
                have c12b0 : decide (0 ≤ (ji11)) = true := decide_eq_true c12
                clear c12
                by_cases c13 : (ji11) < (l0.length : Int)
                rotate_left
                · rw [if_neg c13] at H
                  exact absurd H (by simp)
                rw [if_pos c13] at H
                have c13b0 : decide ((ji11) < (l0.length : Int)) = true := decide_eq_true c13
                clear c13
                have H' := Aside0.mk H
                clear H
                have p117 : 0 ≤ ((ji11) : Int) := of_decide_eq_true (by first | (with_reducible assumption) | assumption)
                have q117 : (ji11) < (l0.length : Int) := of_decide_eq_true (by first | (with_reducible assumption) | assumption)
                obtain ⟨ad117, e117, hx117_0⟩ := Kd.at_int HR0.out (ji11) p117 q117
                cases e117
                replace p117 := eq_true p117
                replace q117 := eq_true q117
                go_wp2
                go_roundg k2
                case measure => have := HJ3.out; have := HK2.out; omega
                case rel => exact ⟨(wrap64 ((wrap64 (256 * x9_2)) + (wrap64 (rd l0 (ji11))))), (wrap64 (x10_2 + 1)), (by first | rfl | (simp; done) | (simp only [← hji11] <;> (first | rfl | simp)) | (simp [*]; done)), (by first | rfl | (simp; done) | (simp [*]; done)), H', ⟨by have := HJ3.out; have := HK2.out; omega⟩, by repeat (first | exact Drawn0.refl _ | apply Drawn0.step)⟩
              · rw [if_neg c10] at H
                have c10b0 : decide (x10_2 < a2) = false := decide_eq_false c10
                clear c10
                simp only [Option.some.injEq, Prod.mk.injEq] at H
                obtain ⟨rfl, rfl, rfl⟩ := H
                go_wp2
                go_ret3
                exact ⟨by first | rfl | (simp; done) | (simp [*]; done), by repeat (first | exact Drawn0.refl _ | apply Drawn0.step)⟩
end Go.Proofs.Ytaiklcpmlkpfjaa.P
namespace Go.Proofs.Ytaiklcpmlkpfjaa.P
open Go.RowKit Go.Proofs.YtaiklcpmlkpfjaaW.PrintWords Go.Proofs.YtaiklcpmlkpfjaaW.PrintLast Go.Proofs.YtaiklcpmlkpfjaaW.PrintMore
attribute [local go_sem] max2_int min2_int max_two min_two max_three min_three max_four min_four   -- for this text's walks alone
def thalwegref06_Parse.l0 : Nat → List Int → Int → Int → Int → Int → List (S59) → Option (Int × (List (S59)) × Int × Int)
  | 0, _, _, _, _, _, _ => none
  | k + 1, x0, x1, x9, x11, x126000, x126001 => if x11 < x9 then ((thalwegref01_Get.f k x0 x1 1).bind fun bt127 => (if bt127.2.2 = 0 then ((thalwegref01_Get.f k x0 bt127.2.1 4).bind fun bt130 => (if bt130.2.2 = 0 then (if x126001.length < 8796093022208 then (thalwegref06_Parse.l0 k x0 bt130.2.1 x9 (wrap64 (x11 + 1)) x126000 (x126001 ++ [(⟨bt127.1, bt130.1⟩ : S59)])) else (none)) else (some (0, ([] : List (S59)), 0, bt130.2.2)))) else (some (0, ([] : List (S59)), 0, bt127.2.2)))) else ((thalwegref06_Right.f k x126000 x126001).bind fun t126 => (if t126 = true then (some (x126000, x126001, x1, 0)) else (some (0, ([] : List (S59)), 0, 4))))
def thalwegref06_Parse.f (k : Nat) (l0 : List Int) (a1 : Int) : Option (Int × (List (S59)) × Int × Int) := (thalwegref01_Get.f k l0 a1 4).bind fun bt119 => (if bt119.2.2 = 0 then ((thalwegref01_Get.f k l0 bt119.2.1 1).bind fun bt122 => (if bt122.2.2 = 0 then (thalwegref06_Parse.l0 k l0 bt122.2.1 bt122.1 0 bt119.1 ([] : List (S59))) else (some (0, ([] : List (S59)), 0, bt122.2.2)))) else (some (0, ([] : List (S59)), 0, bt119.2.2)))
theorem thalwegref06_Parse.mono_l : ∀ k, (∀ y0 y1 y2 y3 y4 y5, LeO (thalwegref06_Parse.l0 k y0 y1 y2 y3 y4 y5) (thalwegref06_Parse.l0 (k + 1) y0 y1 y2 y3 y4 y5))
  | 0 => fun _ _ _ _ _ _ r h => by simp [thalwegref06_Parse.l0] at h
  | k + 1 => by
    have ih0 := thalwegref06_Parse.mono_l k
    · intro y0 y1 y2 y3 y4 y5
      unfold thalwegref06_Parse.l0
      repeat' first
      | (with_reducible exact ih0 _ _ _ _ _ _)
      | (with_reducible exact thalwegref01_Get.mono _ _ _ _)
      | (with_reducible exact thalwegref06_Right.mono _ _ _)
      | (with_reducible exact LeO.refl _)
      | (with_reducible exact LeO.none _)
      | (with_reducible refine LeO.ite ?_ ?_)
      | (with_reducible refine LeO.bind ?_ (fun _ => ?_))
      | exact ih0 _ _ _ _ _ _
      | exact thalwegref01_Get.mono _ _ _ _
      | exact thalwegref06_Right.mono _ _ _
      | exact LeO.none _
      | refine LeO.ite ?_ ?_
      | refine LeO.bind ?_ (fun _ => ?_)
theorem thalwegref06_Parse.mono : ∀ a0 a1 k, LeO (thalwegref06_Parse.f k a0 a1) (thalwegref06_Parse.f (k + 1) a0 a1) := by
  intro a0 a1 k
  have ih0 := thalwegref06_Parse.mono_l k
  unfold thalwegref06_Parse.f
  repeat' first
      | (with_reducible exact ih0 _ _ _ _ _ _)
      | (with_reducible exact thalwegref01_Get.mono _ _ _ _)
      | (with_reducible exact thalwegref06_Right.mono _ _ _)
      | (with_reducible exact LeO.refl _)
      | (with_reducible exact LeO.none _)
      | (with_reducible refine LeO.ite ?_ ?_)
      | (with_reducible refine LeO.bind ?_ (fun _ => ?_))
      | exact ih0 _ _ _ _ _ _
      | exact thalwegref01_Get.mono _ _ _ _
      | exact thalwegref06_Right.mono _ _ _
      | exact LeO.none _
      | refine LeO.ite ?_ ?_
      | refine LeO.bind ?_ (fun _ => ?_)
set_option maxHeartbeats 8000000 in
set_option maxRecDepth 100000 in
theorem thalwegref06_Parse.calls (k : Nat) (A0 : Option Addr) (c0 : Nat) (l0 : List Int) (a1 : Int) (r1 : Int) (r2 : List (S59)) (r3 : Int) (r4 : Int) (w : World) (hr0 : Kd.C (Kd.int .u8) w A0 l0.length l0) (hc0 : l0.length ≤ c0) (h : thalwegref06_Parse.f k l0 a1 = some (r1, r2, r3, r4)) :
    Calls Try.prog 9 #[.slice A0 l0.length c0, .int .i64 a1] w fun e w' => ∃ v1_ : Value, e = .returned (.tuple #[.agg #[.int .i64 r1, v1_], .int .i64 r3, .int .i64 r4]) ∧ Kd.R k59 59 w' w.heap.size (fun _ => True) v1_ r2 ∧ Below w.heap.size w w' := by
  have hu25 := Try.underlying25
  have hu59 := Try.underlying59
  have HR0 := Aside0.mk hr0
  have HC0 := Aside0.mk hc0
  clear hr0 hc0
  have HB := Aside0.mk (Below.refl w.heap.size w)
  have H : ((thalwegref01_Get.f k l0 a1 4).bind fun bt119 => (if bt119.2.2 = 0 then ((thalwegref01_Get.f k l0 bt119.2.1 1).bind fun bt122 => (if bt122.2.2 = 0 then (thalwegref06_Parse.l0 k l0 bt122.2.1 bt122.1 0 bt119.1 ([] : List (S59))) else (some (0, ([] : List (S59)), 0, bt122.2.2)))) else (some (0, ([] : List (S59)), 0, bt119.2.2)))) = some (r1, r2, r3, r4) := h
  clear h
  replace H := Option.bind_eq_some_iff.mp H
  obtain ⟨⟨t119, t120, t121⟩, A30, H⟩ := H
  replace H : (if t121 = 0 then ((thalwegref01_Get.f k l0 t120 1).bind fun bt122 => (if bt122.2.2 = 0 then (thalwegref06_Parse.l0 k l0 bt122.2.1 bt122.1 0 t119 ([] : List (S59))) else (some (0, ([] : List (S59)), 0, bt122.2.2)))) else (some (0, ([] : List (S59)), 0, t121))) = some (r1, r2, r3, r4) := H
  have A3 := Aside0.mk A30
  clear A30
  by_cases c4 : t121 = 0
  · rw [if_pos c4] at H
    have c4b0 : (t121 == 0) = true := beq_iff_eq.mpr c4
    have c4b1 : (t121 != 0) = false := bne_eq_false_iff_eq.mpr c4
    clear c4
    replace H := Option.bind_eq_some_iff.mp H
    obtain ⟨⟨t122, t123, t124⟩, A50, H⟩ := H
    replace H : (if t124 = 0 then (thalwegref06_Parse.l0 k l0 t123 t122 0 t119 ([] : List (S59))) else (some (0, ([] : List (S59)), 0, t124))) = some (r1, r2, r3, r4) := H
    have A5 := Aside0.mk A50
    clear A50
    by_cases c6 : t124 = 0
    · rw [if_pos c6] at H
      have c6b0 : (t124 == 0) = true := beq_iff_eq.mpr c6
      have c6b1 : (t124 != 0) = false := bne_eq_false_iff_eq.mpr c6
      clear c6
      have H' := Aside0.mk H
      clear H
      go_enter Try.func9, Try.ntmps9
      go_wp2_with (first | ((with_reducible refine gate_dst (N := 4) rfl ?_); refine box_event ?hg (N := 4) ?hd (cs := #[.int .i64 0, .slice none 0 0]) (t := 25) ?hr ?_; (case hd => rfl); (case hg => rfl); (case hr => first | (go_simp; done) | (go_simp; rfl)); intro gb118 hg w7 hbox hb; have n0_ := Aside0.mk (below_step (by repeat (first | (with_reducible first | exact HB.out | apply below_alloc | apply pw_below_drewN | apply below_drew1) | exact HB.out)) hb); have n1_ := Aside0.mk (hbox); have n2_ := Aside0.mk ((by rw [hg]; exact (below_size (by repeat (first | (with_reducible first | exact HB.out | apply below_alloc | apply pw_below_drewN | apply below_drew1) | exact HB.out))) : w.heap.size ≤ gb118)); have n3_ := Aside0.mk ((by rw [hg]; exact (below_size (by repeat (first | (with_reducible first | exact HB.out | apply below_alloc | apply pw_below_drewN | apply below_drew1) | exact HB.out))) : w.heap.size ≤ gb118)); clear HB; have HB := n0_; have BK118 := n1_; have GW118 := n2_; have GE118 := n3_; clear n0_ n1_ n2_ n3_; clear hb hbox hg) | ((with_reducible refine gate_callee (f := 26) rfl ?_); refine goesL_ (some 19) rfl rfl Try.func26 (by kernel_rfl) rfl #[.slice A0 l0.length c0, .int .i64 a1, .int .i64 4] rfl (by (try simp only [List.map_toArray, List.map_cons, List.map_nil]); first | done | rfl | (simp only [List.length_drop, List.length_take]; rfl)) ?_; (with_reducible refine (thalwegref01_Get.calls k _ _ l0 a1 4 t119 t120 t121 _ ?side1 ?side2 A3.out).mono ?_); (case side1 => repeat (first | exact (Kd.C_below HR0.out HB.out) | (with_reducible refine Kd.C_alloc ?_ _) | (with_reducible refine Kd.C_drewN ?_ _) | (with_reducible refine Kd.C_drew ?_))); (case side2 => exact HC0.out); rintro e w' ⟨rfl, ⟨nd, rfl⟩⟩; refine ⟨_, rfl, ?_⟩; (try (rw [drewN_self w7]; generalize hq_ : World.drewN w7 _ = w7; have n0_ : Aside0 (w7.heap[gb118]? = some (.cells #[.int .i64 0, .slice none 0 0] 25 (0, 0))) := ⟨by rw [← hq_]; exact (by (with_reducible repeat (first | refine blk_drewN ?_ _ | refine blk_drew ?_ | refine blk_alloc ?_ _)); exact BK118.out)⟩; have n1_ : Aside0 (Below w.heap.size w w7) := ⟨by rw [← hq_]; exact (by repeat (first | (with_reducible first | exact HB.out | apply below_alloc | apply pw_below_drewN | apply below_drew1 | refine below_set ?_ GE118.out) | exact HB.out))⟩; clear BK118 HB hq_; have BK118 := n0_; have HB := n1_; clear n0_ n1_))) | ((with_reducible refine gate_callee (f := 26) rfl ?_); refine goesL_ (some 30) rfl rfl Try.func26 (by kernel_rfl) rfl #[.slice A0 l0.length c0, .int .i64 t120, .int .i64 1] rfl (by (try simp only [List.map_toArray, List.map_cons, List.map_nil]); first | done | rfl | (simp only [List.length_drop, List.length_take]; rfl)) ?_; (with_reducible refine (thalwegref01_Get.calls k _ _ l0 t120 1 t122 t123 t124 _ ?side1 ?side2 A5.out).mono ?_); (case side1 => repeat (first | exact (Kd.C_below HR0.out HB.out) | (with_reducible refine Kd.C_alloc ?_ _) | (with_reducible refine Kd.C_drewN ?_ _) | (with_reducible refine Kd.C_drew ?_))); (case side2 => exact HC0.out); rintro e w' ⟨rfl, ⟨nd, rfl⟩⟩; refine ⟨_, rfl, ?_⟩; (try (rw [drewN_self w7]; generalize hq_ : World.drewN w7 _ = w7; have n0_ : Aside0 (w7.heap[gb118]? = some (.cells #[.int .i64 0, .slice none 0 0] 25 (0, 0))) := ⟨by rw [← hq_]; exact (by (with_reducible repeat (first | refine blk_drewN ?_ _ | refine blk_drew ?_ | refine blk_alloc ?_ _)); exact BK118.out)⟩; have n1_ : Aside0 (Below w.heap.size w w7) := ⟨by rw [← hq_]; exact (by repeat (first | (with_reducible first | exact HB.out | apply below_alloc | apply pw_below_drewN | apply below_drew1 | refine below_set ?_ GE118.out) | exact HB.out))⟩; clear BK118 HB hq_; have BK118 := n0_; have HB := n1_; clear n0_ n1_))) | ((with_reducible refine gate_dst (N := 10) rfl ?_); refine box_event ?hg (N := 10) ?hd (cs := #[.int .i64 0, .slice none 0 0]) (t := 25) ?hr ?_; (case hd => rfl); (case hg => rfl); (case hr => first | (go_simp; done) | (go_simp; rfl)); intro gb125 hg w8 hbox hb; have n0_ := Aside0.mk (blk_below (g := gb118) (o := .cells #[.int .i64 0, .slice none 0 0] 25 (0, 0)) (by (with_reducible repeat (first | refine blk_drewN ?_ _ | refine blk_drew ?_ | refine blk_alloc ?_ _)); exact BK118.out) hb); have n1_ := Aside0.mk (below_step (by repeat (first | (with_reducible first | exact HB.out | apply below_alloc | apply pw_below_drewN | apply below_drew1 | refine below_set ?_ GE118.out) | exact HB.out)) hb); have n2_ := Aside0.mk (hbox); have n3_ := Aside0.mk ((by rw [hg]; exact (below_size (by repeat (first | (with_reducible first | exact HB.out | apply below_alloc | apply pw_below_drewN | apply below_drew1 | refine below_set ?_ GE118.out) | exact HB.out))) : w.heap.size ≤ gb125)); have n4_ := Aside0.mk ((by rw [hg]; exact (below_size (by repeat (first | (with_reducible first | exact HB.out | apply below_alloc | apply pw_below_drewN | apply below_drew1 | refine below_set ?_ GE118.out) | exact HB.out))) : w.heap.size ≤ gb125)); have n5_ := Aside0.mk ((by rw [hg]; exact Nat.ne_of_lt (blk_lt (g := gb118) (o := .cells #[.int .i64 0, .slice none 0 0] 25 (0, 0)) (by (with_reducible repeat (first | refine blk_drewN ?_ _ | refine blk_drew ?_ | refine blk_alloc ?_ _)); exact BK118.out)) : gb118 ≠ gb125)); have n6_ := Aside0.mk ((by rw [hg]; exact Nat.ne_of_gt (blk_lt (g := gb118) (o := .cells #[.int .i64 0, .slice none 0 0] 25 (0, 0)) (by (with_reducible repeat (first | refine blk_drewN ?_ _ | refine blk_drew ?_ | refine blk_alloc ?_ _)); exact BK118.out)) : gb125 ≠ gb118)); clear BK118; clear HB; have BK118 := n0_; have HB := n1_; have BK125 := n2_; have GW125 := n3_; have GE125 := n4_; have NB118_125 := n5_; have NB125_118 := n6_; clear n0_ n1_ n2_ n3_ n4_ n5_ n6_; clear hb hbox hg; have hnb9 := NB125_118.out; have hnc9 := NB118_125.out; have hcz10_0 : w8.cell? ⟨gb125, 0, none⟩ = some (.int .i64 0) := (blk_cell BK125.out 0).trans rfl; have hcz10_1 : w8.cell? ⟨gb125, 1, none⟩ = some (.slice none 0 0) := (blk_cell BK125.out 1).trans rfl; have hfz10_0 := blk_frozen BK125.out 0; have hfz10_1 := blk_frozen BK125.out 1))
      go_loopg [1, 11] k (fun kq v1 v11 w' => ∃ (x1_1 : Int) (x11_1 : Int) (x119000_1 : Int) (x126001_1 : List (S59)) (u126001 : Value), v1 = .int .i64 x1_1 ∧ v11 = .int .i64 x11_1 ∧ Aside0 (thalwegref06_Parse.l0 kq l0 x1_1 t122 x11_1 t119 x126001_1 = some (r1, r2, r3, r4)) ∧ Aside0 (kq ≤ k) ∧ Aside0 (Kd.R k59 59 w' w.heap.size (fun _ => True) u126001 x126001_1) ∧ Aside0 (w'.heap[gb118]? = some (.cells #[.int .i64 x119000_1, (.slice none 0 0)] 25 (0, 0))) ∧ Aside0 (w'.heap[gb125]? = some (.cells #[.int .i64 t119, u126001] 25 (0, 0))) ∧ Aside0 (Below w.heap.size w w'))
      case atStart => exact ⟨(t123), (0), (0), (([] : List (S59))), (.slice none 0 0), (by first | rfl | (simp; done) | (simp [*]; done)), (by first | rfl | (simp; done) | (simp [*]; done)), H', ⟨Nat.le_refl _⟩, ⟨by first | exact Kd.R_nil _ _ _ _ _ | exact Kd.N_nil _ _ _ _ _ | exact Kd.V_nil _ _ _ _ _ | exact Kd.Q_nil _ _ _ _ _ | exact Kd.S_nil _ _ _ _ _⟩, ⟨by (with_reducible repeat (first | refine blk_drewN ?_ _ | refine blk_drew ?_ | refine blk_alloc ?_ _)); refine blk_far ?_ NB118_125.out _; (with_reducible repeat (first | refine blk_drewN ?_ _ | refine blk_drew ?_ | refine blk_alloc ?_ _)); refine blk_far ?_ NB118_125.out _; (with_reducible repeat (first | refine blk_drewN ?_ _ | refine blk_drew ?_ | refine blk_alloc ?_ _)); exact BK118.out⟩, ⟨by (with_reducible repeat (first | refine blk_drewN ?_ _ | refine blk_drew ?_ | refine blk_alloc ?_ _)); refine blk_put (cs := #[.int .i64 t119, .slice none 0 0]) ?_ 1 _ rfl; (with_reducible repeat (first | refine blk_drewN ?_ _ | refine blk_drew ?_ | refine blk_alloc ?_ _)); refine blk_put (cs := #[.int .i64 0, .slice none 0 0]) ?_ 0 _ rfl; (with_reducible repeat (first | refine blk_drewN ?_ _ | refine blk_drew ?_ | refine blk_alloc ?_ _)); exact BK125.out⟩, ⟨by repeat (first | (with_reducible first | exact HB.out | apply below_alloc | apply pw_below_drewN | apply below_drew1 | refine below_set ?_ GE118.out | refine below_set ?_ GE125.out) | exact HB.out)⟩⟩
      case round =>
        clear H'
        try clear c2
        try clear p2
        try clear c4
        try clear c4b0
        try clear c4b1
        try clear c6
        try clear c6b0
        try clear c6b1
        try clear c9
        try clear hcz10_0
        try clear hcz10_1
        try clear hfz10_0
        try clear hfz10_1
        obtain ⟨x1_1, x11_1, x119000_1, x126001_1, u126001, rfl, rfl, HA, HK1, HO_126001, BK118, BK125, HB⟩ := hrel
        cases gk with
        | zero => exact absurd HA.out (by simp [thalwegref06_Parse.l0])
        | succ k1 =>
          have H := HA.out
          clear HA
          simp only [thalwegref06_Parse.l0] at H
          by_cases c11 : x11_1 < t122
          · rw [if_pos c11] at H
            have c11b0 : decide (x11_1 < t122) = true := decide_eq_true c11
            clear c11
            replace H := Option.bind_eq_some_iff.mp H
            obtain ⟨⟨t127, t128, t129⟩, A120, H⟩ := H
            replace H : (if t129 = 0 then ((thalwegref01_Get.f k1 l0 t128 4).bind fun bt130 => (if bt130.2.2 = 0 then (if x126001_1.length < 8796093022208 then (thalwegref06_Parse.l0 k1 l0 bt130.2.1 t122 (wrap64 (x11_1 + 1)) t119 (x126001_1 ++ [(⟨t127, bt130.1⟩ : S59)])) else (none)) else (some (0, ([] : List (S59)), 0, bt130.2.2)))) else (some (0, ([] : List (S59)), 0, t129))) = some (r1, r2, r3, r4) := H
            have A12 := Aside0.mk A120
            clear A120
            by_cases c13 : t129 = 0
            · rw [if_pos c13] at H
              have c13b0 : (t129 == 0) = true := beq_iff_eq.mpr c13
              have c13b1 : (t129 != 0) = false := bne_eq_false_iff_eq.mpr c13
              clear c13
              replace H := Option.bind_eq_some_iff.mp H
              obtain ⟨⟨t130, t131, t132⟩, A140, H⟩ := H
              replace H : (if t132 = 0 then (if x126001_1.length < 8796093022208 then (thalwegref06_Parse.l0 k1 l0 t131 t122 (wrap64 (x11_1 + 1)) t119 (x126001_1 ++ [(⟨t127, t130⟩ : S59)])) else (none)) else (some (0, ([] : List (S59)), 0, t132))) = some (r1, r2, r3, r4) := H
              have A14 := Aside0.mk A140
              clear A140
              by_cases c15 : t132 = 0
              · rw [if_pos c15] at H
                have c15b0 : (t132 == 0) = true := beq_iff_eq.mpr c15
                have c15b1 : (t132 != 0) = false := bne_eq_false_iff_eq.mpr c15
                clear c15
                by_cases c16 : x126001_1.length < 8796093022208
                rotate_left
                · rw [if_neg c16] at H
                  exact absurd H (by simp)
                rw [if_pos c16] at H
                have LMc16 := Aside0.mk c16
                clear c16
                obtain ⟨y133, hy133⟩ : ∃ y_ : List (S59), y_ = (x126001_1 ++ [(⟨t127, t130⟩ : S59)]) := ⟨_, rfl⟩
                replace H : (thalwegref06_Parse.l0 k1 l0 t131 t122 (wrap64 (x11_1 + 1)) t119 y133) = some (r1, r2, r3, r4) := by first | (rw [hy133]; with_reducible exact H) | (have H2_ := (Option.bind_some _ _).symm.trans H; rw [hy133]; with_reducible exact H2_) | (have H2_ := (Option.bind_some _ _).symm.trans H; with_reducible exact H2_) | with_reducible exact H | (rw [hy133]; exact H) | exact H
                have Ny133 := Aside0.mk hy133
                clear hy133
                have H' := Aside0.mk H
                clear H
                go_wp2_with (first | ((with_reducible refine gate_callee (f := 26) rfl ?_); refine goesL_ (some 48) rfl rfl Try.func26 (by kernel_rfl) rfl #[.slice A0 l0.length c0, .int .i64 x1_1, .int .i64 1] rfl (by (try simp only [List.map_toArray, List.map_cons, List.map_nil]); first | done | rfl | (simp only [List.length_drop, List.length_take]; rfl)) ?_; (with_reducible refine (thalwegref01_Get.calls k1 _ _ l0 x1_1 1 t127 t128 t129 _ ?side1 ?side2 A12.out).mono ?_); (case side1 => repeat (first | exact (Kd.C_below HR0.out HB.out) | (with_reducible refine Kd.C_alloc ?_ _) | (with_reducible refine Kd.C_drewN ?_ _) | (with_reducible refine Kd.C_drew ?_))); (case side2 => exact HC0.out); rintro e w' ⟨rfl, ⟨nd, rfl⟩⟩; refine ⟨_, rfl, ?_⟩; (try (rw [drewN_self wr]; generalize hq_ : World.drewN wr _ = wr; have n0_ : Aside0 (Kd.R k59 59 wr w.heap.size (fun _ => True) u126001 x126001_1) := ⟨by rw [← hq_]; exact (by (with_reducible repeat (first | apply Kd.R_alloc | apply Kd.R_drewN | apply Kd.R_drew)); exact HO_126001.out)⟩; have n1_ : Aside0 (wr.heap[gb118]? = some (.cells #[.int .i64 x119000_1, .slice none 0 0] 25 (0, 0))) := ⟨by rw [← hq_]; exact (by (with_reducible repeat (first | refine blk_drewN ?_ _ | refine blk_drew ?_ | refine blk_alloc ?_ _)); exact BK118.out)⟩; have n2_ : Aside0 (wr.heap[gb125]? = some (.cells #[.int .i64 t119, u126001] 25 (0, 0))) := ⟨by rw [← hq_]; exact (by (with_reducible repeat (first | refine blk_drewN ?_ _ | refine blk_drew ?_ | refine blk_alloc ?_ _)); exact BK125.out)⟩; have n3_ : Aside0 (Below w.heap.size w wr) := ⟨by rw [← hq_]; exact (by repeat (first | (with_reducible first | exact HB.out | apply below_alloc | apply pw_below_drewN | apply below_drew1 | refine below_set ?_ GE118.out | refine below_set ?_ GE125.out) | exact HB.out))⟩; clear HO_126001 BK118 BK125 HB hq_; have HO_126001 := n0_; have BK118 := n1_; have BK125 := n2_; have HB := n3_; clear n0_ n1_ n2_ n3_))) | ((with_reducible refine gate_callee (f := 26) rfl ?_); refine goesL_ (some 59) rfl rfl Try.func26 (by kernel_rfl) rfl #[.slice A0 l0.length c0, .int .i64 t128, .int .i64 4] rfl (by (try simp only [List.map_toArray, List.map_cons, List.map_nil]); first | done | rfl | (simp only [List.length_drop, List.length_take]; rfl)) ?_; (with_reducible refine (thalwegref01_Get.calls k1 _ _ l0 t128 4 t130 t131 t132 _ ?side1 ?side2 A14.out).mono ?_); (case side1 => repeat (first | exact (Kd.C_below HR0.out HB.out) | (with_reducible refine Kd.C_alloc ?_ _) | (with_reducible refine Kd.C_drewN ?_ _) | (with_reducible refine Kd.C_drew ?_))); (case side2 => exact HC0.out); rintro e w' ⟨rfl, ⟨nd, rfl⟩⟩; refine ⟨_, rfl, ?_⟩; (try (rw [drewN_self wr]; generalize hq_ : World.drewN wr _ = wr; have n0_ : Aside0 (Kd.R k59 59 wr w.heap.size (fun _ => True) u126001 x126001_1) := ⟨by rw [← hq_]; exact (by (with_reducible repeat (first | apply Kd.R_alloc | apply Kd.R_drewN | apply Kd.R_drew)); exact HO_126001.out)⟩; have n1_ : Aside0 (wr.heap[gb118]? = some (.cells #[.int .i64 x119000_1, .slice none 0 0] 25 (0, 0))) := ⟨by rw [← hq_]; exact (by (with_reducible repeat (first | refine blk_drewN ?_ _ | refine blk_drew ?_ | refine blk_alloc ?_ _)); exact BK118.out)⟩; have n2_ : Aside0 (wr.heap[gb125]? = some (.cells #[.int .i64 t119, u126001] 25 (0, 0))) := ⟨by rw [← hq_]; exact (by (with_reducible repeat (first | refine blk_drewN ?_ _ | refine blk_drew ?_ | refine blk_alloc ?_ _)); exact BK125.out)⟩; have n3_ : Aside0 (Below w.heap.size w wr) := ⟨by rw [← hq_]; exact (by repeat (first | (with_reducible first | exact HB.out | apply below_alloc | apply pw_below_drewN | apply below_drew1 | refine below_set ?_ GE118.out | refine below_set ?_ GE125.out) | exact HB.out))⟩; clear HO_126001 BK118 BK125 HB hq_; have HO_126001 := n0_; have BK118 := n1_; have BK125 := n2_; have HB := n3_; clear n0_ n1_ n2_ n3_)); have hnb17 := NB125_118.out; have hnc17 := NB118_125.out; have hcz18_0 : wr.cell? ⟨gb125, 0, none⟩ = some (.int .i64 t119) := (blk_cell BK125.out 0).trans rfl; have hcz18_1 : wr.cell? ⟨gb125, 1, none⟩ = some (u126001) := (blk_cell BK125.out 1).trans rfl; have hfz18_0 := blk_frozen BK125.out 0; have hfz18_1 := blk_frozen BK125.out 1) | ((with_reducible refine gate_builtin (b := .append) (xs := #[.tmp 68, .tmp 72]) rfl ?_); at_builtin; refine Kd.R_append k59 (w0 := w) w.heap.size rfl (.tmp 68) (.tmp 72) 23 59 (.agg #[(.int .i64 0), (.int .i64 0)]) 16 rfl Try.underlying23 info59 rfl (by decide) (by omega) u126001 x126001_1 (⟨t127, t130⟩ : S59) [.int .i64 t127, .int .i64 t130] (fun _ => True) (fun _ => False) rfl rfl ?aP (fun _ hk => hk.elim) ?aF ?aO ?aB ?aS ?aL ?_; (case aP => exact k59_mkM _ _ _ (⟨t127, t130⟩ : S59)); (case aB => exact (by repeat (first | (with_reducible first | exact HB.out | apply below_alloc | apply pw_below_drewN | apply below_drew1 | refine below_set ?_ GE118.out | refine below_set ?_ GE125.out) | exact HB.out))); (case aF => exact (fun _ _ => trivial)); (case aO => exact (by (with_reducible repeat (first | apply Kd.R_alloc | apply Kd.R_drewN | apply Kd.R_drew)); exact HO_126001.out)); (case aS => exact (below_size (by repeat (first | (with_reducible first | exact HB.out | apply below_alloc | apply pw_below_drewN | apply below_drew1 | refine below_set ?_ GE118.out | refine below_set ?_ GE125.out) | exact HB.out)))); (case aL => have := LMc16.out; omega); intro v134 w19 ho hb hg hat; rw [← Ny133.out] at ho; have n0_ := Aside0.mk (blk_grown (g := gb118) (o := .cells #[.int .i64 x119000_1, .slice none 0 0] 25 (0, 0)) (by (with_reducible repeat (first | refine blk_drewN ?_ _ | refine blk_drew ?_ | refine blk_alloc ?_ _)); exact BK118.out) hg (Kd.R_ne HO_126001.out BK118.out (by decide))); have n1_ := Aside0.mk (blk_grown (g := gb125) (o := .cells #[.int .i64 t119, u126001] 25 (0, 0)) (by (with_reducible repeat (first | refine blk_drewN ?_ _ | refine blk_drew ?_ | refine blk_alloc ?_ _)); exact BK125.out) hg (Kd.R_ne HO_126001.out BK125.out (by decide))); have n2_ := Aside0.mk (hb); have n3_ := Aside0.mk (ho); clear BK118; clear BK125; clear HB; clear HO_126001; have BK118 := n0_; have BK125 := n1_; have HB := n2_; have HO135 := n3_; clear n0_ n1_ n2_ n3_; clear ho hb hg hat; obtain ⟨Ao20, co20, eo20⟩ := Kd.R_slice HO135.out; subst eo20; have hcz21_0 : w19.cell? ⟨gb125, 0, none⟩ = some (.int .i64 t119) := (blk_cell BK125.out 0).trans rfl; have hcz21_1 : w19.cell? ⟨gb125, 1, none⟩ = some (u126001) := (blk_cell BK125.out 1).trans rfl; have hfz21_0 := blk_frozen BK125.out 0; have hfz21_1 := blk_frozen BK125.out 1))
                go_roundg k1
                case measure => have := HK1.out; omega
                case rel => exact ⟨(t131), (wrap64 (x11_1 + 1)), (x119000_1), (y133), (.slice Ao20 y133.length co20), (by first | rfl | (simp; done) | (simp [*]; done)), (by first | rfl | (simp; done) | (simp [*]; done)), H', ⟨by have := HK1.out; omega⟩, ⟨by (with_reducible repeat (first | apply Kd.R_alloc | apply Kd.R_drewN | apply Kd.R_drew)); exact Kd.R_mono (Kd.R_far (p := ⟨gb125, 1, none⟩) (Kd.R_types HO135.out BK125.out (by decide)) (fun _ hk => hk.2) (.slice Ao20 y133.length co20)) (fun _ hk => trivial)⟩, ⟨by (with_reducible repeat (first | refine blk_drewN ?_ _ | refine blk_drew ?_ | refine blk_alloc ?_ _)); refine blk_far ?_ NB118_125.out _; (with_reducible repeat (first | refine blk_drewN ?_ _ | refine blk_drew ?_ | refine blk_alloc ?_ _)); exact BK118.out⟩, ⟨by (with_reducible repeat (first | refine blk_drewN ?_ _ | refine blk_drew ?_ | refine blk_alloc ?_ _)); refine blk_put (cs := #[.int .i64 t119, u126001]) ?_ 1 _ rfl; (with_reducible repeat (first | refine blk_drewN ?_ _ | refine blk_drew ?_ | refine blk_alloc ?_ _)); exact BK125.out⟩, ⟨by repeat (first | (with_reducible first | exact HB.out | apply below_alloc | apply pw_below_drewN | apply below_drew1 | refine below_set ?_ GE118.out | refine below_set ?_ GE125.out) | exact HB.out)⟩⟩
              · rw [if_neg c15] at H
                have c15b0 : (t132 == 0) = false := beq_eq_false_iff_ne.mpr c15
                have c15b1 : (t132 != 0) = true := bne_iff_ne.mpr c15
                simp only [Option.some.injEq, Prod.mk.injEq] at H
                obtain ⟨rfl, rfl, rfl, rfl⟩ := H
                go_wp2_with (first | ((with_reducible refine gate_callee (f := 26) rfl ?_); refine goesL_ (some 48) rfl rfl Try.func26 (by kernel_rfl) rfl #[.slice A0 l0.length c0, .int .i64 x1_1, .int .i64 1] rfl (by (try simp only [List.map_toArray, List.map_cons, List.map_nil]); first | done | rfl | (simp only [List.length_drop, List.length_take]; rfl)) ?_; (with_reducible refine (thalwegref01_Get.calls k1 _ _ l0 x1_1 1 t127 t128 t129 _ ?side1 ?side2 A12.out).mono ?_); (case side1 => repeat (first | exact (Kd.C_below HR0.out HB.out) | (with_reducible refine Kd.C_alloc ?_ _) | (with_reducible refine Kd.C_drewN ?_ _) | (with_reducible refine Kd.C_drew ?_))); (case side2 => exact HC0.out); rintro e w' ⟨rfl, ⟨nd, rfl⟩⟩; refine ⟨_, rfl, ?_⟩; (try (rw [drewN_self wr]; generalize hq_ : World.drewN wr _ = wr; have n0_ : Aside0 (Kd.R k59 59 wr w.heap.size (fun _ => True) u126001 x126001_1) := ⟨by rw [← hq_]; exact (by (with_reducible repeat (first | apply Kd.R_alloc | apply Kd.R_drewN | apply Kd.R_drew)); exact HO_126001.out)⟩; have n1_ : Aside0 (wr.heap[gb118]? = some (.cells #[.int .i64 x119000_1, .slice none 0 0] 25 (0, 0))) := ⟨by rw [← hq_]; exact (by (with_reducible repeat (first | refine blk_drewN ?_ _ | refine blk_drew ?_ | refine blk_alloc ?_ _)); exact BK118.out)⟩; have n2_ : Aside0 (wr.heap[gb125]? = some (.cells #[.int .i64 t119, u126001] 25 (0, 0))) := ⟨by rw [← hq_]; exact (by (with_reducible repeat (first | refine blk_drewN ?_ _ | refine blk_drew ?_ | refine blk_alloc ?_ _)); exact BK125.out)⟩; have n3_ : Aside0 (Below w.heap.size w wr) := ⟨by rw [← hq_]; exact (by repeat (first | (with_reducible first | exact HB.out | apply below_alloc | apply pw_below_drewN | apply below_drew1 | refine below_set ?_ GE118.out | refine below_set ?_ GE125.out) | exact HB.out))⟩; clear HO_126001 BK118 BK125 HB hq_; have HO_126001 := n0_; have BK118 := n1_; have BK125 := n2_; have HB := n3_; clear n0_ n1_ n2_ n3_))) | ((with_reducible refine gate_callee (f := 26) rfl ?_); refine goesL_ (some 59) rfl rfl Try.func26 (by kernel_rfl) rfl #[.slice A0 l0.length c0, .int .i64 t128, .int .i64 4] rfl (by (try simp only [List.map_toArray, List.map_cons, List.map_nil]); first | done | rfl | (simp only [List.length_drop, List.length_take]; rfl)) ?_; (with_reducible refine (thalwegref01_Get.calls k1 _ _ l0 t128 4 t130 t131 t132 _ ?side1 ?side2 A14.out).mono ?_); (case side1 => repeat (first | exact (Kd.C_below HR0.out HB.out) | (with_reducible refine Kd.C_alloc ?_ _) | (with_reducible refine Kd.C_drewN ?_ _) | (with_reducible refine Kd.C_drew ?_))); (case side2 => exact HC0.out); rintro e w' ⟨rfl, ⟨nd, rfl⟩⟩; refine ⟨_, rfl, ?_⟩; (try (rw [drewN_self wr]; generalize hq_ : World.drewN wr _ = wr; have n0_ : Aside0 (Kd.R k59 59 wr w.heap.size (fun _ => True) u126001 x126001_1) := ⟨by rw [← hq_]; exact (by (with_reducible repeat (first | apply Kd.R_alloc | apply Kd.R_drewN | apply Kd.R_drew)); exact HO_126001.out)⟩; have n1_ : Aside0 (wr.heap[gb118]? = some (.cells #[.int .i64 x119000_1, .slice none 0 0] 25 (0, 0))) := ⟨by rw [← hq_]; exact (by (with_reducible repeat (first | refine blk_drewN ?_ _ | refine blk_drew ?_ | refine blk_alloc ?_ _)); exact BK118.out)⟩; have n2_ : Aside0 (wr.heap[gb125]? = some (.cells #[.int .i64 t119, u126001] 25 (0, 0))) := ⟨by rw [← hq_]; exact (by (with_reducible repeat (first | refine blk_drewN ?_ _ | refine blk_drew ?_ | refine blk_alloc ?_ _)); exact BK125.out)⟩; have n3_ : Aside0 (Below w.heap.size w wr) := ⟨by rw [← hq_]; exact (by repeat (first | (with_reducible first | exact HB.out | apply below_alloc | apply pw_below_drewN | apply below_drew1 | refine below_set ?_ GE118.out | refine below_set ?_ GE125.out) | exact HB.out))⟩; clear HO_126001 BK118 BK125 HB hq_; have HO_126001 := n0_; have BK118 := n1_; have BK125 := n2_; have HB := n3_; clear n0_ n1_ n2_ n3_)); have hnb22 := NB118_125.out; have hnc22 := NB125_118.out; have hcz23_0 : wr.cell? ⟨gb118, 0, none⟩ = some (.int .i64 x119000_1) := (blk_cell BK118.out 0).trans rfl; have hcz23_1 : wr.cell? ⟨gb118, 1, none⟩ = some (.slice none 0 0) := (blk_cell BK118.out 1).trans rfl; have hfz23_0 := blk_frozen BK118.out 0; have hfz23_1 := blk_frozen BK118.out 1))
                refine bodyPost_ret (results_ctt rfl _ _ gb118 25 #[.int .i64 0, .slice none 0 0] (0, 0) _ rfl (by (with_reducible repeat (first | refine blk_drewN ?_ _ | refine blk_drew ?_ | refine blk_alloc ?_ _)); refine blk_put (cs := #[.int .i64 0, .slice none 0 0]) ?_ 1 _ rfl; (with_reducible repeat (first | refine blk_drewN ?_ _ | refine blk_drew ?_ | refine blk_alloc ?_ _)); refine blk_put (cs := #[.int .i64 x119000_1, .slice none 0 0]) ?_ 0 _ rfl; (with_reducible repeat (first | refine blk_drewN ?_ _ | refine blk_drew ?_ | refine blk_alloc ?_ _)); exact BK118.out) Try.underlying25 rfl (by kernel_rfl)) rfl ?_
                exact ⟨_, by first | rfl | (simp [errW_none, errW_some] <;> rfl) | (simp [*, errW_none, errW_some] <;> rfl), by first | exact Kd.R_nil _ _ _ _ _ | exact Kd.N_nil _ _ _ _ _ | exact Kd.V_nil _ _ _ _ _ | exact Kd.Q_nil _ _ _ _ _ | exact Kd.S_nil _ _ _ _ _, by repeat (first | (with_reducible first | exact HB.out | apply below_alloc | apply pw_below_drewN | apply below_drew1 | refine below_set ?_ GE118.out | refine below_set ?_ GE125.out) | exact HB.out)⟩
            · rw [if_neg c13] at H
              have c13b0 : (t129 == 0) = false := beq_eq_false_iff_ne.mpr c13
              have c13b1 : (t129 != 0) = true := bne_iff_ne.mpr c13
              simp only [Option.some.injEq, Prod.mk.injEq] at H
              obtain ⟨rfl, rfl, rfl, rfl⟩ := H
              go_wp2_with (first | ((with_reducible refine gate_callee (f := 26) rfl ?_); refine goesL_ (some 48) rfl rfl Try.func26 (by kernel_rfl) rfl #[.slice A0 l0.length c0, .int .i64 x1_1, .int .i64 1] rfl (by (try simp only [List.map_toArray, List.map_cons, List.map_nil]); first | done | rfl | (simp only [List.length_drop, List.length_take]; rfl)) ?_; (with_reducible refine (thalwegref01_Get.calls k1 _ _ l0 x1_1 1 t127 t128 t129 _ ?side1 ?side2 A12.out).mono ?_); (case side1 => repeat (first | exact (Kd.C_below HR0.out HB.out) | (with_reducible refine Kd.C_alloc ?_ _) | (with_reducible refine Kd.C_drewN ?_ _) | (with_reducible refine Kd.C_drew ?_))); (case side2 => exact HC0.out); rintro e w' ⟨rfl, ⟨nd, rfl⟩⟩; refine ⟨_, rfl, ?_⟩; (try (rw [drewN_self wr]; generalize hq_ : World.drewN wr _ = wr; have n0_ : Aside0 (Kd.R k59 59 wr w.heap.size (fun _ => True) u126001 x126001_1) := ⟨by rw [← hq_]; exact (by (with_reducible repeat (first | apply Kd.R_alloc | apply Kd.R_drewN | apply Kd.R_drew)); exact HO_126001.out)⟩; have n1_ : Aside0 (wr.heap[gb118]? = some (.cells #[.int .i64 x119000_1, .slice none 0 0] 25 (0, 0))) := ⟨by rw [← hq_]; exact (by (with_reducible repeat (first | refine blk_drewN ?_ _ | refine blk_drew ?_ | refine blk_alloc ?_ _)); exact BK118.out)⟩; have n2_ : Aside0 (wr.heap[gb125]? = some (.cells #[.int .i64 t119, u126001] 25 (0, 0))) := ⟨by rw [← hq_]; exact (by (with_reducible repeat (first | refine blk_drewN ?_ _ | refine blk_drew ?_ | refine blk_alloc ?_ _)); exact BK125.out)⟩; have n3_ : Aside0 (Below w.heap.size w wr) := ⟨by rw [← hq_]; exact (by repeat (first | (with_reducible first | exact HB.out | apply below_alloc | apply pw_below_drewN | apply below_drew1 | refine below_set ?_ GE118.out | refine below_set ?_ GE125.out) | exact HB.out))⟩; clear HO_126001 BK118 BK125 HB hq_; have HO_126001 := n0_; have BK118 := n1_; have BK125 := n2_; have HB := n3_; clear n0_ n1_ n2_ n3_)); have hnb24 := NB118_125.out; have hnc24 := NB125_118.out; have hcz25_0 : wr.cell? ⟨gb118, 0, none⟩ = some (.int .i64 x119000_1) := (blk_cell BK118.out 0).trans rfl; have hcz25_1 : wr.cell? ⟨gb118, 1, none⟩ = some (.slice none 0 0) := (blk_cell BK118.out 1).trans rfl; have hfz25_0 := blk_frozen BK118.out 0; have hfz25_1 := blk_frozen BK118.out 1))
              refine bodyPost_ret (results_ctt rfl _ _ gb118 25 #[.int .i64 0, .slice none 0 0] (0, 0) _ rfl (by (with_reducible repeat (first | refine blk_drewN ?_ _ | refine blk_drew ?_ | refine blk_alloc ?_ _)); refine blk_put (cs := #[.int .i64 0, .slice none 0 0]) ?_ 1 _ rfl; (with_reducible repeat (first | refine blk_drewN ?_ _ | refine blk_drew ?_ | refine blk_alloc ?_ _)); refine blk_put (cs := #[.int .i64 x119000_1, .slice none 0 0]) ?_ 0 _ rfl; (with_reducible repeat (first | refine blk_drewN ?_ _ | refine blk_drew ?_ | refine blk_alloc ?_ _)); exact BK118.out) Try.underlying25 rfl (by kernel_rfl)) rfl ?_
              exact ⟨_, by first | rfl | (simp [errW_none, errW_some] <;> rfl) | (simp [*, errW_none, errW_some] <;> rfl), by first | exact Kd.R_nil _ _ _ _ _ | exact Kd.N_nil _ _ _ _ _ | exact Kd.V_nil _ _ _ _ _ | exact Kd.Q_nil _ _ _ _ _ | exact Kd.S_nil _ _ _ _ _, by repeat (first | (with_reducible first | exact HB.out | apply below_alloc | apply pw_below_drewN | apply below_drew1 | refine below_set ?_ GE118.out | refine below_set ?_ GE125.out) | exact HB.out)⟩
          · rw [if_neg c11] at H
            have c11b0 : decide (x11_1 < t122) = false := decide_eq_false c11
            clear c11
            replace H := Option.bind_eq_some_iff.mp H
            obtain ⟨t126, A260, H⟩ := H
            replace H : (if t126 = true then (some (t119, x126001_1, x1_1, 0)) else (some (0, ([] : List (S59)), 0, 4))) = some (r1, r2, r3, r4) := H
            have A26 := Aside0.mk A260
            clear A260
            by_cases c27 : t126 = true
            · subst c27
              have H1 : (some (t119, x126001_1, x1_1, 0)) = some (r1, r2, r3, r4) := by rw [if_pos rfl] at H; exact H
              clear H
              have H := H1
              clear H1
              simp only [Option.some.injEq, Prod.mk.injEq] at H
              obtain ⟨rfl, rfl, rfl, rfl⟩ := H
              have hnb28 := NB125_118.out
              have hnc28 := NB118_125.out
              have hcz29_0 : wr.cell? ⟨gb125, 0, none⟩ = some (.int .i64 t119) := (blk_cell BK125.out 0).trans rfl
              have hcz29_1 : wr.cell? ⟨gb125, 1, none⟩ = some (u126001) := (blk_cell BK125.out 1).trans rfl
              have hfz29_0 := blk_frozen BK125.out 0
              have hfz29_1 := blk_frozen BK125.out 1
              obtain ⟨Ao30, co30, eo30⟩ := Kd.R_slice HO_126001.out
              subst eo30
              go_wp2_with (first | ((with_reducible refine gate_callee (f := 23) rfl ?_); refine goesL_ (some 77) rfl rfl Try.func23 (by kernel_rfl) rfl #[.agg #[.int .i64 t119, .slice Ao30 x126001_1.length co30]] rfl (by (try simp only [List.map_toArray, List.map_cons, List.map_nil]); first | done | rfl | (simp only [List.length_drop, List.length_take]; rfl)) ?_; (with_reducible refine (thalwegref06_Right.calls k1 t119 _ _ x126001_1 true _ ?side1 ?side2 A26.out).mono ?_); (case side1 => repeat (first | exact (Kd.R_reads' HO_126001.out).2.2 | (with_reducible refine Kd.C_alloc ?_ _) | (with_reducible refine Kd.C_drewN ?_ _) | (with_reducible refine Kd.C_drew ?_))); (case side2 => exact (Kd.R_reads' HO_126001.out).2.1); rintro e w31 ⟨rfl, hb⟩; refine ⟨_, rfl, ?_⟩; have n0_ := Aside0.mk (Kd.R_below (by (with_reducible repeat (first | apply Kd.R_alloc | apply Kd.R_drewN | apply Kd.R_drew)); exact HO_126001.out) hb); have n1_ := Aside0.mk (blk_below (g := gb118) (o := .cells #[.int .i64 x119000_1, .slice none 0 0] 25 (0, 0)) (by (with_reducible repeat (first | refine blk_drewN ?_ _ | refine blk_drew ?_ | refine blk_alloc ?_ _)); exact BK118.out) hb); have n2_ := Aside0.mk (blk_below (g := gb125) (o := .cells #[.int .i64 t119, .slice Ao30 x126001_1.length co30] 25 (0, 0)) (by (with_reducible repeat (first | refine blk_drewN ?_ _ | refine blk_drew ?_ | refine blk_alloc ?_ _)); exact BK125.out) hb); have n3_ := Aside0.mk (below_step (by repeat (first | (with_reducible first | exact HB.out | apply below_alloc | apply pw_below_drewN | apply below_drew1 | refine below_set ?_ GE118.out | refine below_set ?_ GE125.out) | exact HB.out)) hb); clear HO_126001; clear BK118; clear BK125; clear HB; have HO_126001 := n0_; have BK118 := n1_; have BK125 := n2_; have HB := n3_; clear n0_ n1_ n2_ n3_; (try clear hb); (try clear hb2); (try clear hk); (try clear hi); have hcz32_0 : w31.cell? ⟨gb125, 0, none⟩ = some (.int .i64 t119) := (blk_cell BK125.out 0).trans rfl; have hcz32_1 : w31.cell? ⟨gb125, 1, none⟩ = some (.slice Ao30 x126001_1.length co30) := (blk_cell BK125.out 1).trans rfl; have hfz32_0 := blk_frozen BK125.out 0; have hfz32_1 := blk_frozen BK125.out 1; have hcz33_0 : w31.cell? ⟨gb118, 0, none⟩ = some (.int .i64 x119000_1) := (blk_cell BK118.out 0).trans rfl; have hcz33_1 : w31.cell? ⟨gb118, 1, none⟩ = some (.slice none 0 0) := (blk_cell BK118.out 1).trans rfl; have hfz33_0 := blk_frozen BK118.out 0; have hfz33_1 := blk_frozen BK118.out 1))
              refine bodyPost_ret (results_ctt rfl _ _ gb118 25 #[.int .i64 t119, .slice Ao30 x126001_1.length co30] (0, 0) _ rfl (by (with_reducible repeat (first | refine blk_drewN ?_ _ | refine blk_drew ?_ | refine blk_alloc ?_ _)); refine blk_put (cs := #[.int .i64 t119, .slice none 0 0]) ?_ 1 _ rfl; (with_reducible repeat (first | refine blk_drewN ?_ _ | refine blk_drew ?_ | refine blk_alloc ?_ _)); refine blk_put (cs := #[.int .i64 x119000_1, .slice none 0 0]) ?_ 0 _ rfl; (with_reducible repeat (first | refine blk_drewN ?_ _ | refine blk_drew ?_ | refine blk_alloc ?_ _)); exact BK118.out) Try.underlying25 rfl (by kernel_rfl)) rfl ?_
              exact ⟨_, by first | rfl | (simp [errW_none, errW_some] <;> rfl) | (simp [*, errW_none, errW_some] <;> rfl), by (with_reducible repeat (first | apply Kd.R_alloc | apply Kd.R_drewN | apply Kd.R_drew)); exact Kd.R_mono (Kd.R_far (p := ⟨gb118, 1, none⟩) (Kd.R_far (p := ⟨gb118, 0, none⟩) (Kd.R_types HO_126001.out BK118.out (by decide)) (fun _ hk => hk.2) (.int .i64 t119)) (fun _ hk => hk.2) (.slice Ao30 x126001_1.length co30)) (fun _ hk => trivial), by repeat (first | (with_reducible first | exact HB.out | apply below_alloc | apply pw_below_drewN | apply below_drew1 | refine below_set ?_ GE118.out | refine below_set ?_ GE125.out) | exact HB.out)⟩
            · replace c27 := Bool.eq_false_iff.mpr c27
              subst c27
              have H1 : (some (0, ([] : List (S59)), 0, 4)) = some (r1, r2, r3, r4) := by rw [if_neg (show ¬ (false = true) by decide)] at H; exact H
              clear H
              have H := H1
              clear H1
              simp only [Option.some.injEq, Prod.mk.injEq] at H
              obtain ⟨rfl, rfl, rfl, rfl⟩ := H
              have hnb34 := NB125_118.out
              have hnc34 := NB118_125.out
              have hcz35_0 : wr.cell? ⟨gb125, 0, none⟩ = some (.int .i64 t119) := (blk_cell BK125.out 0).trans rfl
              have hcz35_1 : wr.cell? ⟨gb125, 1, none⟩ = some (u126001) := (blk_cell BK125.out 1).trans rfl
              have hfz35_0 := blk_frozen BK125.out 0
              have hfz35_1 := blk_frozen BK125.out 1
              obtain ⟨Ao36, co36, eo36⟩ := Kd.R_slice HO_126001.out
              subst eo36
              go_wp2_with (first | ((with_reducible refine gate_callee (f := 23) rfl ?_); refine goesL_ (some 77) rfl rfl Try.func23 (by kernel_rfl) rfl #[.agg #[.int .i64 t119, .slice Ao36 x126001_1.length co36]] rfl (by (try simp only [List.map_toArray, List.map_cons, List.map_nil]); first | done | rfl | (simp only [List.length_drop, List.length_take]; rfl)) ?_; (with_reducible refine (thalwegref06_Right.calls k1 t119 _ _ x126001_1 false _ ?side1 ?side2 A26.out).mono ?_); (case side1 => repeat (first | exact (Kd.R_reads' HO_126001.out).2.2 | (with_reducible refine Kd.C_alloc ?_ _) | (with_reducible refine Kd.C_drewN ?_ _) | (with_reducible refine Kd.C_drew ?_))); (case side2 => exact (Kd.R_reads' HO_126001.out).2.1); rintro e w37 ⟨rfl, hb⟩; refine ⟨_, rfl, ?_⟩; have n0_ := Aside0.mk (Kd.R_below (by (with_reducible repeat (first | apply Kd.R_alloc | apply Kd.R_drewN | apply Kd.R_drew)); exact HO_126001.out) hb); have n1_ := Aside0.mk (blk_below (g := gb118) (o := .cells #[.int .i64 x119000_1, .slice none 0 0] 25 (0, 0)) (by (with_reducible repeat (first | refine blk_drewN ?_ _ | refine blk_drew ?_ | refine blk_alloc ?_ _)); exact BK118.out) hb); have n2_ := Aside0.mk (blk_below (g := gb125) (o := .cells #[.int .i64 t119, .slice Ao36 x126001_1.length co36] 25 (0, 0)) (by (with_reducible repeat (first | refine blk_drewN ?_ _ | refine blk_drew ?_ | refine blk_alloc ?_ _)); exact BK125.out) hb); have n3_ := Aside0.mk (below_step (by repeat (first | (with_reducible first | exact HB.out | apply below_alloc | apply pw_below_drewN | apply below_drew1 | refine below_set ?_ GE118.out | refine below_set ?_ GE125.out) | exact HB.out)) hb); clear HO_126001; clear BK118; clear BK125; clear HB; have HO_126001 := n0_; have BK118 := n1_; have BK125 := n2_; have HB := n3_; clear n0_ n1_ n2_ n3_; (try clear hb); (try clear hb2); (try clear hk); (try clear hi); have hcz38_0 : w37.cell? ⟨gb118, 0, none⟩ = some (.int .i64 x119000_1) := (blk_cell BK118.out 0).trans rfl; have hcz38_1 : w37.cell? ⟨gb118, 1, none⟩ = some (.slice none 0 0) := (blk_cell BK118.out 1).trans rfl; have hfz38_0 := blk_frozen BK118.out 0; have hfz38_1 := blk_frozen BK118.out 1))
              refine bodyPost_ret (results_ctt rfl _ _ gb118 25 #[.int .i64 0, .slice none 0 0] (0, 0) _ rfl (by (with_reducible repeat (first | refine blk_drewN ?_ _ | refine blk_drew ?_ | refine blk_alloc ?_ _)); refine blk_put (cs := #[.int .i64 0, .slice none 0 0]) ?_ 1 _ rfl; (with_reducible repeat (first | refine blk_drewN ?_ _ | refine blk_drew ?_ | refine blk_alloc ?_ _)); refine blk_put (cs := #[.int .i64 x119000_1, .slice none 0 0]) ?_ 0 _ rfl; (with_reducible repeat (first | refine blk_drewN ?_ _ | refine blk_drew ?_ | refine blk_alloc ?_ _)); exact BK118.out) Try.underlying25 rfl (by kernel_rfl)) rfl ?_
              exact ⟨_, by first | rfl | (simp [errW_none, errW_some] <;> rfl) | (simp [*, errW_none, errW_some] <;> rfl), by first | exact Kd.R_nil _ _ _ _ _ | exact Kd.N_nil _ _ _ _ _ | exact Kd.V_nil _ _ _ _ _ | exact Kd.Q_nil _ _ _ _ _ | exact Kd.S_nil _ _ _ _ _, by repeat (first | (with_reducible first | exact HB.out | apply below_alloc | apply pw_below_drewN | apply below_drew1 | refine below_set ?_ GE118.out | refine below_set ?_ GE125.out) | exact HB.out)⟩
    · rw [if_neg c6] at H
      have c6b0 : (t124 == 0) = false := beq_eq_false_iff_ne.mpr c6
      have c6b1 : (t124 != 0) = true := bne_iff_ne.mpr c6
      simp only [Option.some.injEq, Prod.mk.injEq] at H
      obtain ⟨rfl, rfl, rfl, rfl⟩ := H
      go_enter Try.func9, Try.ntmps9
      go_wp2_with (first | ((with_reducible refine gate_dst (N := 4) rfl ?_); refine box_event ?hg (N := 4) ?hd (cs := #[.int .i64 0, .slice none 0 0]) (t := 25) ?hr ?_; (case hd => rfl); (case hg => rfl); (case hr => first | (go_simp; done) | (go_simp; rfl)); intro gb118 hg w39 hbox hb; have n0_ := Aside0.mk (below_step (by repeat (first | (with_reducible first | exact HB.out | apply below_alloc | apply pw_below_drewN | apply below_drew1) | exact HB.out)) hb); have n1_ := Aside0.mk (hbox); have n2_ := Aside0.mk ((by rw [hg]; exact (below_size (by repeat (first | (with_reducible first | exact HB.out | apply below_alloc | apply pw_below_drewN | apply below_drew1) | exact HB.out))) : w.heap.size ≤ gb118)); have n3_ := Aside0.mk ((by rw [hg]; exact (below_size (by repeat (first | (with_reducible first | exact HB.out | apply below_alloc | apply pw_below_drewN | apply below_drew1) | exact HB.out))) : w.heap.size ≤ gb118)); clear HB; have HB := n0_; have BK118 := n1_; have GW118 := n2_; have GE118 := n3_; clear n0_ n1_ n2_ n3_; clear hb hbox hg) | ((with_reducible refine gate_callee (f := 26) rfl ?_); refine goesL_ (some 19) rfl rfl Try.func26 (by kernel_rfl) rfl #[.slice A0 l0.length c0, .int .i64 a1, .int .i64 4] rfl (by (try simp only [List.map_toArray, List.map_cons, List.map_nil]); first | done | rfl | (simp only [List.length_drop, List.length_take]; rfl)) ?_; (with_reducible refine (thalwegref01_Get.calls k _ _ l0 a1 4 t119 t120 t121 _ ?side1 ?side2 A3.out).mono ?_); (case side1 => repeat (first | exact (Kd.C_below HR0.out HB.out) | (with_reducible refine Kd.C_alloc ?_ _) | (with_reducible refine Kd.C_drewN ?_ _) | (with_reducible refine Kd.C_drew ?_))); (case side2 => exact HC0.out); rintro e w' ⟨rfl, ⟨nd, rfl⟩⟩; refine ⟨_, rfl, ?_⟩; (try (rw [drewN_self w39]; generalize hq_ : World.drewN w39 _ = w39; have n0_ : Aside0 (w39.heap[gb118]? = some (.cells #[.int .i64 0, .slice none 0 0] 25 (0, 0))) := ⟨by rw [← hq_]; exact (by (with_reducible repeat (first | refine blk_drewN ?_ _ | refine blk_drew ?_ | refine blk_alloc ?_ _)); exact BK118.out)⟩; have n1_ : Aside0 (Below w.heap.size w w39) := ⟨by rw [← hq_]; exact (by repeat (first | (with_reducible first | exact HB.out | apply below_alloc | apply pw_below_drewN | apply below_drew1 | refine below_set ?_ GE118.out) | exact HB.out))⟩; clear BK118 HB hq_; have BK118 := n0_; have HB := n1_; clear n0_ n1_))) | ((with_reducible refine gate_callee (f := 26) rfl ?_); refine goesL_ (some 30) rfl rfl Try.func26 (by kernel_rfl) rfl #[.slice A0 l0.length c0, .int .i64 t120, .int .i64 1] rfl (by (try simp only [List.map_toArray, List.map_cons, List.map_nil]); first | done | rfl | (simp only [List.length_drop, List.length_take]; rfl)) ?_; (with_reducible refine (thalwegref01_Get.calls k _ _ l0 t120 1 t122 t123 t124 _ ?side1 ?side2 A5.out).mono ?_); (case side1 => repeat (first | exact (Kd.C_below HR0.out HB.out) | (with_reducible refine Kd.C_alloc ?_ _) | (with_reducible refine Kd.C_drewN ?_ _) | (with_reducible refine Kd.C_drew ?_))); (case side2 => exact HC0.out); rintro e w' ⟨rfl, ⟨nd, rfl⟩⟩; refine ⟨_, rfl, ?_⟩; (try (rw [drewN_self w39]; generalize hq_ : World.drewN w39 _ = w39; have n0_ : Aside0 (w39.heap[gb118]? = some (.cells #[.int .i64 0, .slice none 0 0] 25 (0, 0))) := ⟨by rw [← hq_]; exact (by (with_reducible repeat (first | refine blk_drewN ?_ _ | refine blk_drew ?_ | refine blk_alloc ?_ _)); exact BK118.out)⟩; have n1_ : Aside0 (Below w.heap.size w w39) := ⟨by rw [← hq_]; exact (by repeat (first | (with_reducible first | exact HB.out | apply below_alloc | apply pw_below_drewN | apply below_drew1 | refine below_set ?_ GE118.out) | exact HB.out))⟩; clear BK118 HB hq_; have BK118 := n0_; have HB := n1_; clear n0_ n1_)); have hcz40_0 : w39.cell? ⟨gb118, 0, none⟩ = some (.int .i64 0) := (blk_cell BK118.out 0).trans rfl; have hcz40_1 : w39.cell? ⟨gb118, 1, none⟩ = some (.slice none 0 0) := (blk_cell BK118.out 1).trans rfl; have hfz40_0 := blk_frozen BK118.out 0; have hfz40_1 := blk_frozen BK118.out 1))
      refine bodyPost_ret (results_ctt rfl _ _ gb118 25 #[.int .i64 0, .slice none 0 0] (0, 0) _ rfl (by (with_reducible repeat (first | refine blk_drewN ?_ _ | refine blk_drew ?_ | refine blk_alloc ?_ _)); refine blk_put (cs := #[.int .i64 0, .slice none 0 0]) ?_ 1 _ rfl; (with_reducible repeat (first | refine blk_drewN ?_ _ | refine blk_drew ?_ | refine blk_alloc ?_ _)); refine blk_put (cs := #[.int .i64 0, .slice none 0 0]) ?_ 0 _ rfl; (with_reducible repeat (first | refine blk_drewN ?_ _ | refine blk_drew ?_ | refine blk_alloc ?_ _)); exact BK118.out) Try.underlying25 rfl (by kernel_rfl)) rfl ?_
      exact ⟨_, by first | rfl | (simp [errW_none, errW_some] <;> rfl) | (simp [*, errW_none, errW_some] <;> rfl), by first | exact Kd.R_nil _ _ _ _ _ | exact Kd.N_nil _ _ _ _ _ | exact Kd.V_nil _ _ _ _ _ | exact Kd.Q_nil _ _ _ _ _ | exact Kd.S_nil _ _ _ _ _, by repeat (first | (with_reducible first | exact HB.out | apply below_alloc | apply pw_below_drewN | apply below_drew1 | refine below_set ?_ GE118.out) | exact HB.out)⟩
  · rw [if_neg c4] at H
    have c4b0 : (t121 == 0) = false := beq_eq_false_iff_ne.mpr c4
    have c4b1 : (t121 != 0) = true := bne_iff_ne.mpr c4
    simp only [Option.some.injEq, Prod.mk.injEq] at H
    obtain ⟨rfl, rfl, rfl, rfl⟩ := H
    go_enter Try.func9, Try.ntmps9
    go_wp2_with (first | ((with_reducible refine gate_dst (N := 4) rfl ?_); refine box_event ?hg (N := 4) ?hd (cs := #[.int .i64 0, .slice none 0 0]) (t := 25) ?hr ?_; (case hd => rfl); (case hg => rfl); (case hr => first | (go_simp; done) | (go_simp; rfl)); intro gb118 hg w41 hbox hb; have n0_ := Aside0.mk (below_step (by repeat (first | (with_reducible first | exact HB.out | apply below_alloc | apply pw_below_drewN | apply below_drew1) | exact HB.out)) hb); have n1_ := Aside0.mk (hbox); have n2_ := Aside0.mk ((by rw [hg]; exact (below_size (by repeat (first | (with_reducible first | exact HB.out | apply below_alloc | apply pw_below_drewN | apply below_drew1) | exact HB.out))) : w.heap.size ≤ gb118)); have n3_ := Aside0.mk ((by rw [hg]; exact (below_size (by repeat (first | (with_reducible first | exact HB.out | apply below_alloc | apply pw_below_drewN | apply below_drew1) | exact HB.out))) : w.heap.size ≤ gb118)); clear HB; have HB := n0_; have BK118 := n1_; have GW118 := n2_; have GE118 := n3_; clear n0_ n1_ n2_ n3_; clear hb hbox hg) | ((with_reducible refine gate_callee (f := 26) rfl ?_); refine goesL_ (some 19) rfl rfl Try.func26 (by kernel_rfl) rfl #[.slice A0 l0.length c0, .int .i64 a1, .int .i64 4] rfl (by (try simp only [List.map_toArray, List.map_cons, List.map_nil]); first | done | rfl | (simp only [List.length_drop, List.length_take]; rfl)) ?_; (with_reducible refine (thalwegref01_Get.calls k _ _ l0 a1 4 t119 t120 t121 _ ?side1 ?side2 A3.out).mono ?_); (case side1 => repeat (first | exact (Kd.C_below HR0.out HB.out) | (with_reducible refine Kd.C_alloc ?_ _) | (with_reducible refine Kd.C_drewN ?_ _) | (with_reducible refine Kd.C_drew ?_))); (case side2 => exact HC0.out); rintro e w' ⟨rfl, ⟨nd, rfl⟩⟩; refine ⟨_, rfl, ?_⟩; (try (rw [drewN_self w41]; generalize hq_ : World.drewN w41 _ = w41; have n0_ : Aside0 (w41.heap[gb118]? = some (.cells #[.int .i64 0, .slice none 0 0] 25 (0, 0))) := ⟨by rw [← hq_]; exact (by (with_reducible repeat (first | refine blk_drewN ?_ _ | refine blk_drew ?_ | refine blk_alloc ?_ _)); exact BK118.out)⟩; have n1_ : Aside0 (Below w.heap.size w w41) := ⟨by rw [← hq_]; exact (by repeat (first | (with_reducible first | exact HB.out | apply below_alloc | apply pw_below_drewN | apply below_drew1 | refine below_set ?_ GE118.out) | exact HB.out))⟩; clear BK118 HB hq_; have BK118 := n0_; have HB := n1_; clear n0_ n1_)); have hcz42_0 : w41.cell? ⟨gb118, 0, none⟩ = some (.int .i64 0) := (blk_cell BK118.out 0).trans rfl; have hcz42_1 : w41.cell? ⟨gb118, 1, none⟩ = some (.slice none 0 0) := (blk_cell BK118.out 1).trans rfl; have hfz42_0 := blk_frozen BK118.out 0; have hfz42_1 := blk_frozen BK118.out 1))
    refine bodyPost_ret (results_ctt rfl _ _ gb118 25 #[.int .i64 0, .slice none 0 0] (0, 0) _ rfl (by (with_reducible repeat (first | refine blk_drewN ?_ _ | refine blk_drew ?_ | refine blk_alloc ?_ _)); refine blk_put (cs := #[.int .i64 0, .slice none 0 0]) ?_ 1 _ rfl; (with_reducible repeat (first | refine blk_drewN ?_ _ | refine blk_drew ?_ | refine blk_alloc ?_ _)); refine blk_put (cs := #[.int .i64 0, .slice none 0 0]) ?_ 0 _ rfl; (with_reducible repeat (first | refine blk_drewN ?_ _ | refine blk_drew ?_ | refine blk_alloc ?_ _)); exact BK118.out) Try.underlying25 rfl (by kernel_rfl)) rfl ?_
    exact ⟨_, by first | rfl | (simp [errW_none, errW_some] <;> rfl) | (simp [*, errW_none, errW_some] <;> rfl), by first | exact Kd.R_nil _ _ _ _ _ | exact Kd.N_nil _ _ _ _ _ | exact Kd.V_nil _ _ _ _ _ | exact Kd.Q_nil _ _ _ _ _ | exact Kd.S_nil _ _ _ _ _, by repeat (first | (with_reducible first | exact HB.out | apply below_alloc | apply pw_below_drewN | apply below_drew1 | refine below_set ?_ GE118.out) | exact HB.out)⟩
end Go.Proofs.Ytaiklcpmlkpfjaa.P
namespace Go.Proofs.Ytaiklcpmlkpfjaa.P
open Go.RowKit Go.Proofs.YtaiklcpmlkpfjaaW.PrintWords Go.Proofs.YtaiklcpmlkpfjaaW.PrintLast Go.Proofs.YtaiklcpmlkpfjaaW.PrintMore
open Classical
theorem awake06 : Ev (fun k => thalweglaw06_awake.f k) true := Ev.of (fun k => thalweglaw06_awake.mono k) (k := 30) (by decide +kernel)
theorem bsame_l0 (n : Int) (Y : List S59) (hl : Y.length ≤ 1000000000000) : ∀ (d : Nat) (i : Int), 0 ≤ i → (Y.length : Int) - i = d → Ev (fun k => thalwegref06_Same.l0 k i n Y n Y) true := by
  intro d
  induction d with
  | zero =>
    intro i h0 hd
    refine Ev.from 1 fun k => ?_
    simp only [thalwegref06_Same.l0]
    rw [if_neg (by omega)]
  | succ d ih =>
    intro i h0 hd
    refine Ev.step (f := fun k => _) (fun k => by simp only [thalwegref06_Same.l0]; rfl) ?_
    simp only [if_pos (show i < (Y.length : Int) by omega), if_pos h0, beq_self_eq_true, Bool.not_true, Bool.or_self, Bool.false_eq_true, if_false, w64 (x := i + 1) (by omega) (by omega)]
    exact ih (i + 1) (by omega) (by omega)
theorem bsame_ev (n : Int) (Y : List S59) (hl : Y.length ≤ 1000000000000) : Ev (fun k => thalwegref06_Same.f k n Y n Y) true := by
  unfold thalwegref06_Same.f
  simp only [if_true, bne_self_eq_false]
  refine Ev.step (f := fun k => _) (fun k => by simp only [thalwegref06_Same.j0]; rfl) ?_
  simp only [Bool.false_eq_true, if_false]
  exact bsame_l0 n Y hl Y.length 0 (by omega) (by omega)
end Go.Proofs.Ytaiklcpmlkpfjaa.P
namespace Go.Proofs.Ytaiklcpmlkpfjaa.Pure
open Go.RowKit Go.Proofs.Ytaiklcpmlkpfjaa.P Go.Proofs.YtaiklcpmlkpfjaaW.PrintWords Go.Proofs.YtaiklcpmlkpfjaaW.PrintLast Go.Proofs.YtaiklcpmlkpfjaaW.PrintMore
open Classical
theorem bh_j0 (n id : Int) (ep : Int) (Y : List S59) (hl : Y.length ≤ 100) (hR : RBn n Y) (hi : 0 ≤ id ∧ id < 64 ∧ EpR ep) (n2 : Int) (Y2 : List S59) (e2 : Int) (hw : (if (hearS Y id).2 = true then (n, delS Y id, 0) else ((0 : Int), ([] : List S59), (7 : Int))) = (n2, Y2, e2)) :
    Ev (fun k => thalweglaw06_BeaconHears.j0 k id e2 false n Y n (putS Y id ep) n (delS Y id) n2 Y2) true := by
  have hs := (rb_parts.1 hR).2.2
  have l1 := putS_length id ep Y
  have l2 := del_length id Y
  have hc := bncheck_ev n (putS Y id ep) (by omega)
  rw [if_pos ((rb_putS hR id ep).2 hi)] at hc
  refine Ev.step (f := fun k => _) (fun k => by simp only [thalweglaw06_BeaconHears.j0]; rfl) ?_
  simp only [Bool.false_eq_true, if_false]
  rw [heard_eq n Y id (by omega)]
  simp only [Option.bind_some]
  refine Ev.bind awake06 ?_
  simp only [if_true]
  refine Ev.bind hc ?_
  simp only [if_true]
  by_cases hh : (hearS Y id).2 = true
  · rw [if_pos hh] at hw
    simp only [Prod.mk.injEq] at hw
    obtain ⟨rfl, rfl, rfl⟩ := hw
    simp only [if_pos hh, if_true]
    refine Ev.bind (bsame_ev n _ (by omega)) ?_
    simp only [if_true]
    exact Ev.now _
  · rw [if_neg hh] at hw
    simp only [Prod.mk.injEq] at hw
    obtain ⟨rfl, rfl, rfl⟩ := hw
    simp only [if_neg hh, if_true]
    rw [del_none Y (fun o ho he => hh ((hear_iff Y).2 ⟨o, ho, he⟩))]
    exact Ev.bind (bsame_ev n _ (by omega)) (Ev.now _)
theorem BeaconHears : thalweglaw06_BeaconHears.Pure := by
  intro x0 id t ep h0 _ _ _
  obtain ⟨n, Y⟩ := x0
  simp only
  suffices h : Ev (fun k => thalweglaw06_BeaconHears.f k n Y id t ep) true by
    obtain ⟨K, hK⟩ := h
    exact ⟨K, hK K (Nat.le_refl _)⟩
  unfold thalweglaw06_BeaconHears.f
  by_cases hl : (Y.length : Int) > 100
  · simp only [if_pos hl]
    exact Ev.now _
  simp only [if_neg hl]
  rw [with_eq n Y id ep (by omega)]
  simp only [Option.bind_some]
  by_cases h1 : RBn n Y ∧ 0 ≤ id ∧ id < 64 ∧ EpR ep
  · simp only [if_pos h1, if_true]
    have l1 := putS_length id ep Y
    have l2 := del_length id Y
    have hR2 := (rb_putS h1.1 id ep).2 h1.2
    have hs := (rb_parts.1 h1.1).2.2
    rw [heard_eq n _ id (by omega), heard_eq n Y t (by omega), heard_eq n _ t (by omega), without_eq n _ id (by omega), without_eq n Y id (by omega), if_pos hR2, if_pos h1.1, hear_put, del_put id ep Y hs]
    simp only [Option.bind_some, if_true]
    rw [heard_eq n _ id (by omega), hear_none (delS Y id) (fun o ho => (mem_del id Y hs o ho).2)]
    simp only [Option.bind_some, if_true]
    obtain ⟨n2, Y2, e2, hw⟩ : ∃ n2 Y2 e2, (if (hearS Y id).2 = true then (n, delS Y id, 0) else ((0 : Int), ([] : List S59), (7 : Int))) = (n2, Y2, e2) := ⟨_, _, _, rfl⟩
    rw [hw]
    simp only
    have hj := bh_j0 n id ep Y (by omega) h1.1 h1.2 n2 Y2 e2 hw
    by_cases ht : t = id
    · simp only [if_pos ht]
      exact hj
    · simp only [if_neg ht, hear_other id ep t ht, if_true, bne_self_eq_false, Bool.false_eq_true, if_false]
      exact hj
  · simp only [if_neg h1, if_neg (show ¬ (1 : Int) = 0 by decide)]
    refine Ev.bind awake06 ?_
    simp only [if_true]
    exact Ev.now _
end Go.Proofs.Ytaiklcpmlkpfjaa.Pure
namespace Go.Proofs.YtaiklcpmlkpfjaaW.Opn
open Go.RowKit Go.Proofs.YtaiklcpmlkpfjaaW.PrintWords Go.ChangeShapes Go.WideShapes Go.Deep
def Opens (P : Program) (t : TypeId) {α : Type} (d : Kd α) (wf : α → Prop) : Prop :=
  ∀ {H : Type} (enc : TypeId × Value → H) (w : World) (base : Nat) (spare : Nat → Bool) (held : Bool) (fuel : Nat) (cs : List Value) (y : DataW H × List MemPlace),
    DataW.trod enc P w base spare held fuel t cs = some y → ∃ x : α, d.K w x cs ∧ wf x
theorem opens_int {P : Program} {t : TypeId} {k : IntKind} (ht : P.underlying t = some (.int k)) : Opens P t (Kd.int k) (fun x => (Lit.int k x).wf = true) := by
  intro H enc w base spare held fuel cs y h
  obtain ⟨n, rfl, _, hw⟩ := DataW.trod_int ht h
  exact ⟨n, rfl, hw⟩
theorem opens_iso {P : Program} {t : TypeId} {α β : Type} {d : Kd α} {wf : α → Prop} (f : β → α) (g : α → β) (hg : ∀ a, f (g a) = a) (h : Opens P t d wf) : Opens P t (Kd.iso d f) (fun b => wf (f b)) := by
  intro H enc w base spare held fuel cs y hy
  obtain ⟨x, hx, hw⟩ := h enc w base spare held fuel cs y hy
  exact ⟨g x, by show d.K w (f (g x)) cs; rw [hg]; exact hx, by show wf (f (g x)); rw [hg]; exact hw⟩
def OpensL (P : Program) : (ts : List TypeId) → {α : Type} → (d : Kd α) → (wf : α → Prop) → Prop := fun ts {α} d wf =>
  ∀ {H : Type} (enc : TypeId × Value → H) (w : World) (base : Nat) (spare : Nat → Bool) (held : Bool) (n : Nat) (cs : List Value) (xs : List (DataW H × List MemPlace)) (off : Nat),
    (∀ (i : Nat) (t : TypeId), ts[i]? = some t → ∃ y, DataW.trod enc P w base spare held n t ((cs.drop (off + ((ts.take i).map P.cellsOf).sum)).take (P.cellsOf t)) = some y) →
    ∃ x : α, d.K w x ((cs.drop off).take ((ts.map P.cellsOf).sum)) ∧ wf x
theorem opensL_one {P : Program} {t : TypeId} {α : Type} {d : Kd α} {wf : α → Prop} (h : Opens P t d wf) : OpensL P [t] d wf := by
  intro H enc w base spare held n cs xs off hx
  obtain ⟨y, hy⟩ := hx 0 t rfl
  simpa using h enc w base spare held n _ y (by simpa using hy)
theorem opensL_cons {P : Program} {t : TypeId} {ts : List TypeId} {α β : Type} {d : Kd α} {d' : Kd β} {wf : α → Prop} {wf' : β → Prop} (h : Opens P t d wf) (h' : OpensL P ts d' wf') :
    OpensL P (t :: ts) (Kd.pair d d') (fun x => wf x.1 ∧ wf' x.2) := by
  intro H enc w base spare held n cs xs off hx
  obtain ⟨y, hy⟩ := hx 0 t rfl
  obtain ⟨x, hk, hw⟩ := h enc w base spare held n _ y (by simpa using hy)
  obtain ⟨x', hk', hw'⟩ := h' enc w base spare held n cs xs (off + P.cellsOf t) (fun i u hu => by
    have := hx (i + 1) u hu
    simpa [Nat.add_assoc] using this)
  refine ⟨(x, x'), ⟨(cs.drop off).take (P.cellsOf t), (cs.drop (off + P.cellsOf t)).take ((ts.map P.cellsOf).sum), ?_, hk, hk'⟩, hw, hw'⟩
  simp only [List.map_cons, List.sum_cons]
  rw [List.take_add, List.drop_drop]
def lineB (P : Program) : List Field → Nat → Bool
  | [], _ => true
  | f :: fs, off => (f.offset == off) && lineB P fs (off + P.cellsOf f.type)
theorem line_at {P : Program} : ∀ (fs : List Field) (off : Nat), lineB P fs off = true → ∀ (i : Nat) (f : Field), fs[i]? = some f → f.offset = off + (((fs.map (·.type)).take i).map P.cellsOf).sum := by
  intro fs
  induction fs with
  | nil => intro off _ i f h; simp at h
  | cons g gs ih =>
    intro off hb i f h
    unfold lineB at hb
    rw [Bool.and_eq_true, beq_iff_eq] at hb
    cases i with
    | zero =>
      simp at h
      subst h
      simpa using hb.1
    | succ i =>
      have := ih _ hb.2 i f (by simpa using h)
      simp only [List.map_cons, List.take_succ_cons, List.sum_cons]
      omega
theorem opens_struct {P : Program} {t : TypeId} {fs : Array Field} {α : Type} {d : Kd α} {wf : α → Prop} (ht : P.underlying t = some (.struct fs)) (hl : lineB P fs.toList 0 = true) (hc : P.cellsOf t = ((fs.toList.map (·.type)).map P.cellsOf).sum)
    (h : OpensL P (fs.toList.map (·.type)) d wf) : Opens P t d wf := by
  intro H enc w base spare held fuel cs y hy
  obtain ⟨xs, n, _, _, hlen, hxl, hf⟩ := DataW.trod_struct ht hy
  obtain ⟨x, hk, hw⟩ := h enc w base spare held n cs xs 0 (fun i u hu => by
    rw [List.getElem?_map, Option.map_eq_some_iff] at hu
    obtain ⟨f, hf0, rfl⟩ := hu
    have hi : i < fs.size := by
      have := (List.getElem?_eq_some_iff.1 hf0).1
      simpa using this
    have h1 := hf i f (by rw [← Array.getElem?_toList]; exact hf0)
    rw [line_at _ 0 hl i f hf0] at h1
    exact ⟨_, h1.trans (List.getElem?_eq_getElem (by omega))⟩)
  rw [← hc, List.drop_zero, ← hlen, List.take_length] at hk
  exact ⟨x, hk, hw⟩
theorem reads_build {P : Program} {e : TypeId} {α : Type} {d : Kd α} {wf : α → Prop} (hs : P.cellsOf e = d.sz) (w : World) (ad : Addr) : ∀ (len : Nat), (∀ i, i < len → ∃ (x : α) (c : List Value), c.length = d.sz ∧ d.K w x c ∧ wf x ∧ ∀ j u, c[j]? = some u → w.cell? (ad.add (i * d.sz + j)) = some u) →
    ∃ xs : List α, xs.length = len ∧ (∀ x ∈ xs, wf x) ∧ ∀ j p, xs[j]? = some p → ∃ c, c.length = d.sz ∧ d.K w p c ∧ ∀ i u, c[i]? = some u → w.cell? (ad.add (j * d.sz + i)) = some u := by
  intro len
  induction len with
  | zero => intro _; exact ⟨[], rfl, by simp, by simp⟩
  | succ n ih =>
    intro h
    obtain ⟨xs, hl, hw, hx⟩ := ih (fun i hi => h i (by omega))
    obtain ⟨x, c, hc, hk, hwx, hcell⟩ := h n (by omega)
    refine ⟨xs ++ [x], by simp [hl], ?_, ?_⟩
    · intro y hy
      rcases List.mem_append.1 hy with hy | hy
      · exact hw y hy
      · rw [List.mem_singleton.1 hy]; exact hwx
    · intro j p hj
      rcases Nat.lt_or_ge j xs.length with hjl | hjl
      · rw [List.getElem?_append_left hjl] at hj
        exact hx j p hj
      · have : j = xs.length := by
          have := (List.getElem?_eq_some_iff.1 hj).1
          simp at this
          omega
        subst this
        have hp : x = p := by simpa using hj
        subst hp
        exact ⟨c, hc, hk, by rw [hl]; exact hcell⟩
theorem opens_slice {P : Program} {t e : TypeId} {α : Type} {d : Kd α} {wf : α → Prop} (ht : P.underlying t = some (.slice e)) (hs : P.cellsOf e = d.sz) (h : Opens P e d wf) : Opens P t (Kd.slice e d) (fun l => l.length ≤ maxLen ∧ ∀ x ∈ l, wf x) := by
  intro H enc w base spare held fuel cs y hy
  rcases open_slice ht hy with ⟨rfl, _⟩ | ⟨a, len, cap, m, n, D, Pl, rfl, hb, hl, hm, hmm, hx, hi⟩
  · exact ⟨[], ⟨none, 0, rfl, Nat.le_refl _, rfl, by simp, by simp⟩, by simp, by simp⟩
  · have hle : len ≤ m := by rw [hmm]; split <;> omega
    obtain ⟨xs, hxl, hwf, hxs⟩ := reads_build (P := P) (e := e) (d := d) (wf := wf) hs w a len (fun i hlt => by
      obtain ⟨cs', hc, ht'⟩ := hi i (by omega)
      obtain ⟨_, hcl, hat⟩ := World.cells?_some hc
      obtain ⟨x, hk, hwx⟩ := h enc w base spare held n cs' _ ht'
      refine ⟨x, cs', by omega, hk, hwx, fun j u hj => ?_⟩
      have hjl := (List.getElem?_eq_some_iff.1 hj).1
      have := hat j (by omega)
      rw [← Go.Deep.add_add, ← hs, this, hj])
    have hm' : len ≤ maxLen := by omega
    subst hxl
    have hm2 : xs.length ≤ 9223372036854775807 := by unfold maxLen at hm'; omega
    exact ⟨xs, ⟨some a, cap, rfl, hl, rfl, hm2, fun _ => ⟨a, rfl, hxs⟩⟩, hm', hwf⟩
end Go.Proofs.YtaiklcpmlkpfjaaW.Opn
namespace Go.Proofs.Ytaiklcpmlkpfjaa.beaconHears
open Go.ChangeShapes Go.WideShapes Go.ChangeAt Go.RowKit Go.Proofs.YtaiklcpmlkpfjaaW Go.Proofs.YtaiklcpmlkpfjaaW.PrintWords Go.Proofs.Ytaiklcpmlkpfjaa.P
open Go.ChangeMaps (open_string shut_string)
theorem own : ownKnob Try.prog.godebug = none := by kernel_rfl
theorem laidOut : laidOutB Try.prog = true := by kernel_rfl
theorem opn59 : Opn.Opens Try.prog 59 k59 (fun x => ((Lit.int .i64 x.f0).wf = true ∧ (Lit.int .i64 x.f1).wf = true)) :=
  Opn.opens_iso (fun x : S59 => (x.f0, x.f1)) (fun a => ⟨a.1, a.2⟩) (fun _ => rfl) (Opn.opens_struct Try.underlying59 (by kernel_rfl) (by kernel_rfl) (Opn.opensL_cons (Opn.opens_int Try.underlying3) (Opn.opensL_one (Opn.opens_int Try.underlying3))))
theorem opn25 : Opn.Opens Try.prog 25 k25 (fun x => ((Lit.int .i64 x.f0).wf = true ∧ (x.f1.length ≤ maxLen ∧ ∀ x0_ ∈ x.f1, ((Lit.int .i64 x0_.f0).wf = true ∧ (Lit.int .i64 x0_.f1).wf = true)))) :=
  Opn.opens_iso (fun x : S25 => (x.f0, x.f1)) (fun a => ⟨a.1, a.2⟩) (fun _ => rfl) (Opn.opens_struct Try.underlying25 (by kernel_rfl) (by kernel_rfl) (Opn.opensL_cons (Opn.opens_int Try.underlying3) (Opn.opensL_one (Opn.opens_slice Try.underlying23 (by kernel_rfl) opn59))))
set_option maxRecDepth 100000 in
theorem lifted (os : Os) (started : os.Started) (H : Type) (enc : TypeId × Value → H) :
    ReturnsInHanded {} Try.checked os 7 .any (Rows.beaconHearsSpec.pre6 enc Try.prog Try.f7 Rows.beaconHearsRow.domain false) (Rows.beaconHearsSpec.post enc Try.prog Try.f7 false true false false) := by
  refine returnsInHanded_of_change_sized (C := Try.checked) own started (by kernel_rfl) Try.func7
    (ChangeSpec.witness6 (enc := enc) (C := Try.checked) false ⟨#[], #[.agg #[(.int .i64 0), (.slice none 0 0)], .int .i64 0, .int .i64 0, .int .i64 0], []⟩ 8 (by kernel_rfl) (by kernel_rfl) (by kernel_rfl) (by kernel_rfl)) ?_
  intro W base args ds gs before hval0 hW hcnd hsz0 _
  have hval : ∀ (j : Nat) t v, Try.f7.params[j]? = some t → args[j]? = some v → Value.okWide Try.prog W .any base t v := hval0
  have hW' := hW
  obtain ⟨p, q, hA0, hV, rfl, hfz, hnd⟩ := hW
  have hA : DataW.TrodAll enc Try.prog W 0 (fun _ => true) true Try.f7.params.toList args.toList ds p := hA0
  rw [Try.params7] at hA hval
  obtain ⟨v0, vs0, d0, ds0, p0, q0, hargs, rfl, rfl, h0, r0⟩ := trodAll_cons hA
  obtain ⟨v1, vs1, d1, ds1, p1, q1, rfl, rfl, rfl, h1, r1⟩ := trodAll_cons r0
  obtain ⟨v2, vs2, d2, ds2, p2, q2, rfl, rfl, rfl, h2, r2⟩ := trodAll_cons r1
  obtain ⟨v3, vs3, d3, ds3, p3, q3, rfl, rfl, rfl, h3, r3⟩ := trodAll_cons r2
  obtain ⟨rfl, rfl, rfl⟩ := trodAll_nil r3
  obtain rfl : args = #[v0, v1, v2, v3] := by cases args; simp_all
  obtain ⟨rfl, rfl⟩ := trodVars_none hV
  have k0 := h0
  have lt0 : ∀ x ∈ p0, x.block < W.heap.size := by obtain ⟨m, hm⟩ := k0; exact DataW.trod_lt m _ _ _ hm
  obtain ⟨cs0, hv0, _⟩ := okWide_struct Try.underlying25 (hval 0 25 v0 rfl rfl)
  subst hv0
  obtain ⟨x0, K0, W0⟩ : ∃ x : S25, k25.K W x cs0.toList ∧ ((Lit.int .i64 x.f0).wf = true ∧ (x.f1.length ≤ maxLen ∧ ∀ x0_ ∈ x.f1, ((Lit.int .i64 x0_.f0).wf = true ∧ (Lit.int .i64 x0_.f1).wf = true))) := by
    obtain ⟨fuel, hf⟩ := h0
    exact opn25 enc W 0 (fun _ => true) true fuel _ _ hf
  obtain ⟨A0_1, c0_1, E0, g0_1, C0_1⟩ := k25_open K0
  obtain ⟨cl0⟩ := cs0
  have E0' : cl0 = _ := E0
  subst E0'
  obtain ⟨a1, rfl, rfl, rfl, w1⟩ := open_int Try.underlying3 (hval 1 3 v1 rfl rfl) h1
  obtain ⟨a2, rfl, rfl, rfl, w2⟩ := open_int Try.underlying3 (hval 2 3 v2 rfl rfl) h2
  obtain ⟨a3, rfl, rfl, rfl, w3⟩ := open_int Try.underlying3 (hval 3 3 v3 rfl rfl) h3
  obtain ⟨k, hk⟩ := Pure.BeaconHears x0 a1 a2 a3 W0 w1 w2 w3
  clear hA0 hval0 hsz0
  refine (thalweglaw06_BeaconHears.calls (k := k) (a0_0 := x0.f0) (A0_1 := A0_1) (c0_1 := c0_1) (l0_1 := x0.f1) (a1 := a1) (a2 := a2) (a3 := a3) (r := true) (w := W) (hr0_1 := C0_1) (hc0_1 := g0_1) (h := hk)).mono fun e W' ⟨he, bel⟩ => ?_
  subst he
  exact ⟨_, rfl, _, _, _, [], _, [], hW', trodAll_mk1 (shut_bool Try.underlying4 _), (trodAll_cons_mk (Below.trod laidOut (by kernel_rfl) (of_decide_eq_true (by kernel_rfl)) k0 bel lt0) (trodAll_cons_mk (shut_int Try.underlying3 w1) (trodAll_cons_mk (shut_int Try.underlying3 w2) (trodAll_cons_mk (shut_int Try.underlying3 w3) trodAll_mk0)))), rfl, bel.frame _, fun h => by cases h⟩
theorem over : Rows.beaconHearsRow.holds Try.pinned (OpenSpec.ofChange Rows.beaconHearsSpec) :=
  OpenClaim.holds_of_wide 7 Try.f7 rfl rfl rfl rfl rfl rfl rfl ⟨rfl, rfl, rfl, rfl, rfl⟩ rfl rfl rfl rfl rfl (by kernel_rfl) Try.func7 (by kernel_rfl)
    (of_decide_eq_true (by kernel_rfl)) (by unfold Func.isWrapper; first | (rw [if_pos (by decide +kernel)]; kernel_rfl) | (rw [if_neg (by decide +kernel)]; exact ⟨rfl, rfl⟩))
    (fun os started H enc _ => lifted os started H enc)
theorem proved : Rows.BeaconHearsSaid := over
end Go.Proofs.Ytaiklcpmlkpfjaa.beaconHears
namespace Go.Proofs.Ytaiklcpmlkpfjaa
theorem beaconHears_holds : Rows.BeaconHearsSaid := beaconHears.proved
end Go.Proofs.Ytaiklcpmlkpfjaa
