/- The statement AckDoes, proved of the given program; it has no conditions. (Of many texts laid together) -/
import Derived.Test.YtolfbnkdmafomaaXAckDoesWWords
import Derived.Test.YtolfbnkdmafomaaXAckDoesWMore
import Derived.ProofKit
import Derived.OpenShut
import Derived.ChangeSame
import Derived.ChangeOld
import Derived.Deep.Slices
import Derived.Deep.Fields
import Derived.Test.YtolfbnkdmafomaaRows
import Derived.WalkKit
import Derived.ShutString
import Derived.Below
import Derived.SizedLaws
import Derived.Test.YtolfbnkdmafomaaXAckDoesa
import Derived.Test.YtolfbnkdmafomaaXAckDoesb
import Derived.Test.YtolfbnkdmafomaaXAckDoesc
set_option linter.unusedVariables false
set_option linter.unusedSimpArgs false
namespace Go.Proofs.Ytolfbnkdmafomaa.P
open Go.RowKit Go.Proofs.YtolfbnkdmafomaaW.PrintWords Go.Proofs.YtolfbnkdmafomaaW.PrintLast Go.Proofs.YtolfbnkdmafomaaW.PrintMore
attribute [local go_sem] max2_int min2_int max_two min_two max_three min_three max_four min_four   -- for this text's walks alone
def wire_Get.f (l0 : List Int) (a1 : Int) (a2 : Int) : Option (Int × Int × Int) := if a2 < 1 then (some (0, 0, 1)) else (if a2 > 7 then (some (0, 0, 1)) else ((wire_number.f l0 a1 a2).bind fun bt288 => (some (wrap64 (bt288.1), bt288.2.1, bt288.2.2))))
set_option maxHeartbeats 8000000 in
set_option maxRecDepth 100000 in
theorem wire_Get.calls (A0 : Option Addr) (c0 : Nat) (l0 : List Int) (a1 : Int) (a2 : Int) (r1 : Int) (r2 : Int) (r3 : Int) (w : World) (hr0 : Kd.C (Kd.int .u8) w A0 l0.length l0) (hc0 : l0.length ≤ c0) (h : wire_Get.f l0 a1 a2 = some (r1, r2, r3)) :
    Calls Try.prog 33 #[.slice A0 l0.length c0, .int .i64 a1, .int .i64 a2] w fun e w' => e = .returned (.tuple #[.int .i64 r1, .int .i64 r2, .int .i64 r3]) ∧ Below w.heap.size w w' := by
  have HR0 := Aside0.mk hr0
  have HC0 := Aside0.mk hc0
  clear hr0 hc0
  have HB := Aside0.mk (Below.refl w.heap.size w)
  have H : (if a2 < 1 then (some (0, 0, 1)) else (if a2 > 7 then (some (0, 0, 1)) else ((wire_number.f l0 a1 a2).bind fun bt288 => (some (wrap64 (bt288.1), bt288.2.1, bt288.2.2))))) = some (r1, r2, r3) := h
  clear h
  by_cases c4 : a2 < 1
  · rw [if_pos c4] at H
    have c4b0 : decide (a2 < 1) = true := decide_eq_true c4
    clear c4
    simp only [Option.some.injEq, Prod.mk.injEq] at H
    obtain ⟨rfl, rfl, rfl⟩ := H
    go_enter Try.func33, Try.ntmps33
    go_wp2
    go_ret3
    exact ⟨by first | rfl | (simp [errW_none, errW_some] <;> rfl) | (simp [*, errW_none, errW_some] <;> rfl), by repeat (first | (with_reducible first | exact HB.out | apply below_alloc | apply pw_below_drewN | apply below_drew1) | exact HB.out)⟩
  · rw [if_neg c4] at H
    have c4b0 : decide (a2 < 1) = false := decide_eq_false c4
    clear c4
    by_cases c5 : a2 > 7
    · rw [if_pos c5] at H
      have c5b0 : decide (7 < a2) = true := decide_eq_true c5
      clear c5
      simp only [Option.some.injEq, Prod.mk.injEq] at H
      obtain ⟨rfl, rfl, rfl⟩ := H
      go_enter Try.func33, Try.ntmps33
      go_wp2
      go_ret3
      exact ⟨by first | rfl | (simp [errW_none, errW_some] <;> rfl) | (simp [*, errW_none, errW_some] <;> rfl), by repeat (first | (with_reducible first | exact HB.out | apply below_alloc | apply pw_below_drewN | apply below_drew1) | exact HB.out)⟩
    · rw [if_neg c5] at H
      have c5b0 : decide (7 < a2) = false := decide_eq_false c5
      clear c5
      replace H := Option.bind_eq_some_iff.mp H
      obtain ⟨⟨t288, t289, t290⟩, A60, H⟩ := H
      replace H : (some (wrap64 (t288), t289, t290)) = some (r1, r2, r3) := H
      have A6 := Aside0.mk A60
      clear A60
      simp only [Option.some.injEq, Prod.mk.injEq] at H
      obtain ⟨rfl, rfl, rfl⟩ := H
      go_enter Try.func33, Try.ntmps33
      go_wp2_with (first | ((with_reducible refine gate_callee (f := 39) rfl ?_); refine goesL_ (some 22) rfl rfl Try.func39 (by kernel_rfl) rfl #[.slice A0 l0.length c0, .int .i64 a1, .int .i64 a2] rfl (by (try simp only [List.map_toArray, List.map_cons, List.map_nil]); first | done | rfl | (simp only [List.length_drop, List.length_take]; rfl)) ?_; (with_reducible refine (wire_number.calls _ _ l0 a1 a2 t288 t289 t290 _ ?side1 ?side2 A6.out).mono ?_); (case side1 => repeat (first | exact HR0.out | (with_reducible refine Kd.C_alloc ?_ _) | (with_reducible refine Kd.C_drewN ?_ _) | (with_reducible refine Kd.C_drew ?_))); (case side2 => exact HC0.out); rintro e w7 ⟨rfl, hb⟩; refine ⟨_, rfl, ?_⟩; have n0_ := Aside0.mk (below_step (by repeat (first | (with_reducible first | exact HB.out | apply below_alloc | apply pw_below_drewN | apply below_drew1) | exact HB.out)) hb); clear HB; have HB := n0_; clear n0_; (try clear hb); (try clear hb2); (try clear hk); (try clear hi)))
      go_ret3
      exact ⟨by first | rfl | (simp [errW_none, errW_some] <;> rfl) | (simp [*, errW_none, errW_some] <;> rfl), by repeat (first | (with_reducible first | exact HB.out | apply below_alloc | apply pw_below_drewN | apply below_drew1) | exact HB.out)⟩
end Go.Proofs.Ytolfbnkdmafomaa.P
namespace Go.Proofs.Ytolfbnkdmafomaa.P
open Go.RowKit Go.Proofs.YtolfbnkdmafomaaW.PrintWords Go.Proofs.YtolfbnkdmafomaaW.PrintLast Go.Proofs.YtolfbnkdmafomaaW.PrintMore
theorem wire_number_eq (l : List Int) (a n : Int) (hB : Bytes l) (hl : l.length ≤ 1000000000000) (h0 : 0 ≤ n) (h8 : n ≤ 8) : wire_number.f l a n = some (numSpec l a n) := by
  unfold wire_number.f
  rw [if_pos ⟨hl, h0, h8, hB⟩]
theorem numSpec_small (l : List Int) (a n : Int) (hB : Bytes l) (h7 : n ≤ 7) : 0 ≤ (numSpec l a n).1 ∧ (numSpec l a n).1 < 72057594037927936 := by
  unfold numSpec
  split
  · simp
  · split
    · simp
    · have hr := bev_range _ ((hB.drop a.toNat).take n.toNat)
      have hp : (256 : Int) ^ ((l.drop a.toNat).take n.toNat).length ≤ 256 ^ 7 := pow256_le _ _ (by rw [List.length_take]; omega)
      have e7 : (256 : Int) ^ 7 = 72057594037927936 := by decide
      exact ⟨hr.1, by show bev _ < _; omega⟩
theorem wire_Get_eq (l : List Int) (a n : Int) (hB : Bytes l) (hl : l.length ≤ 1000000000000) : wire_Get.f l a n = some (getSpec l a n) := by
  unfold wire_Get.f getSpec
  by_cases c : n < 1 ∨ 7 < n
  · rw [if_pos c]
    by_cases c1 : n < 1
    · rw [if_pos c1]
    · rw [if_neg c1, if_pos (show n > 7 by omega)]
  · rw [if_neg c]
    rw [if_neg (show ¬ n < 1 by omega), if_neg (show ¬ n > 7 by omega), wire_number_eq l a n hB hl (by omega) (by omega)]
    have hs := numSpec_small l a n hB (by omega)
    rw [Option.bind_some, w64 (by omega) (by omega)]
end Go.Proofs.Ytolfbnkdmafomaa.P
namespace Go.Proofs.Ytolfbnkdmafomaa.P
open Go.RowKit Go.Proofs.YtolfbnkdmafomaaW.PrintWords Go.Proofs.YtolfbnkdmafomaaW.PrintLast Go.Proofs.YtolfbnkdmafomaaW.PrintMore
attribute [local go_sem] max2_int min2_int max_two min_two max_three min_three max_four min_four
def apSz : Nat → Int
  | 0 => 1 | 1 => 4 | _ => 2
def apF (l : List Int) : Nat → S24 → Int → S24 × Int × Int
  | 0, x, at_ => (x, at_, 0)
  | d + 1, x, at_ => if (getSpec l at_ (apSz (3 - d))).2.2 = 0 then apF l d (putF (3 - d) (getSpec l at_ (apSz (3 - d))).1 x) (getSpec l at_ (apSz (3 - d))).2.1 else (x, 0, (getSpec l at_ (apSz (3 - d))).2.2)
def apL (l : List Int) : Nat → List S24 → Int → List S24 × Int × Int
  | 0, done, at_ => if RA done then (done, at_, 0) else ([], 0, 4)
  | m + 1, done, at_ => if (apF l 4 z24 at_).2.2 = 0 then apL l m (done ++ [(apF l 4 z24 at_).1]) (apF l 4 z24 at_).2.1 else ([], 0, (apF l 4 z24 at_).2.2)
def apSpec (l : List Int) (a : Int) : List S24 × Int × Int := if (getSpec l a 1).2.2 = 0 then apL l (getSpec l a 1).1.toNat [] (getSpec l a 1).2.1 else ([], 0, (getSpec l a 1).2.2)
def ack_Parse.f (l : List Int) (a : Int) : Option (List S24 × Int × Int) := if l.length ≤ 1000000000000 ∧ ∀ x ∈ l, 0 ≤ x ∧ x ≤ 255 then some (apSpec l a) else none
theorem get1_range (l : List Int) (a : Int) (hB : Bytes l) : 0 ≤ (getSpec l a 1).1 ∧ (getSpec l a 1).1 ≤ 255 := by
  unfold getSpec numSpec
  rw [if_neg (by omega)]
  split
  · decide
  split
  · decide
  have hr := bev_range _ ((hB.drop a.toNat).take (1 : Int).toNat)
  have hp := pow256_le ((l.drop a.toNat).take (1 : Int).toNat).length 1 (by rw [List.length_take]; exact Nat.min_le_left _ _)
  rw [show (256 : Int) ^ 1 = 256 by decide] at hp
  exact ⟨hr.1, by show bev _ ≤ 255; omega⟩
theorem ack_made (W : World) (m : Nat) (hm : m ≤ 1000) :
    (Instr.makeSlice 33 (.int .i64 (m : Int)) (.int .i64 (m : Int))).run Try.prog W = .ok (.slice (some ⟨W.heap.size, 0, none⟩) m m) (W.alloc (.cells (rowC (List.replicate m z24)).toArray 24 (0, 0))) := by
  obtain ⟨i0, hi, hzz⟩ := Option.map_eq_some_iff.1 info24
  simp only [Prod.mk.injEq] at hzz
  obtain ⟨hz0, hz1, hz2⟩ := hzz
  have hr := run_make (P := Try.prog) W 33 24 i0 (.agg #[(.int .i64 0), (.int .i64 0), (.int .i64 0), (.int .i64 0)]) Try.underlying33 hi hz0 .i64 .i64 (m : Int) (m : Int) (by omega) (by omega) (by rw [hz2]; omega) (by omega)
  simp only [Int.toNat_natCast] at hr
  rw [hz1] at hr
  rw [← rowC_made]
  exact hr
theorem fld_cells {W : World} {gf g o jn : Nat} {ad : Addr} {j : Int} (BF : W.heap[gf]? = some (.cells (FldC g o) 60 (0, 0))) (had : ad = ⟨gf, 0, none⟩) (hk : jn < 4) (hj : j.toNat = jn) :
    W.cell? (ad.add (j.toNat * 2)) = some (.pointer (some ⟨g, o + jn, none⟩)) ∧ W.cell? ⟨(ad.add (j.toNat * 2)).block, (ad.add (j.toNat * 2)).off + 1, none⟩ = some (.int .i64 (apSz jn)) := by
  have hl : (FldC g o)[jn * 2]? = some (.pointer (some ⟨g, o + jn, none⟩)) ∧ (FldC g o)[jn * 2 + 1]? = some (.int .i64 (apSz jn)) := by
    obtain rfl | rfl | rfl | rfl : jn = 0 ∨ jn = 1 ∨ jn = 2 ∨ jn = 3 := by omega
    all_goals exact ⟨rfl, rfl⟩
  refine ⟨?_, ?_⟩
  · rw [had, add_plain, hj, blk_cell BF, hl.1]
  · rw [had, add_plain, hj, blk_cell BF, hl.2]
def ack_Parse.T11 : Bool × List (List Nat × List Nat) := (true, [([], []), ([0], [0]), ([], []), ([], []), ([], []), ([4], [4]), ([2, 3, 5], [2, 3, 5]), ([6], [6]), ([7], [7]), ([7], [7]), ([7], [7]), ([1, 0, 1, 2, 3, 4, 5, 6, 7, 8], [1]), ([11, 8, 6, 0, 1, 2, 3, 4, 5, 6, 7, 8], [8, 11]), ([9, 12, 0, 1, 2, 3, 4, 5, 6, 7, 8, 9, 11, 12], [3, 9]), ([10, 13, 0, 1, 2, 3, 4, 5, 6, 7, 8, 9, 10, 11, 12, 13], [10])])
def ack_Parse.B11 : List Nat := [0, 1, 0, 0, 0, 16, 60, 124, 252, 252, 252, 511, 2559, 7167, 16383]
theorem ack_Parse.tab11 : rtab .any (opsOf Try.f20 11) = ack_Parse.T11 := by kernel_rfl
theorem ack_Parse.bits11 : waitsOk ack_Parse.T11.2 ack_Parse.B11 = true := by kernel_rfl
set_option maxHeartbeats 8000000 in
set_option maxRecDepth 100000 in
theorem ack_Parse.calls (A0 : Option Addr) (c0 : Nat) (l0 : List Int) (a1 : Int) (r1 : List S24) (r2 : Int) (r3 : Int) (w : World) (hr0 : Kd.C (Kd.int .u8) w A0 l0.length l0) (hc0 : l0.length ≤ c0) (h : ack_Parse.f l0 a1 = some (r1, r2, r3)) :
    Calls Try.prog 20 #[.slice A0 l0.length c0, .int .i64 a1] w fun e w' => ∃ v0_ : Value, e = .returned (.tuple #[v0_, .int .i64 r2, .int .i64 r3]) ∧ Kd.R k24 24 w' w.heap.size (fun _ => True) v0_ r1 ∧ Below w.heap.size w w' := by
  obtain ⟨hL0, hB0, hP⟩ : l0.length ≤ 1000000000000 ∧ Bytes l0 ∧ apSpec l0 a1 = (r1, r2, r3) := by
    unfold ack_Parse.f at h
    split at h
    · rename_i hc
      exact ⟨hc.1, hc.2, Option.some.inj h⟩
    · exact absurd h (by simp)
  have hu24 := Try.underlying24
  have hu60 := Try.underlying60
  have HL := Aside0.mk hL0
  have HY := Aside0.mk hB0
  have HR0 := Aside0.mk hr0
  have HC0 := Aside0.mk hc0
  have HB := Aside0.mk (Below.refl w.heap.size w)
  unfold apSpec at hP
  have hr := get1_range l0 a1 hB0
  obtain ⟨t0, t1, t2, hG⟩ : ∃ t0 t1 t2, getSpec l0 a1 1 = (t0, t1, t2) := ⟨_, _, _, rfl⟩
  have HG := Aside0.mk (show wire_Get.f l0 a1 1 = some (t0, t1, t2) by rw [wire_Get_eq _ _ _ hB0 hL0, hG])
  rw [hG] at hP hr
  simp only at hP hr
  obtain ⟨m, rfl⟩ := Int.eq_ofNat_of_zero_le hr.1
  have hm : m ≤ 255 := by omega
  rw [Int.toNat_natCast] at hP
  clear h hL0 hB0 hr0 hc0 hr hG
  by_cases c : t2 = 0
  case neg =>
    rw [if_neg c] at hP
    have e1 : (t2 != 0) = true := bne_iff_ne.mpr c
    simp only [Prod.mk.injEq] at hP
    obtain ⟨rfl, rfl, rfl⟩ := hP
    clear c
    go_enter Try.func20, Try.ntmps20
    go_wp2_with (((with_reducible refine gate_callee (f := 33) rfl ?_); refine goesL_ (some 16) rfl rfl Try.func33 (by kernel_rfl) rfl #[.slice A0 l0.length c0, .int .i64 a1, .int .i64 1] rfl (by (try simp only [List.map_toArray, List.map_cons, List.map_nil]); first | done | rfl) ?_; (with_reducible refine (wire_Get.calls A0 c0 l0 a1 1 _ t1 t2 _ ?side1 HC0.out HG.out).mono ?_); (case side1 => exact HR0.out); rintro e w2 ⟨rfl, hb2⟩; refine ⟨_, rfl, ?_⟩; have HB2 := Aside0.mk hb2; clear hb2))
    go_ret3
    exact ⟨_, rfl, Kd.R_nil _ _ _ _ _, HB2.out⟩
  subst c
  rw [if_pos rfl] at hP
  have HP := Aside0.mk hP
  clear hP
  have HM := Aside0.mk hm
  clear hm
  go_enter Try.func20, Try.ntmps20
  go_wp2_with (first
    | ((with_reducible refine gate_callee (f := 33) rfl ?_); refine goesL_ (some 16) rfl rfl Try.func33 (by kernel_rfl) rfl #[.slice A0 l0.length c0, .int .i64 a1, .int .i64 1] rfl (by (try simp only [List.map_toArray, List.map_cons, List.map_nil]); first | done | rfl) ?_; (with_reducible refine (wire_Get.calls A0 c0 l0 a1 1 _ t1 0 _ ?side1 HC0.out HG.out).mono ?_); (case side1 => exact HR0.out); rintro e w2 ⟨rfl, hb2⟩; refine ⟨_, rfl, ?_⟩; have HB2 := Aside0.mk hb2; clear hb2)
    | ((with_reducible refine gate_dst (N := 24) rfl ?_); refine lit_event ?hg (N := 24) ?hd (cs := (rowC (List.replicate m z24)).toArray) (t := 24) (n := m) ?hr ?_; (case hd => rfl); (case hg => rfl); (case hr => (simp [execOp, Act.eval, ack_made _ m (Nat.le_trans HM.out (by decide))])); intro gl hg ad had w3 hbox hb; have HB3 := Aside0.mk (below_step HB2.out hb); have BL := Aside0.mk hbox; have GL := Aside0.mk (show w.heap.size ≤ gl by rw [hg]; exact below_size HB2.out); have HAD := Aside0.mk had; clear hb hbox hg had))
  obtain ⟨W0, hW0⟩ : ∃ x, x = w3 := ⟨_, rfl⟩
  go_loopg [1, 27] m (fun kq v1 v27 w' => ∃ (dn : List S24) (at_ i : Int), v1 = .int .i64 at_ ∧ v27 = .int .i64 i ∧ Aside0 (i = (dn.length : Int) ∧ dn.length + kq = m) ∧ Aside0 (apL l0 kq dn at_ = (r1, r2, r3)) ∧ Aside0 (w'.heap[gl]? = some (.cells (rowC (dn ++ List.replicate kq z24)).toArray 24 (0, 0))) ∧ Aside0 (Below w.heap.size w w'))
  case atStart => exact ⟨[], t1, 0, rfl, rfl, ⟨rfl, by simp⟩, HP, ⟨by rw [List.nil_append]; exact BL.out⟩, HB3⟩
  case round =>
    clear HP BL HB3 HB2 hW0 W0
    obtain ⟨dn, at_, i, rfl, rfl, HI, HP, BL, HB⟩ := hrel
    cases gk with
    | zero =>
      have hp := HP.out
      have hi := HI.out
      have hm := HM.out
      simp only [apL] at hp
      have bl := BL.out
      rw [List.replicate_zero, List.append_nil] at bl
      have hdn : dn.length = m := by omega
      have hR := R_of_row bl GL.out (by omega)
      rw [hdn] at hR
      obtain ⟨K1, hK1⟩ := (acheck_ev dn (by omega)).rounds
      have HK1 := Aside0.mk hK1
      have HRR := Aside0.mk hR
      have b0 : decide (i < (m : Int)) = false := decide_eq_false (by omega)
      clear hi bl hR hK1 HI
      have HDN := Aside0.mk hdn
      clear hdn hm
      by_cases c : RA dn
      · rw [if_pos c] at hp
        simp only [Prod.mk.injEq] at hp
        obtain ⟨rfl, rfl, rfl⟩ := hp
        have hk1 := HK1.out
        rw [if_pos c] at hk1
        have HK2 := Aside0.mk hk1
        clear hk1 HK1 HP c
        go_wp2_with (((with_reducible refine gate_callee (f := 16) rfl ?_); refine goesL_ (some 57) rfl rfl Try.func16 (by kernel_rfl) rfl #[.slice (some ad) m m] rfl (by (try simp only [List.map_toArray, List.map_cons, List.map_nil]); first | done | rfl) ?_; rw [← HDN.out]; (with_reducible refine (ack_Check.calls K1 (some ad) dn.length dn _ _ ?side1 (Nat.le_refl _) HK2.out).mono ?_); (case side1 => have h_ := HRR.out; rw [← HDN.out, ← HAD.out] at h_; exact (Kd.R_reads' h_).2.2); rintro e w5 ⟨rfl, hb5⟩; refine ⟨_, rfl, ?_⟩; have HB5 := Aside0.mk (below_step HB.out hb5); have HR5 := Aside0.mk (Kd.R_below HRR.out hb5); clear hb5))
        go_ret3
        exact ⟨_, rfl, (by have h_ := HR5.out; rw [← HDN.out, ← HAD.out] at h_; exact h_), HB5.out⟩
      · rw [if_neg c] at hp
        simp only [Prod.mk.injEq] at hp
        obtain ⟨rfl, rfl, rfl⟩ := hp
        have hk1 := HK1.out
        rw [if_neg c] at hk1
        have HK2 := Aside0.mk hk1
        clear hk1 HK1 HP c
        go_wp2_with (((with_reducible refine gate_callee (f := 16) rfl ?_); refine goesL_ (some 57) rfl rfl Try.func16 (by kernel_rfl) rfl #[.slice (some ad) m m] rfl (by (try simp only [List.map_toArray, List.map_cons, List.map_nil]); first | done | rfl) ?_; rw [← HDN.out]; (with_reducible refine (ack_Check.calls K1 (some ad) dn.length dn _ _ ?side1 (Nat.le_refl _) HK2.out).mono ?_); (case side1 => have h_ := HRR.out; rw [← HDN.out, ← HAD.out] at h_; exact (Kd.R_reads' h_).2.2); rintro e w5 ⟨rfl, hb5⟩; refine ⟨_, rfl, ?_⟩; have HB5 := Aside0.mk (below_step HB.out hb5); have HR5 := Aside0.mk (Kd.R_below HRR.out hb5); clear hb5))
        go_ret3
        exact ⟨_, rfl, Kd.R_nil _ _ _ _ _, HB5.out⟩
    | succ k1 =>
      have hp := HP.out
      simp only [apL] at hp
      have hi := HI.out
      have hm := HM.out
      have p0 : 0 ≤ i := by omega
      have q0 : i < (m : Int) := by omega
      have b0 : decide (i < (m : Int)) = true := decide_eq_true q0
      have p0' := eq_true p0
      have q0' := eq_true q0
      have hit : i.toNat = dn.length := by omega
      have HIT := Aside0.mk hit
      have HPP := Aside0.mk hp
      have bl := BL.out
      rw [List.replicate_succ] at bl
      have BL1 := Aside0.mk bl
      clear hit hp hi hm HP bl BL
      go_wp2_with (((with_reducible refine gate_callee (f := 27) rfl ?_); refine goesL_ (some 33) rfl rfl Try.func27 (by kernel_rfl) rfl #[.pointer (some ⟨gl, dn.length * 4, none⟩)] rfl (by (try simp only [List.map_toArray, List.map_cons, List.map_nil]); rw [← HIT.out, ← add_plain, ← HAD.out]; first | done | rfl) ?_; (with_reducible refine (ack_fields.calls gl (dn.length * 4) _).mono ?_); rintro e w4 ⟨gf, adf, hadf, rfl, hgf, hbf, hb4⟩; refine ⟨_, rfl, ?_⟩; have HB4 := Aside0.mk (below_step HB.out hb4); have GF := Aside0.mk (show w.heap.size ≤ gf from Nat.le_trans (below_size HB.out) hgf); have BF := Aside0.mk hbf; have HADF := Aside0.mk hadf; have BL4 := Aside0.mk (blk_below BL1.out hb4); have NLF := Aside0.mk (show gl ≠ gf from Nat.ne_of_lt (Nat.lt_of_lt_of_le (blk_lt BL1.out) hgf)); clear hgf hbf hadf hb4))
      obtain ⟨rx, rat, re, hF⟩ : ∃ rx rat re, apF l0 4 z24 at_ = (rx, rat, re) := ⟨_, _, _, rfl⟩
      have HF := Aside0.mk hF
      have hpp := HPP.out
      rw [hF] at hpp
      simp only at hpp
      have HPQ := Aside0.mk hpp
      clear hF hpp HPP BL1 b0 p0 q0 p0' q0'
      go_loopg [1, 35] 4 (fun kq v1 v35 w' => ∃ (x : S24) (at2 j : Int), v1 = .int .i64 at2 ∧ v35 = .int .i64 j ∧ Aside0 (0 ≤ j ∧ j + kq = 4) ∧ Aside0 (apF l0 kq x at2 = (rx, rat, re)) ∧ Aside0 (w'.heap[gl]? = some (.cells (rowC (dn ++ x :: List.replicate k1 z24)).toArray 24 (0, 0))) ∧ Aside0 (w'.heap[gf]? = some (.cells (FldC gl (dn.length * 4)) 60 (0, 0))) ∧ Aside0 (Below w.heap.size w w'))
      case atStart => exact ⟨z24, at_, 0, rfl, rfl, ⟨by omega⟩, HF, BL4, BF, HB4⟩
      case round =>
        clear HF BL4 BF HB4 HB
        obtain ⟨x, at2, j, rfl, rfl, HJ, HF, BL, BF, HB⟩ := hrel
        cases gk with
        | zero =>
          have hf := HF.out
          simp only [apF, Prod.mk.injEq] at hf
          obtain ⟨rfl, rfl, rfl⟩ := hf
          obtain rfl : j = 4 := by have := HJ.out; omega
          have hq := HPQ.out
          rw [if_pos rfl] at hq
          have HQ := Aside0.mk hq
          have hi0 : 0 ≤ i := by have := HI.out; omega
          have hi1 : i ≤ 255 := by have := HI.out; have := HM.out; omega
          clear hq HPQ HF HJ
          go_wp2
          go_roundg k1
          case measure => have := HI.out; omega
          case rel =>
            have hi := HI.out
            refine ⟨dn ++ [x], at2, i + 1, rfl, rfl, ⟨?_⟩, HQ, ⟨?_⟩, HB⟩
            · rw [List.length_append, List.length_singleton]; omega
            · rw [List.append_assoc]; exact BL.out
        | succ d =>
          have hj4 : d ≤ 3 := by have := HJ.out; omega
          have hjt : j.toNat = 3 - d := by have := HJ.out; omega
          have hf := HF.out
          simp only [apF] at hf
          obtain ⟨s1, s2, s3, hG⟩ : ∃ s1 s2 s3, getSpec l0 at2 (apSz (3 - d)) = (s1, s2, s3) := ⟨_, _, _, rfl⟩
          rw [hG] at hf
          simp only at hf
          have HG2 := Aside0.mk (show wire_Get.f l0 at2 (apSz (3 - d)) = some (s1, s2, s3) by rw [wire_Get_eq _ _ _ HY.out HL.out, hG])
          obtain ⟨jn, hjn⟩ : ∃ n, n = 3 - d := ⟨_, rfl⟩
          rw [← hjn] at hf HG2 hjt
          have hj3 : jn < 4 := by omega
          obtain ⟨cA, cB⟩ := fld_cells BF.out HADF.out hj3 hjt
          obtain ⟨pa, hpa⟩ : ∃ p : Addr, p = ⟨gl, dn.length * 4 + jn, none⟩ := ⟨_, rfl⟩
          rw [← hpa] at cA
          obtain ⟨sz, hsz⟩ : ∃ s, s = apSz jn := ⟨_, rfl⟩
          rw [← hsz] at HG2 cB
          have HPA := Aside0.mk hpa
          have HF2 := Aside0.mk hf
          have HJN := Aside0.mk (show jn < 4 ∧ jn = 3 - d ∧ d ≤ 3 from ⟨hj3, hjn, hj4⟩)
          have p0 : 0 ≤ j := HJ.out.1
          have q0 : j < 4 := by have := HJ.out; omega
          have b0 : decide (j < 4) = true := decide_eq_true q0
          have p0' := eq_true p0
          have q0' := eq_true q0
          clear hj4 hjt hf hG hjn hj3 hpa hsz HF
          go_upto_region 11 with (((with_reducible refine gate_dst (N := 12) rfl ?_); refine box_event ?hg (N := 12) ?hd (cs := #[.pointer none, .int .i64 0]) (t := 60) ?hr ?_; (case hd => rfl); (case hg => rfl); (case hr => first | (go_simp; done) | (go_simp; rfl)); intro gb hg w6 hbox hb; have HW := Aside0.mk hb; have GB := Aside0.mk (Nat.le_of_eq hg.symm); have BX := Aside0.mk hbox; clear hb hbox hg; have u0 : w6.cell? ⟨gb, 0, none⟩ = some (.pointer none) := (blk_cell BX.out 0).trans rfl; have u1 : w6.cell? ⟨gb, 1, none⟩ = some (.int .i64 0) := (blk_cell BX.out 1).trans rfl; have uf0 := blk_frozen BX.out 0; have uf1 := blk_frozen BX.out 1))
          have BX2 := Aside0.mk (show ((w6.setCell ⟨gb, 0, none⟩ (.pointer (some pa))).setCell ⟨gb, 1, none⟩ (.int .i64 sz)).heap[gb]? = some (.cells #[.pointer (some pa), .int .i64 sz] 60 (0, 0)) by refine blk_put (cs := #[.pointer (some pa), .int .i64 0]) ?_ 1 _ rfl; refine blk_put (cs := #[.pointer none, .int .i64 0]) ?_ 0 _ rfl; exact BX.out)
          have HB6 := Aside0.mk (show Below w.heap.size w ((w6.setCell ⟨gb, 0, none⟩ (.pointer (some pa))).setCell ⟨gb, 1, none⟩ (.int .i64 sz)) from below_set (below_set (below_step HB.out HW.out) (Nat.le_trans (below_size HB.out) GB.out)) (Nat.le_trans (below_size HB.out) GB.out))
          have hnl : gl ≠ gb := Nat.ne_of_lt (Nat.lt_of_lt_of_le (blk_lt BL.out) GB.out)
          have hnf : gf ≠ gb := Nat.ne_of_lt (Nat.lt_of_lt_of_le (blk_lt BF.out) GB.out)
          have BL6 := Aside0.mk (show ((w6.setCell ⟨gb, 0, none⟩ (.pointer (some pa))).setCell ⟨gb, 1, none⟩ (.int .i64 sz)).heap[gl]? = _ from blk_far (p := ⟨gb, 1, none⟩) (blk_far (p := ⟨gb, 0, none⟩) (blk_below BL.out HW.out) hnl _) hnl _)
          have BF6 := Aside0.mk (show ((w6.setCell ⟨gb, 0, none⟩ (.pointer (some pa))).setCell ⟨gb, 1, none⟩ (.int .i64 sz)).heap[gf]? = _ from blk_far (p := ⟨gb, 1, none⟩) (blk_far (p := ⟨gb, 0, none⟩) (blk_below BF.out HW.out) hnf _) hnf _)
          clear hnl hnf u0 u1 uf0 uf1 BX HW HB
          generalize ((w6.setCell ⟨gb, 0, none⟩ (.pointer (some pa))).setCell ⟨gb, 1, none⟩ (.int .i64 sz)) = wq at BX2 HB6 BL6 BF6 ⊢
          refine start_ (n := 15) (S := fun w' => w'.cell? ⟨gb, 0, none⟩ = some (.pointer (some pa)) ∧ w'.cell? ⟨gb, 1, none⟩ = some (.int .i64 sz)) (ds := [12]) #[false, false, false, false, false, false, false, false, false, false, false, false, false, false, false] (by kernel_rfl) rfl rfl ⟨(blk_cell BX2.out 0).trans rfl, (blk_cell BX2.out 1).trans rfl⟩ (fun hHeld => ?_); refine with_tabW ack_Parse.tab11 ack_Parse.bits11 (fun HT_ HW_ => ?_)
          refine pure_ (i := 0) (N := some 40) (v := ?_) (a' := ?_) #[true, false, false, false, false, false, false, false, false, false, false, false, false, false, false] rfl rfl (any_of HT_.out (by kernel_rfl)) (fun _ _ _ h => h) (Or.inl ⟨by rfl, ?_⟩) ?_ ?_
          rotate_left
          · intro w'
            go_simp
            with_reducible rfl
          rotate_left
          · simp only [Act.put, List.setIfInBounds_toArray, List.set_cons_zero, List.set_cons_succ, i64_w, i32_w]
            rfl
          refine pure_ (i := 2) (N := some 42) (v := ?_) (a' := ?_) #[true, false, true, false, false, false, false, false, false, false, false, false, false, false, false] rfl rfl (any_of HT_.out (by kernel_rfl)) (fun _ _ _ h => h) (Or.inl ⟨by rfl, ?_⟩) ?_ ?_
          rotate_left
          · intro w'
            go_simp
            with_reducible rfl
          rotate_left
          · simp only [Act.put, List.setIfInBounds_toArray, List.set_cons_zero, List.set_cons_succ, i64_w, i32_w]
            rfl
          refine pure_ (i := 3) (N := some 43) (v := ?_) (a' := ?_) #[true, false, true, true, false, false, false, false, false, false, false, false, false, false, false] rfl rfl (any_of HT_.out (by kernel_rfl)) (fun _ _ _ h => h) (Or.inl ⟨by rfl, ?_⟩) ?_ ?_
          rotate_left
          · intro w'
            go_simp
            with_reducible rfl
          rotate_left
          · simp only [Act.put, List.setIfInBounds_toArray, List.set_cons_zero, List.set_cons_succ, i64_w, i32_w]
            rfl
          refine pure_ (i := 4) (N := some 44) (v := ?_) (a' := ?_) #[true, false, true, true, true, false, false, false, false, false, false, false, false, false, false] rfl rfl (any_of HT_.out (by kernel_rfl)) (fun _ _ _ h => h) (Or.inl ⟨by rfl, ?_⟩) ?_ ?_
          rotate_left
          · intro w'
            go_simp
            with_reducible rfl
          rotate_left
          · simp only [Act.put, List.setIfInBounds_toArray, List.set_cons_zero, List.set_cons_succ, i64_w, i32_w]
            rfl
          refine take_ (i := 1) (N := some 41) (v := ?_) (a' := ?_) #[true, true, true, true, true, false, false, false, false, false, false, false, false, false, false] rfl rfl (take_ofW HT_.out HW_.out (by kernel_rfl)) (fun _ _ _ h => h) (Or.inl ⟨by rfl, ?_⟩) hHeld ?_ ?_
          rotate_left
          · rintro w' ⟨s0, s1⟩
            go_simp
            with_reducible rfl
          rotate_left
          · simp only [Act.put, List.setIfInBounds_toArray, List.set_cons_zero, List.set_cons_succ, i64_w, i32_w]
            rfl
          refine take_ (i := 5) (N := some 45) (v := ?_) (a' := ?_) #[true, true, true, true, true, true, false, false, false, false, false, false, false, false, false] rfl rfl (take_ofW HT_.out HW_.out (by kernel_rfl)) (fun _ _ _ h => h) (Or.inl ⟨by rfl, ?_⟩) hHeld ?_ ?_
          rotate_left
          · rintro w' ⟨s0, s1⟩
            go_simp
            with_reducible rfl
          rotate_left
          · simp only [Act.put, List.setIfInBounds_toArray, List.set_cons_zero, List.set_cons_succ, i64_w, i32_w]
            rfl
          refine one_ (i := 6) (N := some 46) #[true, true, true, true, true, true, true, false, false, false, false, false, false, false, false] rfl rfl (one_of HT_.out (by kernel_rfl)) (by decide) (fun K hK => ?_)
          refine goes_ Try.func33 (by kernel_rfl) rfl #[.slice A0 l0.length c0, .int .i64 at2, .int .i64 sz] (by rfl) rfl rfl (by simp only [List.map_toArray, List.map_cons, List.map_nil]; rfl) ?_
          with_reducible refine (wire_Get.calls A0 c0 l0 at2 sz s1 s2 s3 _ (Kd.C_below HR0.out (below_drew HB6.out)) HC0.out HG2.out).mono ?_
          rintro e w7 ⟨rfl, hb7⟩
          refine ⟨_, rfl, ?_⟩
          have HB7 := Aside0.mk (below_step (below_drew HB6.out) hb7)
          have BL7 := Aside0.mk (blk_below (w := wq.drew) BL6.out hb7)
          have BF7 := Aside0.mk (blk_below (w := wq.drew) BF6.out hb7)
          have BX7 := Aside0.mk (blk_below (w := wq.drew) BX2.out hb7)
          clear hb7
          have cp : w7.cell? pa = some (.int .i64 (getF jn x)) := by rw [HPA.out, blk_cell BL7.out]; exact rowC_get _ _ _ _ HJN.out.1
          have fp : w7.frozen? pa = false := by rw [HPA.out]; exact blk_frozen BL7.out _
          refine hK.out _ _ ⟨(blk_cell BX7.out 0).trans rfl, (blk_cell BX7.out 1).trans rfl⟩ (fun hHeld => ?_)
          clear hK K
          refine norm_ (a' := ?_) ?_ ?_
          rotate_left
          · show Act.put _ (some 46) _ = _
            simp only [Act.put, List.setIfInBounds_toArray, List.set_cons_zero, List.set_cons_succ, i64_w, i32_w]
            rfl
          refine pure_ (i := 7) (N := some 39) (v := ?_) (a' := ?_) #[true, true, true, true, true, true, true, true, false, false, false, false, false, false, false] rfl rfl (any_of HT_.out (by kernel_rfl)) (fun _ _ _ h => h) (Or.inl ⟨by rfl, ?_⟩) ?_ ?_
          rotate_left
          · intro w'
            go_simp
            with_reducible rfl
          rotate_left
          · simp only [Act.put, List.setIfInBounds_toArray, List.set_cons_zero, List.set_cons_succ, i64_w, i32_w]
            rfl
          refine pure_ (i := 8) (N := some 47) (v := ?_) (a' := ?_) #[true, true, true, true, true, true, true, true, true, false, false, false, false, false, false] rfl rfl (any_of HT_.out (by kernel_rfl)) (fun _ _ _ h => h) (Or.inl ⟨by rfl, ?_⟩) ?_ ?_
          rotate_left
          · intro w'
            go_simp
            with_reducible rfl
          rotate_left
          · simp only [Act.put, List.setIfInBounds_toArray, List.set_cons_zero, List.set_cons_succ, i64_w, i32_w]
            rfl
          refine pure_ (i := 9) (N := some 48) (v := ?_) (a' := ?_) #[true, true, true, true, true, true, true, true, true, true, false, false, false, false, false] rfl rfl (any_of HT_.out (by kernel_rfl)) (fun _ _ _ h => h) (Or.inl ⟨by rfl, ?_⟩) ?_ ?_
          rotate_left
          · intro w'
            go_simp
            with_reducible rfl
          rotate_left
          · simp only [Act.put, List.setIfInBounds_toArray, List.set_cons_zero, List.set_cons_succ, i64_w, i32_w]
            rfl
          refine pure_ (i := 10) (N := some 49) (v := ?_) (a' := ?_) #[true, true, true, true, true, true, true, true, true, true, true, false, false, false, false] rfl rfl (any_of HT_.out (by kernel_rfl)) (fun _ _ _ h => h) (Or.inl ⟨by rfl, ?_⟩) ?_ ?_
          rotate_left
          · intro w'
            go_simp
            with_reducible rfl
          rotate_left
          · simp only [Act.put, List.setIfInBounds_toArray, List.set_cons_zero, List.set_cons_succ, i64_w, i32_w]
            rfl
          refine pure_ (i := 11) (N := some 50) (v := ?_) (a' := ?_) #[true, true, true, true, true, true, true, true, true, true, true, true, false, false, false] rfl rfl (any_of HT_.out (by kernel_rfl)) (fun _ _ _ h => h) (Or.inl ⟨by rfl, ?_⟩) ?_ ?_
          rotate_left
          · intro w'
            go_simp
            with_reducible rfl
          rotate_left
          · simp only [Act.put, List.setIfInBounds_toArray, List.set_cons_zero, List.set_cons_succ, i64_w, i32_w]
            rfl
          refine last_ (i := 12) (N := none) #[true, true, true, true, true, true, true, true, true, true, true, true, true, false, false] rfl rfl (one_of HT_.out (by kernel_rfl)) (by decide) (fun K hK => ?_)
          refine skip_ (w1 := ?_) (by rfl) rfl ?_ ?_
          rotate_left
          · go_simp
            rfl
          refine hK.out _ _ ?_
          clear hK K
          refine pure_ (i := 13) (N := some 1) (v := ?_) (a' := ?_) #[true, true, true, true, true, true, true, true, true, true, true, true, true, true, false] rfl rfl (any_of HT_.out (by kernel_rfl)) (fun _ _ _ h => h) (Or.inl ⟨by rfl, ?_⟩) ?_ ?_
          rotate_left
          · intro w'
            go_simp
            with_reducible rfl
          rotate_left
          · simp only [Act.put, List.setIfInBounds_toArray, List.set_cons_zero, List.set_cons_succ, i64_w, i32_w]
            rfl
          refine pure_ (i := 14) (N := some 8) (v := ?_) (a' := ?_) #[true, true, true, true, true, true, true, true, true, true, true, true, true, true, true] rfl rfl (any_of HT_.out (by kernel_rfl)) (fun _ _ _ h => h) (Or.inl ⟨by rfl, ?_⟩) ?_ ?_
          rotate_left
          · intro w'
            go_simp
            with_reducible rfl
          rotate_left
          · simp only [Act.put, List.setIfInBounds_toArray, List.set_cons_zero, List.set_cons_succ, i64_w, i32_w]
            rfl
          refine done_ (done_of HT_.out (by kernel_rfl)) ?_
          clear HT_ HW_
          try go_wp2
          · rename_i hs3
            have hz : ¬ s3 = 0 := by simpa using hs3
            have hf2 := HF2.out
            rw [if_neg hz] at hf2
            simp only [Prod.mk.injEq] at hf2
            obtain ⟨-, -, rfl⟩ := hf2
            have hq := HPQ.out
            rw [if_neg hz] at hq
            simp only [Prod.mk.injEq] at hq
            obtain ⟨rfl, rfl, rfl⟩ := hq
            go_ret3
            refine ⟨_, rfl, Kd.R_nil _ _ _ _ _, ?_⟩
            rw [HPA.out]
            exact below_set HB7.out GL.out
          · rename_i hs3
            have hz : s3 = 0 := by simpa using hs3
            have hf2 := HF2.out
            rw [if_pos hz] at hf2
            have HF3 := Aside0.mk hf2
            clear hf2 HF2 hs3 hz
            go_roundg d
            case measure => omega
            case rel =>
              have hj := HJ.out
              have hjn := HJN.out
              refine ⟨putF jn s1 x, s2, j + 1, rfl, rfl, ⟨by omega⟩, HF3, ⟨?_⟩, ⟨?_⟩, ⟨?_⟩⟩
              · rw [HPA.out, blk_set BL7.out, rowC_set _ _ _ _ hjn.1]
              · refine blk_far BF7.out ?_ _
                rw [HPA.out]
                exact NLF.out.symm
              · rw [HPA.out]
                exact below_set HB7.out GL.out
end Go.Proofs.Ytolfbnkdmafomaa.P
namespace Go.Proofs.Ytolfbnkdmafomaa.P
open Go.RowKit Go.Proofs.YtolfbnkdmafomaaW.PrintWords Go.Proofs.YtolfbnkdmafomaaW.PrintLast Go.Proofs.YtolfbnkdmafomaaW.PrintMore
attribute [local go_sem] max2_int min2_int max_two min_two max_three min_three max_four min_four   -- for this text's walks alone
mutual
def thalwegref01_Get.j0 : Nat → List Int → Int → Int → Bool → Option (Int × Int × Int)
  | 0, _, _, _, _ => none
  | k + 1, x0, x1, x2, x26 => if x26 = true then (some (0, 0, 1)) else (if (wrap64 ((x0.length : Int) - x1)) < x2 then (some (0, 0, 6)) else (thalwegref01_Get.l0 k x0 x1 x2 0 0))
def thalwegref01_Get.l0 : Nat → List Int → Int → Int → Int → Int → Option (Int × Int × Int)
  | 0, _, _, _, _, _ => none
  | k + 1, x0, x1, x2, x9, x10 => if x10 < x2 then (if 0 ≤ (wrap64 (x1 + x10)) then (if (wrap64 (x1 + x10)) < (x0.length : Int) then (thalwegref01_Get.l0 k x0 x1 x2 (wrap64 ((wrap64 (256 * x9)) + (wrap64 (rd x0 (wrap64 (x1 + x10)))))) (wrap64 (x10 + 1))) else (none)) else (none)) else (some (x9, wrap64 (x1 + x2), 0))
end
def thalwegref01_Get.f (k : Nat) (l0 : List Int) (a1 : Int) (a2 : Int) : Option (Int × Int × Int) := if a2 < 1 then (thalwegref01_Get.j0 k l0 a1 a2 true) else (if a2 > 7 then (thalwegref01_Get.j0 k l0 a1 a2 true) else (if a1 < 0 then (thalwegref01_Get.j0 k l0 a1 a2 true) else (thalwegref01_Get.j0 k l0 a1 a2 (decide (a1 > (l0.length : Int))))))
theorem thalwegref01_Get.mono_l : ∀ k, (∀ y0 y1 y2 y3, LeO (thalwegref01_Get.j0 k y0 y1 y2 y3) (thalwegref01_Get.j0 (k + 1) y0 y1 y2 y3)) ∧ (∀ y0 y1 y2 y3 y4, LeO (thalwegref01_Get.l0 k y0 y1 y2 y3 y4) (thalwegref01_Get.l0 (k + 1) y0 y1 y2 y3 y4))
  | 0 => ⟨fun _ _ _ _ r h => by simp [thalwegref01_Get.j0] at h, fun _ _ _ _ _ r h => by simp [thalwegref01_Get.l0] at h⟩
  | k + 1 => by
    obtain ⟨ih0, ih1⟩ := thalwegref01_Get.mono_l k
    refine ⟨?_, ?_⟩
    · intro y0 y1 y2 y3
      unfold thalwegref01_Get.j0
      repeat' first
      | (with_reducible exact ih0 _ _ _ _)
      | (with_reducible exact ih1 _ _ _ _ _)
      | (with_reducible exact LeO.refl _)
      | (with_reducible exact LeO.none _)
      | (with_reducible refine LeO.ite ?_ ?_)
      | (with_reducible refine LeO.bind ?_ (fun _ => ?_))
      | exact ih0 _ _ _ _
      | exact ih1 _ _ _ _ _
      | exact LeO.none _
      | refine LeO.ite ?_ ?_
      | refine LeO.bind ?_ (fun _ => ?_)
    · intro y0 y1 y2 y3 y4
      unfold thalwegref01_Get.l0
      repeat' first
      | (with_reducible exact ih0 _ _ _ _)
      | (with_reducible exact ih1 _ _ _ _ _)
      | (with_reducible exact LeO.refl _)
      | (with_reducible exact LeO.none _)
      | (with_reducible refine LeO.ite ?_ ?_)
      | (with_reducible refine LeO.bind ?_ (fun _ => ?_))
      | exact ih0 _ _ _ _
      | exact ih1 _ _ _ _ _
      | exact LeO.none _
      | refine LeO.ite ?_ ?_
      | refine LeO.bind ?_ (fun _ => ?_)
theorem thalwegref01_Get.mono : ∀ a0 a1 a2 k, LeO (thalwegref01_Get.f k a0 a1 a2) (thalwegref01_Get.f (k + 1) a0 a1 a2) := by
  intro a0 a1 a2 k
  obtain ⟨ih0, ih1⟩ := thalwegref01_Get.mono_l k
  unfold thalwegref01_Get.f
  repeat' first
      | (with_reducible exact ih0 _ _ _ _)
      | (with_reducible exact ih1 _ _ _ _ _)
      | (with_reducible exact LeO.refl _)
      | (with_reducible exact LeO.none _)
      | (with_reducible refine LeO.ite ?_ ?_)
      | (with_reducible refine LeO.bind ?_ (fun _ => ?_))
      | exact ih0 _ _ _ _
      | exact ih1 _ _ _ _ _
      | exact LeO.none _
      | refine LeO.ite ?_ ?_
      | refine LeO.bind ?_ (fun _ => ?_)
set_option maxHeartbeats 8000000 in
set_option maxRecDepth 100000 in
theorem thalwegref01_Get.calls (k : Nat) (A0 : Option Addr) (c0 : Nat) (l0 : List Int) (a1 : Int) (a2 : Int) (r1 : Int) (r2 : Int) (r3 : Int) (w : World) (hr0 : Kd.C (Kd.int .u8) w A0 l0.length l0) (hc0 : l0.length ≤ c0) (h : thalwegref01_Get.f k l0 a1 a2 = some (r1, r2, r3)) :
    Calls Try.prog 34 #[.slice A0 l0.length c0, .int .i64 a1, .int .i64 a2] w fun e w' => e = .returned (.tuple #[.int .i64 r1, .int .i64 r2, .int .i64 r3]) ∧ Drawn0 w w' := by
  have HR0 := Aside0.mk hr0
  have HC0 := Aside0.mk hc0
  clear hr0 hc0
  have H : (if a2 < 1 then (thalwegref01_Get.j0 k l0 a1 a2 true) else (if a2 > 7 then (thalwegref01_Get.j0 k l0 a1 a2 true) else (if a1 < 0 then (thalwegref01_Get.j0 k l0 a1 a2 true) else (thalwegref01_Get.j0 k l0 a1 a2 (decide (a1 > (l0.length : Int))))))) = some (r1, r2, r3) := h
  clear h
  have HC4 := Aside0.mk H
  clear H
  go_enter Try.func34, Try.ntmps34
  go_upto_region 1 with (fail)
  go_cut [26] (fun v26 wc => ∃ (kq : Nat) (x26_3 : Bool), v26 = .bool x26_3 ∧ Aside0 (thalwegref01_Get.j0 kq l0 a1 a2 x26_3 = some (r1, r2, r3)) ∧ Aside0 (kq ≤ k) ∧ Drawn0 w wc)
  case first =>
    have H := HC4.out
    clear HC4
    by_cases c5 : a2 < 1
    · rw [if_pos c5] at H
      have c5b0 : decide (a2 < 1) = true := decide_eq_true c5
      clear c5
      (first | rw [c5b0] | (simp only [i64_w, i32_w]; rw [c5b0]) | rw [c5b1] | skip)
      have H' := Aside0.mk H
      clear H
      go_wp2
      go_meet
      case rel => exact ⟨_, (true), (by first | rfl | (simp; done) | (simp [*]; done)), H', ⟨by first | omega | exact Nat.le_refl _⟩, by repeat (first | exact Drawn0.refl _ | apply Drawn0.step)⟩
    · rw [if_neg c5] at H
      have c5b0 : decide (a2 < 1) = false := decide_eq_false c5
      clear c5
      (first | rw [c5b0] | (simp only [i64_w, i32_w]; rw [c5b0]) | rw [c5b1] | skip)
      by_cases c6 : a2 > 7
      · rw [if_pos c6] at H
        have c6b0 : decide (7 < a2) = true := decide_eq_true c6
        clear c6
        have H' := Aside0.mk H
        clear H
        go_wp2
        go_meet
        case rel => exact ⟨_, (true), (by first | rfl | (simp; done) | (simp [*]; done)), H', ⟨by first | omega | exact Nat.le_refl _⟩, by repeat (first | exact Drawn0.refl _ | apply Drawn0.step)⟩
      · rw [if_neg c6] at H
        have c6b0 : decide (7 < a2) = false := decide_eq_false c6
        clear c6
        by_cases c7 : a1 < 0
        · rw [if_pos c7] at H
          have c7b0 : decide (a1 < 0) = true := decide_eq_true c7
          clear c7
          have H' := Aside0.mk H
          clear H
          go_wp2
          go_meet
          case rel => exact ⟨_, (true), (by first | rfl | (simp; done) | (simp [*]; done)), H', ⟨by first | omega | exact Nat.le_refl _⟩, by repeat (first | exact Drawn0.refl _ | apply Drawn0.step)⟩
        · rw [if_neg c7] at H
          have c7b0 : decide (a1 < 0) = false := decide_eq_false c7
          clear c7
          have H' := Aside0.mk H
          clear H
          go_wp2
          go_meet
          case rel => exact ⟨_, (decide (a1 > (l0.length : Int))), (by first | rfl | (simp; done) | (simp [*]; done)), H', ⟨by first | omega | exact Nat.le_refl _⟩, by repeat (first | exact Drawn0.refl _ | apply Drawn0.step)⟩
  case rest =>
    clear HC4
    try clear p2
    try clear c3
    try clear c5
    try clear c5b0
    try clear c6
    try clear c6b0
    try clear c7
    try clear c7b0
    obtain ⟨kq, x26_3, rfl, HA, HJ3, ⟨mc3, rfl⟩⟩ := hcut
    cases kq with
    | zero => exact absurd HA.out (by simp [thalwegref01_Get.j0])
    | succ kj3 =>
      have H := HA.out
      clear HA
      simp only [thalwegref01_Get.j0] at H
      by_cases c8 : x26_3 = true
      · subst c8
        have H1 : (some (0, 0, 1)) = some (r1, r2, r3) := by rw [if_pos rfl] at H; exact H
        clear H
        have H := H1
        clear H1
        simp only [Option.some.injEq, Prod.mk.injEq] at H
        obtain ⟨rfl, rfl, rfl⟩ := H
        go_wp2
        go_ret3
        exact ⟨by first | rfl | (simp; done) | (simp [*]; done), by repeat (first | exact Drawn0.refl _ | apply Drawn0.step)⟩
      · replace c8 := Bool.eq_false_iff.mpr c8
        subst c8
        have H1 : (if (wrap64 ((l0.length : Int) - a1)) < a2 then (some (0, 0, 6)) else (thalwegref01_Get.l0 kj3 l0 a1 a2 0 0)) = some (r1, r2, r3) := by rw [if_neg (show ¬ (false = true) by decide)] at H; exact H
        clear H
        have H := H1
        clear H1
        by_cases c9 : (wrap64 ((l0.length : Int) - a1)) < a2
        · rw [if_pos c9] at H
          have c9b0 : decide ((wrap64 ((l0.length : Int) - a1)) < a2) = true := decide_eq_true c9
          clear c9
          simp only [Option.some.injEq, Prod.mk.injEq] at H
          obtain ⟨rfl, rfl, rfl⟩ := H
          go_wp2
          go_ret3
          exact ⟨by first | rfl | (simp; done) | (simp [*]; done), by repeat (first | exact Drawn0.refl _ | apply Drawn0.step)⟩
        · rw [if_neg c9] at H
          have c9b0 : decide ((wrap64 ((l0.length : Int) - a1)) < a2) = false := decide_eq_false c9
          clear c9
          have H' := Aside0.mk H
          clear H
          go_wp2
          go_loopg [9, 10] kj3 (fun kq v9 v10 w' => ∃ (x9_2 : Int) (x10_2 : Int), v9 = .int .i64 x9_2 ∧ v10 = .int .i64 x10_2 ∧ Aside0 (thalwegref01_Get.l0 kq l0 a1 a2 x9_2 x10_2 = some (r1, r2, r3)) ∧ Aside0 (kq ≤ kj3) ∧ Drawn0 w w')
          case atStart => exact ⟨(0), (0), (by first | rfl | (simp; done) | (simp [*]; done)), (by first | rfl | (simp; done) | (simp [*]; done)), H', ⟨Nat.le_refl _⟩, by repeat (first | exact Drawn0.refl _ | apply Drawn0.step)⟩
          case round =>
            clear H'
            try clear p2
            try clear c3
            try clear c5
            try clear c5b0
            try clear c6
            try clear c6b0
            try clear p6
            try clear c7
            try clear c7b0
            try clear c8
            try clear c9
            try clear c9b0
            try clear p2
            obtain ⟨x9_2, x10_2, rfl, rfl, HA, HK2, ⟨m2, rfl⟩⟩ := hrel
            cases gk with
            | zero => exact absurd HA.out (by simp [thalwegref01_Get.l0])
            | succ k2 =>
              have H := HA.out
              clear HA
              simp only [thalwegref01_Get.l0] at H
              by_cases c10 : x10_2 < a2
              · rw [if_pos c10] at H
                have c10b0 : decide (x10_2 < a2) = true := decide_eq_true c10
                clear c10
                obtain ⟨ji11, hji11⟩ : ∃ j_ : Int, (wrap64 (a1 + x10_2)) = j_ := ⟨_, rfl⟩
                replace H : (if 0 ≤ (ji11) then (if (ji11) < (l0.length : Int) then (thalwegref01_Get.l0 k2 l0 a1 a2 (wrap64 ((wrap64 (256 * x9_2)) + (wrap64 (rd l0 (ji11))))) (wrap64 (x10_2 + 1))) else (none)) else (none)) = some (r1, r2, r3) := by first | (rw [hji11] at H; exact H) | (simp only [hji11] at H ⊢; exact H)
                have hji11w : (IntKind.i64.wrap (a1 + x10_2)) = ji11 := (i64_w _).trans hji11
                by_cases c12 : 0 ≤ (ji11)
                rotate_left
                · rw [if_neg c12] at H
                  exact absurd H (by simp)
                rw [if_pos c12] at H
                have c12b0 : decide (0 ≤ (ji11)) = true := decide_eq_true c12
                clear c12
                by_cases c13 : (ji11) < (l0.length : Int)
                rotate_left
                · rw [if_neg c13] at H
                  exact absurd H (by simp)
                rw [if_pos c13] at H
                have c13b0 : decide ((ji11) < (l0.length : Int)) = true := decide_eq_true c13
                clear c13
                have H' := Aside0.mk H
                clear H
                have p291 : 0 ≤ ((ji11) : Int) := of_decide_eq_true (by first | (with_reducible assumption) | assumption)
                have q291 : (ji11) < (l0.length : Int) := of_decide_eq_true (by first | (with_reducible assumption) | assumption)
                obtain ⟨ad291, e291, hx291_0⟩ := Kd.at_int HR0.out (ji11) p291 q291
                cases e291
                replace p291 := eq_true p291
                replace q291 := eq_true q291
                go_wp2
                go_roundg k2
                case measure => have := HJ3.out; have := HK2.out; omega
                case rel => exact ⟨(wrap64 ((wrap64 (256 * x9_2)) + (wrap64 (rd l0 (ji11))))), (wrap64 (x10_2 + 1)), (by first | rfl | (simp; done) | (simp only [← hji11] <;> (first | rfl | simp)) | (simp [*]; done)), (by first | rfl | (simp; done) | (simp [*]; done)), H', ⟨by have := HJ3.out; have := HK2.out; omega⟩, by repeat (first | exact Drawn0.refl _ | apply Drawn0.step)⟩
              · rw [if_neg c10] at H
                have c10b0 : decide (x10_2 < a2) = false := decide_eq_false c10
                clear c10
                simp only [Option.some.injEq, Prod.mk.injEq] at H
                obtain ⟨rfl, rfl, rfl⟩ := H
                go_wp2
                go_ret3
                exact ⟨by first | rfl | (simp; done) | (simp [*]; done), by repeat (first | exact Drawn0.refl _ | apply Drawn0.step)⟩
end Go.Proofs.Ytolfbnkdmafomaa.P
namespace Go.Proofs.Ytolfbnkdmafomaa.P
open Go.RowKit Go.Proofs.YtolfbnkdmafomaaW.PrintWords Go.Proofs.YtolfbnkdmafomaaW.PrintLast Go.Proofs.YtolfbnkdmafomaaW.PrintMore
attribute [local go_sem] max2_int min2_int max_two min_two max_three min_three max_four min_four   -- for this text's walks alone
mutual
def thalwegref07_Parse.l0 : Nat → List Int → Int → Int → List (S24) → Int → Option ((List (S24)) × Int × Int)
  | 0, _, _, _, _, _ => none
  | k + 1, x0, x1, x7, x9, x10 => if x10 < x7 then (thalwegref07_Parse.l1 k x0 x1 x7 x9 x10 ([] : List Int) (([1, 4, 2, 2] : List Int)) 0) else ((thalwegref07_Right.f k x9).bind fun t295 => (if t295 = true then (some (x9, x1, 0)) else (some (([] : List (S24)), 0, 4))))
def thalwegref07_Parse.l1 : Nat → List Int → Int → Int → List (S24) → Int → List Int → List Int → Int → Option ((List (S24)) × Int × Int)
  | 0, _, _, _, _, _, _, _, _ => none
  | k + 1, x0, x1, x7, x9, x10, x11, x12, x13 => if x13 < 4 then (if 0 ≤ x13 then (if x13 < (x12.length : Int) then ((thalwegref01_Get.f k x0 x1 (rd x12 x13)).bind fun bt300 => (if bt300.2.2 = 0 then (if x11.length < 17592186044416 then (thalwegref07_Parse.l1 k x0 bt300.2.1 x7 x9 x10 (x11 ++ [bt300.1]) x12 (wrap64 (x13 + 1))) else (none)) else (some (([] : List (S24)), 0, bt300.2.2)))) else (none)) else (none)) else (if 0 < (x11.length : Int) then (if 1 < (x11.length : Int) then (if 2 < (x11.length : Int) then (if 3 < (x11.length : Int) then (if x9.length < 4398046511104 then (thalwegref07_Parse.l0 k x0 x1 x7 (x9 ++ [(⟨rd x11 0, rd x11 1, rd x11 2, rd x11 3⟩ : S24)]) (wrap64 (x10 + 1))) else (none)) else (none)) else (none)) else (none)) else (none))
end
def thalwegref07_Parse.f (k : Nat) (l0 : List Int) (a1 : Int) : Option ((List (S24)) × Int × Int) := (thalwegref01_Get.f k l0 a1 1).bind fun bt292 => (if bt292.2.2 = 0 then (thalwegref07_Parse.l0 k l0 bt292.2.1 bt292.1 ([] : List (S24)) 0) else (some (([] : List (S24)), 0, bt292.2.2)))
theorem thalwegref07_Parse.mono_l : ∀ k, (∀ y0 y1 y2 y3 y4, LeO (thalwegref07_Parse.l0 k y0 y1 y2 y3 y4) (thalwegref07_Parse.l0 (k + 1) y0 y1 y2 y3 y4)) ∧ (∀ y0 y1 y2 y3 y4 y5 y6 y7, LeO (thalwegref07_Parse.l1 k y0 y1 y2 y3 y4 y5 y6 y7) (thalwegref07_Parse.l1 (k + 1) y0 y1 y2 y3 y4 y5 y6 y7))
  | 0 => ⟨fun _ _ _ _ _ r h => by simp [thalwegref07_Parse.l0] at h, fun _ _ _ _ _ _ _ _ r h => by simp [thalwegref07_Parse.l1] at h⟩
  | k + 1 => by
    obtain ⟨ih0, ih1⟩ := thalwegref07_Parse.mono_l k
    refine ⟨?_, ?_⟩
    · intro y0 y1 y2 y3 y4
      unfold thalwegref07_Parse.l0
      repeat' first
      | (with_reducible exact ih0 _ _ _ _ _)
      | (with_reducible exact ih1 _ _ _ _ _ _ _ _)
      | (with_reducible exact thalwegref01_Get.mono _ _ _ _)
      | (with_reducible exact thalwegref07_Right.mono _ _)
      | (with_reducible exact LeO.refl _)
      | (with_reducible exact LeO.none _)
      | (with_reducible refine LeO.ite ?_ ?_)
      | (with_reducible refine LeO.bind ?_ (fun _ => ?_))
      | exact ih0 _ _ _ _ _
      | exact ih1 _ _ _ _ _ _ _ _
      | exact thalwegref01_Get.mono _ _ _ _
      | exact thalwegref07_Right.mono _ _
      | exact LeO.none _
      | refine LeO.ite ?_ ?_
      | refine LeO.bind ?_ (fun _ => ?_)
    · intro y0 y1 y2 y3 y4 y5 y6 y7
      unfold thalwegref07_Parse.l1
      repeat' first
      | (with_reducible exact ih0 _ _ _ _ _)
      | (with_reducible exact ih1 _ _ _ _ _ _ _ _)
      | (with_reducible exact thalwegref01_Get.mono _ _ _ _)
      | (with_reducible exact thalwegref07_Right.mono _ _)
      | (with_reducible exact LeO.refl _)
      | (with_reducible exact LeO.none _)
      | (with_reducible refine LeO.ite ?_ ?_)
      | (with_reducible refine LeO.bind ?_ (fun _ => ?_))
      | exact ih0 _ _ _ _ _
      | exact ih1 _ _ _ _ _ _ _ _
      | exact thalwegref01_Get.mono _ _ _ _
      | exact thalwegref07_Right.mono _ _
      | exact LeO.none _
      | refine LeO.ite ?_ ?_
      | refine LeO.bind ?_ (fun _ => ?_)
theorem thalwegref07_Parse.mono : ∀ a0 a1 k, LeO (thalwegref07_Parse.f k a0 a1) (thalwegref07_Parse.f (k + 1) a0 a1) := by
  intro a0 a1 k
  obtain ⟨ih0, ih1⟩ := thalwegref07_Parse.mono_l k
  unfold thalwegref07_Parse.f
  repeat' first
      | (with_reducible exact ih0 _ _ _ _ _)
      | (with_reducible exact ih1 _ _ _ _ _ _ _ _)
      | (with_reducible exact thalwegref01_Get.mono _ _ _ _)
      | (with_reducible exact thalwegref07_Right.mono _ _)
      | (with_reducible exact LeO.refl _)
      | (with_reducible exact LeO.none _)
      | (with_reducible refine LeO.ite ?_ ?_)
      | (with_reducible refine LeO.bind ?_ (fun _ => ?_))
      | exact ih0 _ _ _ _ _
      | exact ih1 _ _ _ _ _ _ _ _
      | exact thalwegref01_Get.mono _ _ _ _
      | exact thalwegref07_Right.mono _ _
      | exact LeO.none _
      | refine LeO.ite ?_ ?_
      | refine LeO.bind ?_ (fun _ => ?_)
def thalwegref07_Parse.T18 : Bool × List (List Nat × List Nat) := (true, [([], []), ([], []), ([1], [1]), ([2], [2]), ([], []), ([4], [4]), ([5], [5]), ([], []), ([7], [7]), ([8], [8]), ([], []), ([10], [10]), ([11], [11]), ([3, 6, 9, 12], [3, 6, 9, 12]), ([13], [13]), ([0, 14], [0, 14]), ([15, 15, 0, 1, 2, 3, 4, 5, 6, 7, 8, 9, 10, 11, 12, 13, 14, 15], [0, 15])])
def thalwegref07_Parse.B18 : List Nat := [0, 0, 2, 6, 0, 16, 48, 0, 128, 384, 0, 1024, 3072, 8190, 16382, 32767, 65535]
theorem thalwegref07_Parse.tab18 : rtab .any (opsOf Try.f21 18) = thalwegref07_Parse.T18 := by kernel_rfl
theorem thalwegref07_Parse.bits18 : waitsOk thalwegref07_Parse.T18.2 thalwegref07_Parse.B18 = true := by kernel_rfl
set_option maxHeartbeats 8000000 in
set_option maxRecDepth 100000 in
theorem thalwegref07_Parse.calls (k : Nat) (A0 : Option Addr) (c0 : Nat) (l0 : List Int) (a1 : Int) (r1 : List (S24)) (r2 : Int) (r3 : Int) (w : World) (hr0 : Kd.C (Kd.int .u8) w A0 l0.length l0) (hc0 : l0.length ≤ c0) (h : thalwegref07_Parse.f k l0 a1 = some (r1, r2, r3)) :
    Calls Try.prog 21 #[.slice A0 l0.length c0, .int .i64 a1] w fun e w' => ∃ v0_ : Value, e = .returned (.tuple #[v0_, .int .i64 r2, .int .i64 r3]) ∧ Kd.R k24 24 w' w.heap.size (fun _ => True) v0_ r1 ∧ Below w.heap.size w w' := by
  have hu24 := Try.underlying24
  have HR0 := Aside0.mk hr0
  have HC0 := Aside0.mk hc0
  clear hr0 hc0
  have HB := Aside0.mk (Below.refl w.heap.size w)
  have H : ((thalwegref01_Get.f k l0 a1 1).bind fun bt292 => (if bt292.2.2 = 0 then (thalwegref07_Parse.l0 k l0 bt292.2.1 bt292.1 ([] : List (S24)) 0) else (some (([] : List (S24)), 0, bt292.2.2)))) = some (r1, r2, r3) := h
  clear h
  replace H := Option.bind_eq_some_iff.mp H
  obtain ⟨⟨t292, t293, t294⟩, A30, H⟩ := H
  replace H : (if t294 = 0 then (thalwegref07_Parse.l0 k l0 t293 t292 ([] : List (S24)) 0) else (some (([] : List (S24)), 0, t294))) = some (r1, r2, r3) := H
  have A3 := Aside0.mk A30
  clear A30
  by_cases c4 : t294 = 0
  · rw [if_pos c4] at H
    have c4b0 : (t294 == 0) = true := beq_iff_eq.mpr c4
    have c4b1 : (t294 != 0) = false := bne_eq_false_iff_eq.mpr c4
    clear c4
    have H' := Aside0.mk H
    clear H
    go_enter Try.func21, Try.ntmps21
    go_wp2_with (first | ((with_reducible refine gate_callee (f := 34) rfl ?_); refine goesL_ (some 20) rfl rfl Try.func34 (by kernel_rfl) rfl #[.slice A0 l0.length c0, .int .i64 a1, .int .i64 1] rfl (by (try simp only [List.map_toArray, List.map_cons, List.map_nil]); first | done | rfl | (simp only [List.length_drop, List.length_take]; rfl)) ?_; (with_reducible refine (thalwegref01_Get.calls k _ _ l0 a1 1 t292 t293 t294 _ ?side1 ?side2 A3.out).mono ?_); (case side1 => repeat (first | exact HR0.out | (with_reducible refine Kd.C_alloc ?_ _) | (with_reducible refine Kd.C_drewN ?_ _) | (with_reducible refine Kd.C_drew ?_))); (case side2 => exact HC0.out); rintro e w' ⟨rfl, ⟨nd, rfl⟩⟩; refine ⟨_, rfl, ?_⟩))
    go_loopg [1, 9, 10] k (fun kq v1 v9 v10 w' => ∃ (x1_1 : Int) (x9_1 : List (S24)) (x10_1 : Int), v1 = .int .i64 x1_1 ∧ v10 = .int .i64 x10_1 ∧ Aside0 (thalwegref07_Parse.l0 kq l0 x1_1 t292 x9_1 x10_1 = some (r1, r2, r3)) ∧ Aside0 (kq ≤ k) ∧ Aside0 (Kd.R k24 24 w' w.heap.size (fun _ => True) v9 x9_1) ∧ Aside0 (Below w.heap.size w w'))
    case atStart => exact ⟨(t293), (([] : List (S24))), (0), (by first | rfl | (simp; done) | (simp [*]; done)), (by first | rfl | (simp; done) | (simp [*]; done)), H', ⟨Nat.le_refl _⟩, ⟨by first | exact Kd.R_nil _ _ _ _ _ | exact Kd.N_nil _ _ _ _ _ | exact Kd.V_nil _ _ _ _ _ | exact Kd.Q_nil _ _ _ _ _ | exact Kd.S_nil _ _ _ _ _⟩, ⟨by repeat (first | (with_reducible first | exact HB.out | apply below_alloc | apply pw_below_drewN | apply below_drew1) | exact HB.out)⟩⟩
    case round =>
      clear H'
      try clear c2
      try clear p2
      try clear c3
      try clear c4
      try clear c4b0
      try clear c4b1
      obtain ⟨x1_1, x9_1, x10_1, rfl, rfl, HA, HK1, HO_9, HB⟩ := hrel
      cases gk with
      | zero => exact absurd HA.out (by simp [thalwegref07_Parse.l0])
      | succ k1 =>
        have H := HA.out
        clear HA
        simp only [thalwegref07_Parse.l0] at H
        by_cases c5 : x10_1 < t292
        · rw [if_pos c5] at H
          have c5b0 : decide (x10_1 < t292) = true := decide_eq_true c5
          clear c5
          obtain ⟨y296, hy296⟩ : ∃ y_ : List Int, y_ = (([1, 4, 2, 2] : List Int)) := ⟨_, rfl⟩
          replace H : (thalwegref07_Parse.l1 k1 l0 x1_1 t292 x9_1 x10_1 ([] : List Int) y296 0) = some (r1, r2, r3) := by first | (rw [hy296]; with_reducible exact H) | (have H2_ := (Option.bind_some _ _).symm.trans H; rw [hy296]; with_reducible exact H2_) | (have H2_ := (Option.bind_some _ _).symm.trans H; with_reducible exact H2_) | with_reducible exact H | (rw [hy296]; exact H) | exact H
          have Ny296 := Aside0.mk hy296
          clear hy296
          have H' := Aside0.mk H
          clear H
          go_wp2_with (first | ((with_reducible refine gate_dst (N := 32) rfl ?_); refine Kd.R_lit (Kd.int .i64) _ 3 ?hg (N := 32) ?hd (xs := ([1, 4, 2, 2] : List Int)) (inner := [.int .i64 1, .int .i64 4, .int .i64 2, .int .i64 2]) (ok := fun _ => True) (okp := fun _ => True) ?hr ?hp (fun _ hk => hk) trivial (Below.refl _ _) (Nat.le_refl _) (by simp) ?_; (case hd => rfl); (case hg => rfl); (case hr => first | (go_simp; done) | (go_simp; rfl)); (case hp => exact (Reps.one (show Kd.M (Kd.int .i64) _ _ _ 1 [.int .i64 1] from rfl) (Reps.one (show Kd.M (Kd.int .i64) _ _ _ 4 [.int .i64 4] from rfl) (Reps.one (show Kd.M (Kd.int .i64) _ _ _ 2 [.int .i64 2] from rfl) (Reps.one (show Kd.M (Kd.int .i64) _ _ _ 2 [.int .i64 2] from rfl) (Reps.none _ _)))))); intro v297 w6 ho7 hb hg_ hnew_; clear hg_ hnew_; (first | rw [← Ny296.out] at ho7 | (simp only [Int.reduceToNat] at ho7; rw [← Ny296.out] at ho7)); have n0_ := Aside0.mk (Kd.R_below (by (with_reducible repeat (first | apply Kd.R_alloc | apply Kd.R_drewN | apply Kd.R_drew)); exact HO_9.out) hb); have n1_ := Aside0.mk (Kd.R_lower ho7 (below_size (by repeat (first | (with_reducible first | exact HB.out | apply below_alloc | apply pw_below_drewN | apply below_drew1) | exact HB.out)))); have n2_ := Aside0.mk (below_step (by repeat (first | (with_reducible first | exact HB.out | apply below_alloc | apply pw_below_drewN | apply below_drew1) | exact HB.out)) hb); clear HO_9; clear HB; have HO_9 := n0_; have HO298 := n1_; have HB := n2_; clear n0_ n1_ n2_; clear hb ho7))
          go_loopg [1, 11, 13] k1 (fun kq v1 v11 v13 w' => ∃ (x1_2 : Int) (x11_2 : List Int) (x13_2 : Int), v1 = .int .i64 x1_2 ∧ v13 = .int .i64 x13_2 ∧ Aside0 (thalwegref07_Parse.l1 kq l0 x1_2 t292 x9_1 x10_1 x11_2 y296 x13_2 = some (r1, r2, r3)) ∧ Aside0 (kq ≤ k1) ∧ Aside0 (Kd.R k24 24 w' w.heap.size (fun _ => True) u9 x9_1) ∧ Aside0 (Kd.R (Kd.int .i64) 3 w' w.heap.size (fun k_ => some k_ ≠ (v297 : Value).ownBlock) v11 x11_2) ∧ Aside0 (Kd.R (Kd.int .i64) 3 w' w.heap.size (fun k_ => some k_ ≠ (v11 : Value).ownBlock) v297 y296) ∧ Aside0 (Below w.heap.size w w'))
          case atStart => exact ⟨(x1_1), (([] : List Int)), (0), (by first | rfl | (simp; done) | (simp [*]; done)), (by first | rfl | (simp; done) | (simp [*]; done)), H', ⟨Nat.le_refl _⟩, ⟨by (with_reducible repeat (first | apply Kd.R_alloc | apply Kd.R_drewN | apply Kd.R_drew)); exact HO_9.out⟩, ⟨by first | exact Kd.R_nil _ _ _ _ _ | exact Kd.N_nil _ _ _ _ _ | exact Kd.V_nil _ _ _ _ _ | exact Kd.Q_nil _ _ _ _ _ | exact Kd.S_nil _ _ _ _ _⟩, ⟨by (with_reducible repeat (first | apply Kd.R_alloc | apply Kd.R_drewN | apply Kd.R_drew)); exact Kd.R_mono HO298.out (fun _ hk => (by simp [Value.ownBlock]))⟩, ⟨by repeat (first | (with_reducible first | exact HB.out | apply below_alloc | apply pw_below_drewN | apply below_drew1) | exact HB.out)⟩⟩
          case round =>
            clear H'
            try clear c2
            try clear p2
            try clear c3
            try clear c4
            try clear c4b0
            try clear c4b1
            try clear c5
            try clear c5b0
            try clear p2
            obtain ⟨x1_2, x11_2, x13_2, rfl, rfl, HA, HK2, HO_9, HO_11, HO_12, HB⟩ := hrel
            cases gk with
            | zero => exact absurd HA.out (by simp [thalwegref07_Parse.l1])
            | succ k2 =>
              have H := HA.out
              clear HA
              simp only [thalwegref07_Parse.l1] at H
              by_cases c8 : x13_2 < 4
              · rw [if_pos c8] at H
                have c8b0 : decide (x13_2 < 4) = true := decide_eq_true c8
                clear c8
                by_cases c9 : 0 ≤ x13_2
                rotate_left
                · rw [if_neg c9] at H
                  exact absurd H (by simp)
                rw [if_pos c9] at H
                have c9b0 : decide (0 ≤ x13_2) = true := decide_eq_true c9
                clear c9
                by_cases c10 : x13_2 < (y296.length : Int)
                rotate_left
                · rw [if_neg c10] at H
                  exact absurd H (by simp)
                rw [if_pos c10] at H
                have c10b0 : decide (x13_2 < (y296.length : Int)) = true := decide_eq_true c10
                clear c10
                replace H := Option.bind_eq_some_iff.mp H
                obtain ⟨⟨t300, t301, t302⟩, A110, H⟩ := H
                replace H : (if t302 = 0 then (if x11_2.length < 17592186044416 then (thalwegref07_Parse.l1 k2 l0 t301 t292 x9_1 x10_1 (x11_2 ++ [t300]) y296 (wrap64 (x13_2 + 1))) else (none)) else (some (([] : List (S24)), 0, t302))) = some (r1, r2, r3) := H
                have A11 := Aside0.mk A110
                clear A110
                by_cases c12 : t302 = 0
                · rw [if_pos c12] at H
                  have c12b0 : (t302 == 0) = true := beq_iff_eq.mpr c12
                  have c12b1 : (t302 != 0) = false := bne_eq_false_iff_eq.mpr c12
                  clear c12
                  by_cases c13 : x11_2.length < 17592186044416
                  rotate_left
                  · rw [if_neg c13] at H
                    exact absurd H (by simp)
                  rw [if_pos c13] at H
                  have LMc13 := Aside0.mk c13
                  clear c13
                  obtain ⟨y303, hy303⟩ : ∃ y_ : List Int, y_ = (x11_2 ++ [t300]) := ⟨_, rfl⟩
                  replace H : (thalwegref07_Parse.l1 k2 l0 t301 t292 x9_1 x10_1 y303 y296 (wrap64 (x13_2 + 1))) = some (r1, r2, r3) := by first | (rw [hy303]; with_reducible exact H) | (have H2_ := (Option.bind_some _ _).symm.trans H; rw [hy303]; with_reducible exact H2_) | (have H2_ := (Option.bind_some _ _).symm.trans H; with_reducible exact H2_) | with_reducible exact H | (rw [hy303]; exact H) | exact H
                  have Ny303 := Aside0.mk hy303
                  clear hy303
                  have H' := Aside0.mk H
                  clear H
                  obtain ⟨Ao14, co14, eo14⟩ := Kd.R_slice HO_12.out
                  subst eo14
                  have p299 : 0 ≤ (x13_2 : Int) := of_decide_eq_true (by first | (with_reducible assumption) | assumption)
                  have q299 : x13_2 < (y296.length : Int) := of_decide_eq_true (by first | (with_reducible assumption) | assumption)
                  obtain ⟨ad299, e299, hx299_0⟩ := Kd.at_int (Kd.R_reads' HO_12.out).2.2 x13_2 p299 q299
                  cases e299
                  replace p299 := eq_true p299
                  replace q299 := eq_true q299
                  go_wp2_with (first | ((with_reducible refine gate_callee (f := 34) rfl ?_); refine goesL_ (some 44) rfl rfl Try.func34 (by kernel_rfl) rfl #[.slice A0 l0.length c0, .int .i64 x1_2, .int .i64 (rd y296 x13_2)] rfl (by (try simp only [List.map_toArray, List.map_cons, List.map_nil]); first | done | rfl | (simp only [List.length_drop, List.length_take]; rfl)) ?_; (with_reducible refine (thalwegref01_Get.calls k2 _ _ l0 x1_2 (rd y296 x13_2) t300 t301 t302 _ ?side1 ?side2 A11.out).mono ?_); (case side1 => repeat (first | exact (Kd.C_below HR0.out HB.out) | (with_reducible refine Kd.C_alloc ?_ _) | (with_reducible refine Kd.C_drewN ?_ _) | (with_reducible refine Kd.C_drew ?_))); (case side2 => exact HC0.out); rintro e w' ⟨rfl, ⟨nd, rfl⟩⟩; refine ⟨_, rfl, ?_⟩) | ((with_reducible refine gate_builtin (b := .append) (xs := #[.tmp 51, .tmp 53]) rfl ?_); at_builtin; refine Kd.R_append (Kd.int .i64) (w0 := w) w.heap.size rfl (.tmp 51) (.tmp 53) 22 3 (.int .i64 0) 8 rfl Try.underlying22 info3 rfl (by decide) (by omega) u11 x11_2 t300 [.int .i64 t300] (fun k_ => some k_ ≠ (.slice (some ad299) y296.length co14 : Value).ownBlock) (fun _ => False) rfl rfl ?aP (fun _ hk => hk.elim) ?aF ?aO ?aB ?aS ?aL ?_; (case aP => exact rfl); (case aB => exact (by repeat (first | (with_reducible first | exact HB.out | apply below_alloc | apply pw_below_drewN | apply below_drew1) | exact HB.out))); (case aF => exact (fun k_ hk => Kd.fresh' (Kd.R_lt (by (with_reducible repeat (first | apply Kd.R_alloc | apply Kd.R_drewN | apply Kd.R_drew)); exact HO_12.out)) k_ hk)); (case aO => exact (by (with_reducible repeat (first | apply Kd.R_alloc | apply Kd.R_drewN | apply Kd.R_drew)); exact HO_11.out)); (case aS => exact (below_size (by repeat (first | (with_reducible first | exact HB.out | apply below_alloc | apply pw_below_drewN | apply below_drew1) | exact HB.out)))); (case aL => have := LMc13.out; omega); intro v304 w15 ho hb hg hat; rw [← Ny303.out] at ho; have n0_ := Aside0.mk (Kd.R_over' (by (with_reducible repeat (first | apply Kd.R_alloc | apply Kd.R_drewN | apply Kd.R_drew)); exact HO_9.out) (Kd.R_typed (by (with_reducible repeat (first | apply Kd.R_alloc | apply Kd.R_drewN | apply Kd.R_drew)); exact HO_11.out)) (by decide) hg); have n1_ := Aside0.mk (Kd.R_after (ok := (fun _ => True)) (by (with_reducible repeat (first | apply Kd.R_alloc | apply Kd.R_drewN | apply Kd.R_drew)); exact Kd.R_mono HO_12.out (fun _ hk => by first | exact ⟨trivial, hk⟩ | exact trivial | (simp [hk]; done) | simp_all)) hg hat); have n2_ := Aside0.mk (hb); have n3_ := Aside0.mk (ho); clear HO_9; clear HO_12; clear HB; clear HO_11; have HO_9 := n0_; have HO_12 := n1_; have HB := n2_; have HO305 := n3_; clear n0_ n1_ n2_ n3_; clear ho hb hg hat))
                  go_roundg k2
                  case measure => have := HK1.out; have := HK2.out; omega
                  case rel => exact ⟨(t301), (y303), (wrap64 (x13_2 + 1)), (by first | rfl | (simp; done) | (simp [*]; done)), (by first | rfl | (simp; done) | (simp [*]; done)), H', ⟨by have := HK1.out; have := HK2.out; omega⟩, ⟨by (with_reducible repeat (first | apply Kd.R_alloc | apply Kd.R_drewN | apply Kd.R_drew)); exact HO_9.out⟩, ⟨by (with_reducible repeat (first | apply Kd.R_alloc | apply Kd.R_drewN | apply Kd.R_drew)); exact HO305.out⟩, ⟨by (with_reducible repeat (first | apply Kd.R_alloc | apply Kd.R_drewN | apply Kd.R_drew)); exact Kd.R_mono HO_12.out (fun _ hk => by first | exact hk.2 | exact trivial | (simp [hk]; done) | simp_all)⟩, ⟨by repeat (first | (with_reducible first | exact HB.out | apply below_alloc | apply pw_below_drewN | apply below_drew1) | exact HB.out)⟩⟩
                · rw [if_neg c12] at H
                  have c12b0 : (t302 == 0) = false := beq_eq_false_iff_ne.mpr c12
                  have c12b1 : (t302 != 0) = true := bne_iff_ne.mpr c12
                  simp only [Option.some.injEq, Prod.mk.injEq] at H
                  obtain ⟨rfl, rfl, rfl⟩ := H
                  obtain ⟨Ao16, co16, eo16⟩ := Kd.R_slice HO_12.out
                  subst eo16
                  have p299 : 0 ≤ (x13_2 : Int) := of_decide_eq_true (by first | (with_reducible assumption) | assumption)
                  have q299 : x13_2 < (y296.length : Int) := of_decide_eq_true (by first | (with_reducible assumption) | assumption)
                  obtain ⟨ad299, e299, hx299_0⟩ := Kd.at_int (Kd.R_reads' HO_12.out).2.2 x13_2 p299 q299
                  cases e299
                  replace p299 := eq_true p299
                  replace q299 := eq_true q299
                  go_wp2_with (first | ((with_reducible refine gate_callee (f := 34) rfl ?_); refine goesL_ (some 44) rfl rfl Try.func34 (by kernel_rfl) rfl #[.slice A0 l0.length c0, .int .i64 x1_2, .int .i64 (rd y296 x13_2)] rfl (by (try simp only [List.map_toArray, List.map_cons, List.map_nil]); first | done | rfl | (simp only [List.length_drop, List.length_take]; rfl)) ?_; (with_reducible refine (thalwegref01_Get.calls k2 _ _ l0 x1_2 (rd y296 x13_2) t300 t301 t302 _ ?side1 ?side2 A11.out).mono ?_); (case side1 => repeat (first | exact (Kd.C_below HR0.out HB.out) | (with_reducible refine Kd.C_alloc ?_ _) | (with_reducible refine Kd.C_drewN ?_ _) | (with_reducible refine Kd.C_drew ?_))); (case side2 => exact HC0.out); rintro e w' ⟨rfl, ⟨nd, rfl⟩⟩; refine ⟨_, rfl, ?_⟩))
                  go_ret3
                  exact ⟨_, by first | rfl | (simp [errW_none, errW_some] <;> rfl) | (simp [*, errW_none, errW_some] <;> rfl), by first | exact Kd.R_nil _ _ _ _ _ | exact Kd.N_nil _ _ _ _ _ | exact Kd.V_nil _ _ _ _ _ | exact Kd.Q_nil _ _ _ _ _ | exact Kd.S_nil _ _ _ _ _, by repeat (first | (with_reducible first | exact HB.out | apply below_alloc | apply pw_below_drewN | apply below_drew1) | exact HB.out)⟩
              · rw [if_neg c8] at H
                have c8b0 : decide (x13_2 < 4) = false := decide_eq_false c8
                clear c8
                by_cases c17 : 0 < (x11_2.length : Int)
                rotate_left
                · rw [if_neg c17] at H
                  exact absurd H (by simp)
                rw [if_pos c17] at H
                have c17b0 : decide (0 < (x11_2.length : Int)) = true := decide_eq_true c17
                have c17b1 : decide (0 < x11_2.length) = true := decide_eq_true (by omega)
                clear c17
                by_cases c18 : 1 < (x11_2.length : Int)
                rotate_left
                · rw [if_neg c18] at H
                  exact absurd H (by simp)
                rw [if_pos c18] at H
                have c18b0 : decide (1 < (x11_2.length : Int)) = true := decide_eq_true c18
                have c18b1 : decide (1 < x11_2.length) = true := decide_eq_true (by omega)
                clear c18
                by_cases c19 : 2 < (x11_2.length : Int)
                rotate_left
                · rw [if_neg c19] at H
                  exact absurd H (by simp)
                rw [if_pos c19] at H
                have c19b0 : decide (2 < (x11_2.length : Int)) = true := decide_eq_true c19
                have c19b1 : decide (2 < x11_2.length) = true := decide_eq_true (by omega)
                clear c19
                by_cases c20 : 3 < (x11_2.length : Int)
                rotate_left
                · rw [if_neg c20] at H
                  exact absurd H (by simp)
                rw [if_pos c20] at H
                have c20b0 : decide (3 < (x11_2.length : Int)) = true := decide_eq_true c20
                have c20b1 : decide (3 < x11_2.length) = true := decide_eq_true (by omega)
                clear c20
                by_cases c21 : x9_1.length < 4398046511104
                rotate_left
                · rw [if_neg c21] at H
                  exact absurd H (by simp)
                rw [if_pos c21] at H
                have LMc21 := Aside0.mk c21
                clear c21
                obtain ⟨y310, hy310⟩ : ∃ y_ : List (S24), y_ = (x9_1 ++ [(⟨rd x11_2 0, rd x11_2 1, rd x11_2 2, rd x11_2 3⟩ : S24)]) := ⟨_, rfl⟩
                replace H : (thalwegref07_Parse.l0 k2 l0 x1_2 t292 y310 (wrap64 (x10_1 + 1))) = some (r1, r2, r3) := by first | (rw [hy310]; with_reducible exact H) | (have H2_ := (Option.bind_some _ _).symm.trans H; rw [hy310]; with_reducible exact H2_) | (have H2_ := (Option.bind_some _ _).symm.trans H; with_reducible exact H2_) | with_reducible exact H | (rw [hy310]; exact H) | exact H
                have Ny310 := Aside0.mk hy310
                clear hy310
                have H' := Aside0.mk H
                clear H
                try go_wp2
                have n0_ := Aside0.mk (Kd.R_drew HO_9.out)
                have n1_ := Aside0.mk (Kd.R_drew HO_11.out)
                have n2_ := Aside0.mk (Kd.R_drew HO_12.out)
                have n3_ := Aside0.mk (below_drew1 HB.out)
                clear HO_9
                clear HO_11
                clear HO_12
                clear HB
                have HO_9 := n0_
                have HO_11 := n1_
                have HO_12 := n2_
                have HB := n3_
                clear n0_ n1_ n2_ n3_
                obtain ⟨Ao23, co23, eo23⟩ := Kd.R_slice HO_11.out
                (first | subst eo23 | (injection eo23 with f1_ f2_ f3_; have f4_ := f1_.symm; have f5_ := f3_.symm; clear f1_ f2_ f3_; subst f4_; subst f5_))
                have p306 : 0 ≤ (0 : Int) := (by omega)
                have q306 : 0 < (x11_2.length : Int) := of_decide_eq_true (by first | (with_reducible assumption) | assumption)
                obtain ⟨ad306, e306, hx306_0⟩ := Kd.at_int (Kd.R_reads' HO_11.out).2.2 0 p306 q306
                cases e306
                have qi306 : (0 < x11_2.length) = True := eq_true (by omega)
                (try rw [show ((0 : Int)).toNat = 0 from rfl] at hx306_0)
                (try rw [Addr.add_zero'] at hx306_0)
                replace p306 := eq_true p306
                replace q306 := eq_true q306
                have p307 : 0 ≤ (1 : Int) := (by omega)
                have q307 : 1 < (x11_2.length : Int) := of_decide_eq_true (by first | (with_reducible assumption) | assumption)
                obtain ⟨ad307, e307, hx307_0⟩ := Kd.at_int (Kd.R_reads' HO_11.out).2.2 1 p307 q307
                obtain rfl : ad306 = ad307 := (by injection e307)
                (try simp only [show (1 : Int).toNat = 1 from rfl, Nat.reduceMul, Nat.reduceEqDiff, Go.Addr.add, ↓reduceIte] at hx307_0)
                have qi307 : (1 < x11_2.length) = True := eq_true (by omega)
                (try rw [show ((1 : Int)).toNat = 1 from rfl] at hx307_0)
                replace p307 := eq_true p307
                replace q307 := eq_true q307
                have p308 : 0 ≤ (2 : Int) := (by omega)
                have q308 : 2 < (x11_2.length : Int) := of_decide_eq_true (by first | (with_reducible assumption) | assumption)
                obtain ⟨ad308, e308, hx308_0⟩ := Kd.at_int (Kd.R_reads' HO_11.out).2.2 2 p308 q308
                obtain rfl : ad306 = ad308 := (by injection e308)
                (try simp only [show (2 : Int).toNat = 2 from rfl, Nat.reduceMul, Nat.reduceEqDiff, Go.Addr.add, ↓reduceIte] at hx308_0)
                have qi308 : (2 < x11_2.length) = True := eq_true (by omega)
                (try rw [show ((2 : Int)).toNat = 2 from rfl] at hx308_0)
                replace p308 := eq_true p308
                replace q308 := eq_true q308
                have p309 : 0 ≤ (3 : Int) := (by omega)
                have q309 : 3 < (x11_2.length : Int) := of_decide_eq_true (by first | (with_reducible assumption) | assumption)
                obtain ⟨ad309, e309, hx309_0⟩ := Kd.at_int (Kd.R_reads' HO_11.out).2.2 3 p309 q309
                obtain rfl : ad306 = ad309 := (by injection e309)
                (try simp only [show (3 : Int).toNat = 3 from rfl, Nat.reduceMul, Nat.reduceEqDiff, Go.Addr.add, ↓reduceIte] at hx309_0)
                have qi309 : (3 < x11_2.length) = True := eq_true (by omega)
                (try rw [show ((3 : Int)).toNat = 3 from rfl] at hx309_0)
                replace p309 := eq_true p309
                replace q309 := eq_true q309
                refine start_ (n := 17) (S := fun w' => w'.cell? ad306 = some (.int .i64 (rd x11_2 0)) ∧ w'.cell? ⟨ad306.block, ad306.off + 1, none⟩ = some (.int .i64 (rd x11_2 1)) ∧ w'.cell? ⟨ad306.block, ad306.off + 2, none⟩ = some (.int .i64 (rd x11_2 2)) ∧ w'.cell? ⟨ad306.block, ad306.off + 3, none⟩ = some (.int .i64 (rd x11_2 3))) (ds := [14, 15]) #[false, false, false, false, false, false, false, false, false, false, false, false, false, false, false, false, false] (by kernel_rfl) rfl rfl ⟨hx306_0, hx307_0, hx308_0, hx309_0⟩ (fun hHeld => ?_); refine with_tabW thalwegref07_Parse.tab18 thalwegref07_Parse.bits18 (fun HT_ HW_ => ?_)
                generalize wr.drew = w22 at HO_9 HO_11 HO_12 HB hx306_0 hx307_0 hx308_0 hx309_0 hHeld ⊢
                refine pure_ (i := 0) (N := some 56) (v := ?_) (a' := ?_) #[true, false, false, false, false, false, false, false, false, false, false, false, false, false, false, false, false] rfl rfl (any_of HT_.out (by kernel_rfl)) (fun _ _ _ h => h) (Or.inl ⟨by rfl, ?_⟩) ?_ ?_
                rotate_left
                · intro w'
                  go_simp
                  with_reducible rfl
                rotate_left
                · simp only [Act.put, List.setIfInBounds_toArray, List.set_cons_zero, List.set_cons_succ, i64_w, i32_w]
                  rfl
                refine pure_ (i := 1) (N := some 57) (v := ?_) (a' := ?_) #[true, true, false, false, false, false, false, false, false, false, false, false, false, false, false, false, false] rfl rfl (any_of HT_.out (by kernel_rfl)) (fun _ _ _ h => h) (Or.inl ⟨by rfl, ?_⟩) ?_ ?_
                rotate_left
                · intro w'
                  go_simp
                  with_reducible rfl
                rotate_left
                · simp only [Act.put, List.setIfInBounds_toArray, List.set_cons_zero, List.set_cons_succ, i64_w, i32_w]
                  rfl
                refine pure_ (i := 2) (N := some 58) (v := ?_) (a' := ?_) #[true, true, true, false, false, false, false, false, false, false, false, false, false, false, false, false, false] rfl rfl (any_of HT_.out (by kernel_rfl)) (fun _ _ _ h => h) (Or.inl ⟨by rfl, ?_⟩) ?_ ?_
                rotate_left
                · intro w'
                  go_simp
                  with_reducible rfl
                rotate_left
                · simp only [Act.put, List.setIfInBounds_toArray, List.set_cons_zero, List.set_cons_succ, i64_w, i32_w]
                  rfl
                refine pure_ (i := 4) (N := some 60) (v := ?_) (a' := ?_) #[true, true, true, false, true, false, false, false, false, false, false, false, false, false, false, false, false] rfl rfl (any_of HT_.out (by kernel_rfl)) (fun _ _ _ h => h) (Or.inl ⟨by rfl, ?_⟩) ?_ ?_
                rotate_left
                · intro w'
                  go_simp
                  with_reducible rfl
                rotate_left
                · simp only [Act.put, List.setIfInBounds_toArray, List.set_cons_zero, List.set_cons_succ, i64_w, i32_w]
                  rfl
                refine pure_ (i := 5) (N := some 61) (v := ?_) (a' := ?_) #[true, true, true, false, true, true, false, false, false, false, false, false, false, false, false, false, false] rfl rfl (any_of HT_.out (by kernel_rfl)) (fun _ _ _ h => h) (Or.inl ⟨by rfl, ?_⟩) ?_ ?_
                rotate_left
                · intro w'
                  go_simp
                  with_reducible rfl
                rotate_left
                · simp only [Act.put, List.setIfInBounds_toArray, List.set_cons_zero, List.set_cons_succ, i64_w, i32_w]
                  rfl
                refine pure_ (i := 7) (N := some 63) (v := ?_) (a' := ?_) #[true, true, true, false, true, true, false, true, false, false, false, false, false, false, false, false, false] rfl rfl (any_of HT_.out (by kernel_rfl)) (fun _ _ _ h => h) (Or.inl ⟨by rfl, ?_⟩) ?_ ?_
                rotate_left
                · intro w'
                  go_simp
                  with_reducible rfl
                rotate_left
                · simp only [Act.put, List.setIfInBounds_toArray, List.set_cons_zero, List.set_cons_succ, i64_w, i32_w]
                  rfl
                refine pure_ (i := 8) (N := some 64) (v := ?_) (a' := ?_) #[true, true, true, false, true, true, false, true, true, false, false, false, false, false, false, false, false] rfl rfl (any_of HT_.out (by kernel_rfl)) (fun _ _ _ h => h) (Or.inl ⟨by rfl, ?_⟩) ?_ ?_
                rotate_left
                · intro w'
                  go_simp
                  with_reducible rfl
                rotate_left
                · simp only [Act.put, List.setIfInBounds_toArray, List.set_cons_zero, List.set_cons_succ, i64_w, i32_w]
                  rfl
                refine pure_ (i := 10) (N := some 66) (v := ?_) (a' := ?_) #[true, true, true, false, true, true, false, true, true, false, true, false, false, false, false, false, false] rfl rfl (any_of HT_.out (by kernel_rfl)) (fun _ _ _ h => h) (Or.inl ⟨by rfl, ?_⟩) ?_ ?_
                rotate_left
                · intro w'
                  go_simp
                  with_reducible rfl
                rotate_left
                · simp only [Act.put, List.setIfInBounds_toArray, List.set_cons_zero, List.set_cons_succ, i64_w, i32_w]
                  rfl
                refine pure_ (i := 11) (N := some 67) (v := ?_) (a' := ?_) #[true, true, true, false, true, true, false, true, true, false, true, true, false, false, false, false, false] rfl rfl (any_of HT_.out (by kernel_rfl)) (fun _ _ _ h => h) (Or.inl ⟨by rfl, ?_⟩) ?_ ?_
                rotate_left
                · intro w'
                  go_simp
                  with_reducible rfl
                rotate_left
                · simp only [Act.put, List.setIfInBounds_toArray, List.set_cons_zero, List.set_cons_succ, i64_w, i32_w]
                  rfl
                refine take_ (i := 3) (N := some 59) (v := ?_) (a' := ?_) #[true, true, true, true, true, true, false, true, true, false, true, true, false, false, false, false, false] rfl rfl (take_ofW HT_.out HW_.out (by kernel_rfl)) (fun _ _ _ h => h) (Or.inl ⟨by rfl, ?_⟩) hHeld ?_ ?_
                rotate_left
                · rintro w' ⟨s0, s1, s2, s3⟩
                  go_simp
                  with_reducible rfl
                rotate_left
                · simp only [Act.put, List.setIfInBounds_toArray, List.set_cons_zero, List.set_cons_succ, i64_w, i32_w]
                  rfl
                refine take_ (i := 6) (N := some 62) (v := ?_) (a' := ?_) #[true, true, true, true, true, true, true, true, true, false, true, true, false, false, false, false, false] rfl rfl (take_ofW HT_.out HW_.out (by kernel_rfl)) (fun _ _ _ h => h) (Or.inl ⟨by rfl, ?_⟩) hHeld ?_ ?_
                rotate_left
                · rintro w' ⟨s0, s1, s2, s3⟩
                  go_simp
                  with_reducible rfl
                rotate_left
                · simp only [Act.put, List.setIfInBounds_toArray, List.set_cons_zero, List.set_cons_succ, i64_w, i32_w]
                  rfl
                refine take_ (i := 9) (N := some 65) (v := ?_) (a' := ?_) #[true, true, true, true, true, true, true, true, true, true, true, true, false, false, false, false, false] rfl rfl (take_ofW HT_.out HW_.out (by kernel_rfl)) (fun _ _ _ h => h) (Or.inl ⟨by rfl, ?_⟩) hHeld ?_ ?_
                rotate_left
                · rintro w' ⟨s0, s1, s2, s3⟩
                  go_simp
                  with_reducible rfl
                rotate_left
                · simp only [Act.put, List.setIfInBounds_toArray, List.set_cons_zero, List.set_cons_succ, i64_w, i32_w]
                  rfl
                refine take_ (i := 12) (N := some 68) (v := ?_) (a' := ?_) #[true, true, true, true, true, true, true, true, true, true, true, true, true, false, false, false, false] rfl rfl (take_ofW HT_.out HW_.out (by kernel_rfl)) (fun _ _ _ h => h) (Or.inl ⟨by rfl, ?_⟩) hHeld ?_ ?_
                rotate_left
                · rintro w' ⟨s0, s1, s2, s3⟩
                  go_simp
                  with_reducible rfl
                rotate_left
                · simp only [Act.put, List.setIfInBounds_toArray, List.set_cons_zero, List.set_cons_succ, i64_w, i32_w]
                  rfl
                refine pure_ (i := 13) (N := some 69) (v := ?_) (a' := ?_) #[true, true, true, true, true, true, true, true, true, true, true, true, true, true, false, false, false] rfl rfl (any_of HT_.out (by kernel_rfl)) (fun _ _ _ h => h) (Or.inl ⟨by rfl, ?_⟩) ?_ ?_
                rotate_left
                · intro w'
                  go_simp
                  with_reducible rfl
                rotate_left
                · simp only [Act.put, List.setIfInBounds_toArray, List.set_cons_zero, List.set_cons_succ, i64_w, i32_w]
                  rfl
                refine last_ (i := 14) (N := some 70) #[true, true, true, true, true, true, true, true, true, true, true, true, true, true, true, false, false] rfl rfl (one_of HT_.out (by kernel_rfl)) (by decide) (fun K hK => ?_)
                refine value_ (w1 := ?_) (v := ?_) (by rfl) rfl ?_ ?_
                rotate_left 2
                · go_simp
                  constructor
                  · rfl
                  · rfl
                refine hK.out _ _ ?_
                clear hK K
                refine norm_ (a' := ?_) ?_ ?_
                rotate_left
                · show Act.put _ (some 70) _ = _
                  simp only [Act.put, List.setIfInBounds_toArray, List.set_cons_zero, List.set_cons_succ, i64_w, i32_w]
                  rfl
                refine last_ (i := 15) (N := some 71) #[true, true, true, true, true, true, true, true, true, true, true, true, true, true, true, true, false] rfl rfl (one_of HT_.out (by kernel_rfl)) (by decide) (fun K hK => ?_)
                refine Kd.R_append_step k24 (w0 := w) w.heap.size (by rfl) (.tmp 56) (.tmp 70) 33 24 (.agg #[(.int .i64 0), (.int .i64 0), (.int .i64 0), (.int .i64 0)]) 32 rfl Try.underlying33 info24 rfl (by decide) (by omega) u9 x9_1 (⟨rd x11_2 0, rd x11_2 1, rd x11_2 2, rd x11_2 3⟩ : S24) [.int .i64 (rd x11_2 0), .int .i64 (rd x11_2 1), .int .i64 (rd x11_2 2), .int .i64 (rd x11_2 3)] (fun _ => True) (fun _ => False) rfl rfl ?aP (fun _ hk => hk.elim) ?aF ?aO ?aB ?aS ?aL ?_
                (case aP => exact k24_mkM _ _ _ (⟨rd x11_2 0, rd x11_2 1, rd x11_2 2, rd x11_2 3⟩ : S24))
                (case aB => exact (by repeat (first | (with_reducible first | exact HB.out | apply below_alloc | apply pw_below_drewN | apply below_drew1) | exact HB.out)))
                (case aF => exact (fun _ _ => trivial))
                (case aO => exact (by (with_reducible repeat (first | apply Kd.R_alloc | apply Kd.R_drewN | apply Kd.R_drew)); exact HO_9.out))
                (case aS => exact (below_size (by repeat (first | (with_reducible first | exact HB.out | apply below_alloc | apply pw_below_drewN | apply below_drew1) | exact HB.out))))
                (case aL => have := LMc21.out; omega)
                intro v311 w24 ho hb hg hat
                rw [← Ny310.out] at ho
                have n0_ := Aside0.mk (Kd.R_over' (by (with_reducible repeat (first | apply Kd.R_alloc | apply Kd.R_drewN | apply Kd.R_drew)); exact HO_11.out) (Kd.R_typed (by (with_reducible repeat (first | apply Kd.R_alloc | apply Kd.R_drewN | apply Kd.R_drew)); exact HO_9.out)) (by decide) hg)
                have n1_ := Aside0.mk (Kd.R_over' (by (with_reducible repeat (first | apply Kd.R_alloc | apply Kd.R_drewN | apply Kd.R_drew)); exact HO_12.out) (Kd.R_typed (by (with_reducible repeat (first | apply Kd.R_alloc | apply Kd.R_drewN | apply Kd.R_drew)); exact HO_9.out)) (by decide) hg)
                have n2_ := Aside0.mk (hb)
                have n3_ := Aside0.mk (ho)
                clear HO_11
                clear HO_12
                clear HB
                clear HO_9
                have HO_11 := n0_
                have HO_12 := n1_
                have HB := n2_
                have HO312 := n3_
                clear n0_ n1_ n2_ n3_
                clear ho hb hg hat
                refine hK.out _ _ ?_
                clear hK K
                refine norm_ (a' := ?_) ?_ ?_
                rotate_left
                · show Act.put _ (some 71) _ = _
                  simp only [Act.put, List.setIfInBounds_toArray, List.set_cons_zero, List.set_cons_succ, i64_w, i32_w]
                  rfl
                refine pure_ (i := 16) (N := some 9) (v := ?_) (a' := ?_) #[true, true, true, true, true, true, true, true, true, true, true, true, true, true, true, true, true] rfl rfl (any_of HT_.out (by kernel_rfl)) (fun _ _ _ h => h) (Or.inl ⟨by rfl, ?_⟩) ?_ ?_
                rotate_left
                · intro w'
                  go_simp
                  with_reducible rfl
                rotate_left
                · simp only [Act.put, List.setIfInBounds_toArray, List.set_cons_zero, List.set_cons_succ, i64_w, i32_w]
                  rfl
                refine done_ (done_of HT_.out (by kernel_rfl)) ?_
                try go_wp2
                go_roundg k2
                case measure => have := HK1.out; have := HK2.out; omega
                case rel => exact ⟨(x1_2), (y310), (wrap64 (x10_1 + 1)), (by first | rfl | (simp; done) | (simp [*]; done)), (by first | rfl | (simp; done) | (simp [*]; done)), H', ⟨by have := HK1.out; have := HK2.out; omega⟩, ⟨by (with_reducible repeat (first | apply Kd.R_alloc | apply Kd.R_drewN | apply Kd.R_drew)); exact HO312.out⟩, ⟨by repeat (first | (with_reducible first | exact HB.out | apply below_alloc | apply pw_below_drewN | apply below_drew1) | exact HB.out)⟩⟩
        · rw [if_neg c5] at H
          have c5b0 : decide (x10_1 < t292) = false := decide_eq_false c5
          clear c5
          replace H := Option.bind_eq_some_iff.mp H
          obtain ⟨t295, A250, H⟩ := H
          replace H : (if t295 = true then (some (x9_1, x1_1, 0)) else (some (([] : List (S24)), 0, 4))) = some (r1, r2, r3) := H
          have A25 := Aside0.mk A250
          clear A250
          by_cases c26 : t295 = true
          · subst c26
            have H1 : (some (x9_1, x1_1, 0)) = some (r1, r2, r3) := by rw [if_pos rfl] at H; exact H
            clear H
            have H := H1
            clear H1
            simp only [Option.some.injEq, Prod.mk.injEq] at H
            obtain ⟨rfl, rfl, rfl⟩ := H
            obtain ⟨Ao27, co27, eo27⟩ := Kd.R_slice HO_9.out
            subst eo27
            go_wp2_with (first | ((with_reducible refine gate_callee (f := 17) rfl ?_); refine goesL_ (some 73) rfl rfl Try.func17 (by kernel_rfl) rfl #[.slice Ao27 x9_1.length co27] rfl (by (try simp only [List.map_toArray, List.map_cons, List.map_nil]); first | done | rfl | (simp only [List.length_drop, List.length_take]; rfl)) ?_; (with_reducible refine (thalwegref07_Right.calls k1 _ _ x9_1 true _ ?side1 ?side2 A25.out).mono ?_); (case side1 => repeat (first | exact (Kd.R_reads' HO_9.out).2.2 | (with_reducible refine Kd.C_alloc ?_ _) | (with_reducible refine Kd.C_drewN ?_ _) | (with_reducible refine Kd.C_drew ?_))); (case side2 => exact (Kd.R_reads' HO_9.out).2.1); rintro e w28 ⟨rfl, hb⟩; refine ⟨_, rfl, ?_⟩; have n0_ := Aside0.mk (Kd.R_below (by (with_reducible repeat (first | apply Kd.R_alloc | apply Kd.R_drewN | apply Kd.R_drew)); exact HO_9.out) hb); have n1_ := Aside0.mk (below_step (by repeat (first | (with_reducible first | exact HB.out | apply below_alloc | apply pw_below_drewN | apply below_drew1) | exact HB.out)) hb); clear HO_9; clear HB; have HO_9 := n0_; have HB := n1_; clear n0_ n1_; (try clear hb); (try clear hb2); (try clear hk); (try clear hi)))
            go_ret3
            exact ⟨_, by first | rfl | (simp [errW_none, errW_some] <;> rfl) | (simp [*, errW_none, errW_some] <;> rfl), by (with_reducible repeat (first | apply Kd.R_alloc | apply Kd.R_drewN | apply Kd.R_drew)); exact HO_9.out, by repeat (first | (with_reducible first | exact HB.out | apply below_alloc | apply pw_below_drewN | apply below_drew1) | exact HB.out)⟩
          · replace c26 := Bool.eq_false_iff.mpr c26
            subst c26
            have H1 : (some (([] : List (S24)), 0, 4)) = some (r1, r2, r3) := by rw [if_neg (show ¬ (false = true) by decide)] at H; exact H
            clear H
            have H := H1
            clear H1
            simp only [Option.some.injEq, Prod.mk.injEq] at H
            obtain ⟨rfl, rfl, rfl⟩ := H
            obtain ⟨Ao29, co29, eo29⟩ := Kd.R_slice HO_9.out
            subst eo29
            go_wp2_with (first | ((with_reducible refine gate_callee (f := 17) rfl ?_); refine goesL_ (some 73) rfl rfl Try.func17 (by kernel_rfl) rfl #[.slice Ao29 x9_1.length co29] rfl (by (try simp only [List.map_toArray, List.map_cons, List.map_nil]); first | done | rfl | (simp only [List.length_drop, List.length_take]; rfl)) ?_; (with_reducible refine (thalwegref07_Right.calls k1 _ _ x9_1 false _ ?side1 ?side2 A25.out).mono ?_); (case side1 => repeat (first | exact (Kd.R_reads' HO_9.out).2.2 | (with_reducible refine Kd.C_alloc ?_ _) | (with_reducible refine Kd.C_drewN ?_ _) | (with_reducible refine Kd.C_drew ?_))); (case side2 => exact (Kd.R_reads' HO_9.out).2.1); rintro e w30 ⟨rfl, hb⟩; refine ⟨_, rfl, ?_⟩; have n0_ := Aside0.mk (Kd.R_below (by (with_reducible repeat (first | apply Kd.R_alloc | apply Kd.R_drewN | apply Kd.R_drew)); exact HO_9.out) hb); have n1_ := Aside0.mk (below_step (by repeat (first | (with_reducible first | exact HB.out | apply below_alloc | apply pw_below_drewN | apply below_drew1) | exact HB.out)) hb); clear HO_9; clear HB; have HO_9 := n0_; have HB := n1_; clear n0_ n1_; (try clear hb); (try clear hb2); (try clear hk); (try clear hi)))
            go_ret3
            exact ⟨_, by first | rfl | (simp [errW_none, errW_some] <;> rfl) | (simp [*, errW_none, errW_some] <;> rfl), by first | exact Kd.R_nil _ _ _ _ _ | exact Kd.N_nil _ _ _ _ _ | exact Kd.V_nil _ _ _ _ _ | exact Kd.Q_nil _ _ _ _ _ | exact Kd.S_nil _ _ _ _ _, by repeat (first | (with_reducible first | exact HB.out | apply below_alloc | apply pw_below_drewN | apply below_drew1) | exact HB.out)⟩
  · rw [if_neg c4] at H
    have c4b0 : (t294 == 0) = false := beq_eq_false_iff_ne.mpr c4
    have c4b1 : (t294 != 0) = true := bne_iff_ne.mpr c4
    simp only [Option.some.injEq, Prod.mk.injEq] at H
    obtain ⟨rfl, rfl, rfl⟩ := H
    go_enter Try.func21, Try.ntmps21
    go_wp2_with (first | ((with_reducible refine gate_callee (f := 34) rfl ?_); refine goesL_ (some 20) rfl rfl Try.func34 (by kernel_rfl) rfl #[.slice A0 l0.length c0, .int .i64 a1, .int .i64 1] rfl (by (try simp only [List.map_toArray, List.map_cons, List.map_nil]); first | done | rfl | (simp only [List.length_drop, List.length_take]; rfl)) ?_; (with_reducible refine (thalwegref01_Get.calls k _ _ l0 a1 1 t292 t293 t294 _ ?side1 ?side2 A3.out).mono ?_); (case side1 => repeat (first | exact HR0.out | (with_reducible refine Kd.C_alloc ?_ _) | (with_reducible refine Kd.C_drewN ?_ _) | (with_reducible refine Kd.C_drew ?_))); (case side2 => exact HC0.out); rintro e w' ⟨rfl, ⟨nd, rfl⟩⟩; refine ⟨_, rfl, ?_⟩))
    go_ret3
    exact ⟨_, by first | rfl | (simp [errW_none, errW_some] <;> rfl) | (simp [*, errW_none, errW_some] <;> rfl), by first | exact Kd.R_nil _ _ _ _ _ | exact Kd.N_nil _ _ _ _ _ | exact Kd.V_nil _ _ _ _ _ | exact Kd.Q_nil _ _ _ _ _ | exact Kd.S_nil _ _ _ _ _, by repeat (first | (with_reducible first | exact HB.out | apply below_alloc | apply pw_below_drewN | apply below_drew1) | exact HB.out)⟩
end Go.Proofs.Ytolfbnkdmafomaa.P
namespace Go.Proofs.Ytolfbnkdmafomaa.P
open Go.RowKit Go.Proofs.YtolfbnkdmafomaaW.PrintWords Go.Proofs.YtolfbnkdmafomaaW.PrintLast Go.Proofs.YtolfbnkdmafomaaW.PrintMore
attribute [local go_sem] max2_int min2_int max_two min_two max_three min_three max_four min_four   -- for this text's walks alone
attribute [local go_sem high] eqA24
def thalwegref07_Same.l0 : Nat → List (S24) → List (S24) → Int → Option (Bool)
  | 0, _, _, _ => none
  | k + 1, x0, x1, x5 => if x5 < (x0.length : Int) then (if 0 ≤ x5 then (if x5 < (x1.length : Int) then (if (!(((rd_T24 x0 x5).f0) == ((rd_T24 x1 x5).f0)) || (!(((rd_T24 x0 x5).f1) == ((rd_T24 x1 x5).f1)) || (!(((rd_T24 x0 x5).f2) == ((rd_T24 x1 x5).f2)) || (!(((rd_T24 x0 x5).f3) == ((rd_T24 x1 x5).f3)))))) = true then (some false) else (thalwegref07_Same.l0 k x0 x1 (wrap64 (x5 + 1)))) else (none)) else (none)) else (some true)
def thalwegref07_Same.f (k : Nat) (l0 : List (S24)) (l1 : List (S24)) : Option (Bool) := if (l0.length : Int) = (l1.length : Int) then (thalwegref07_Same.l0 k l0 l1 0) else (some false)
theorem thalwegref07_Same.mono_l : ∀ k, (∀ y0 y1 y2, LeO (thalwegref07_Same.l0 k y0 y1 y2) (thalwegref07_Same.l0 (k + 1) y0 y1 y2))
  | 0 => fun _ _ _ r h => by simp [thalwegref07_Same.l0] at h
  | k + 1 => by
    have ih0 := thalwegref07_Same.mono_l k
    · intro y0 y1 y2
      unfold thalwegref07_Same.l0
      repeat' first
      | (with_reducible exact ih0 _ _ _)
      | (with_reducible exact LeO.refl _)
      | (with_reducible exact LeO.none _)
      | (with_reducible refine LeO.ite ?_ ?_)
      | (with_reducible refine LeO.bind ?_ (fun _ => ?_))
      | exact ih0 _ _ _
      | exact LeO.none _
      | refine LeO.ite ?_ ?_
      | refine LeO.bind ?_ (fun _ => ?_)
theorem thalwegref07_Same.mono : ∀ a0 a1 k, LeO (thalwegref07_Same.f k a0 a1) (thalwegref07_Same.f (k + 1) a0 a1) := by
  intro a0 a1 k
  have ih0 := thalwegref07_Same.mono_l k
  unfold thalwegref07_Same.f
  repeat' first
      | (with_reducible exact ih0 _ _ _)
      | (with_reducible exact LeO.refl _)
      | (with_reducible exact LeO.none _)
      | (with_reducible refine LeO.ite ?_ ?_)
      | (with_reducible refine LeO.bind ?_ (fun _ => ?_))
      | exact ih0 _ _ _
      | exact LeO.none _
      | refine LeO.ite ?_ ?_
      | refine LeO.bind ?_ (fun _ => ?_)
set_option maxHeartbeats 8000000 in
set_option maxRecDepth 100000 in
theorem thalwegref07_Same.calls (k : Nat) (A0 : Option Addr) (c0 : Nat) (l0 : List (S24)) (A1 : Option Addr) (c1 : Nat) (l1 : List (S24)) (r : Bool) (w : World) (hr0 : Kd.C k24 w A0 l0.length l0) (hc0 : l0.length ≤ c0) (hr1 : Kd.C k24 w A1 l1.length l1) (hc1 : l1.length ≤ c1) (h : thalwegref07_Same.f k l0 l1 = some r) :
    Calls Try.prog 22 #[.slice A0 l0.length c0, .slice A1 l1.length c1] w fun e w' => e = .returned (.bool r) ∧ Drawn0 w w' := by
  have hu24 := Try.underlying24
  have HR0 := Aside0.mk hr0
  have HC0 := Aside0.mk hc0
  clear hr0 hc0
  have HR1 := Aside0.mk hr1
  have HC1 := Aside0.mk hc1
  clear hr1 hc1
  have H : (if (l0.length : Int) = (l1.length : Int) then (thalwegref07_Same.l0 k l0 l1 0) else (some false)) = some r := h
  clear h
  by_cases c3 : (l0.length : Int) = (l1.length : Int)
  · rw [if_pos c3] at H
    have c3b0 : ((l0.length : Int) == (l1.length : Int)) = true := beq_iff_eq.mpr c3
    have c3b1 : ((l0.length : Int) != (l1.length : Int)) = false := bne_eq_false_iff_eq.mpr c3
    have c3b2 : (l0.length == l1.length) = true := by first | simpa using c3 | (simp at c3 ⊢; omega)
    clear c3
    have H' := Aside0.mk H
    clear H
    go_enter Try.func22, Try.ntmps22
    go_wp2
    repeat (go_quiet (fail); try go_wp2)
    go_loopg [5] k (fun kq v5 w' => ∃ (x5_1 : Int), v5 = .int .i64 x5_1 ∧ Aside0 (thalwegref07_Same.l0 kq l0 l1 x5_1 = some r) ∧ Aside0 (kq ≤ k) ∧ Drawn0 w w')
    case atStart => exact ⟨(0), (by first | rfl | (simp; done) | (simp [*]; done)), H', ⟨Nat.le_refl _⟩, by repeat (first | exact Drawn0.refl _ | apply Drawn0.step)⟩
    case round =>
      clear H'
      try clear c1
      try clear c2
      try clear p2
      try clear c3
      try clear c3b0
      try clear c3b1
      try clear c3b2
      obtain ⟨x5_1, rfl, HA, HK1, ⟨m1, rfl⟩⟩ := hrel
      cases gk with
      | zero => exact absurd HA.out (by simp [thalwegref07_Same.l0])
      | succ k1 =>
        have H := HA.out
        clear HA
        simp only [thalwegref07_Same.l0] at H
        by_cases c4 : x5_1 < (l0.length : Int)
        · rw [if_pos c4] at H
          have c4b0 : decide (x5_1 < (l0.length : Int)) = true := decide_eq_true c4
          clear c4
          by_cases c5 : 0 ≤ x5_1
          rotate_left
          · rw [if_neg c5] at H
            exact absurd H (by simp)
          rw [if_pos c5] at H
          have c5b0 : decide (0 ≤ x5_1) = true := decide_eq_true c5
          clear c5
          by_cases c6 : x5_1 < (l1.length : Int)
          rotate_left
          · rw [if_neg c6] at H
            exact absurd H (by simp)
          rw [if_pos c6] at H
          have c6b0 : decide (x5_1 < (l1.length : Int)) = true := decide_eq_true c6
          clear c6
          by_cases c7 : (!(((rd_T24 l0 x5_1).f0) == ((rd_T24 l1 x5_1).f0)) || (!(((rd_T24 l0 x5_1).f1) == ((rd_T24 l1 x5_1).f1)) || (!(((rd_T24 l0 x5_1).f2) == ((rd_T24 l1 x5_1).f2)) || (!(((rd_T24 l0 x5_1).f3) == ((rd_T24 l1 x5_1).f3)))))) = true
          · rw [if_pos c7] at H
            have c7b0 : (!(((rd_T24 l0 x5_1).f0) == ((rd_T24 l1 x5_1).f0)) || (!(((rd_T24 l0 x5_1).f1) == ((rd_T24 l1 x5_1).f1)) || (!(((rd_T24 l0 x5_1).f2) == ((rd_T24 l1 x5_1).f2)) || (!(((rd_T24 l0 x5_1).f3) == ((rd_T24 l1 x5_1).f3)))))) = true := c7
            clear c7
            obtain rfl := Option.some.inj H
            have p313 : 0 ≤ (x5_1 : Int) := of_decide_eq_true (by first | (with_reducible assumption) | assumption)
            have q313 : x5_1 < (l0.length : Int) := of_decide_eq_true (by first | (with_reducible assumption) | assumption)
            obtain ⟨ad313, e313, hx313_0, hx313_1, hx313_2, hx313_3⟩ := at_T24 HR0.out x5_1 p313 q313
            cases e313
            replace p313 := eq_true p313
            replace q313 := eq_true q313
            have p314 : 0 ≤ (x5_1 : Int) := of_decide_eq_true (by first | (with_reducible assumption) | assumption)
            have q314 : x5_1 < (l1.length : Int) := of_decide_eq_true (by first | (with_reducible assumption) | assumption)
            obtain ⟨ad314, e314, hx314_0, hx314_1, hx314_2, hx314_3⟩ := at_T24 HR1.out x5_1 p314 q314
            cases e314
            replace p314 := eq_true p314
            replace q314 := eq_true q314
            go_wp2
            repeat (go_quiet (fail); try go_wp2)
            go_ret
            exact ⟨by first | rfl | (simp; done) | (simp [*]; done), by repeat (first | exact Drawn0.refl _ | apply Drawn0.step)⟩
          · rw [if_neg c7] at H
            have c7b0 : (!(((rd_T24 l0 x5_1).f0) == ((rd_T24 l1 x5_1).f0)) || (!(((rd_T24 l0 x5_1).f1) == ((rd_T24 l1 x5_1).f1)) || (!(((rd_T24 l0 x5_1).f2) == ((rd_T24 l1 x5_1).f2)) || (!(((rd_T24 l0 x5_1).f3) == ((rd_T24 l1 x5_1).f3)))))) = false := by simpa using c7
            clear c7
            have H' := Aside0.mk H
            clear H
            have p313 : 0 ≤ (x5_1 : Int) := of_decide_eq_true (by first | (with_reducible assumption) | assumption)
            have q313 : x5_1 < (l0.length : Int) := of_decide_eq_true (by first | (with_reducible assumption) | assumption)
            obtain ⟨ad313, e313, hx313_0, hx313_1, hx313_2, hx313_3⟩ := at_T24 HR0.out x5_1 p313 q313
            cases e313
            replace p313 := eq_true p313
            replace q313 := eq_true q313
            have p314 : 0 ≤ (x5_1 : Int) := of_decide_eq_true (by first | (with_reducible assumption) | assumption)
            have q314 : x5_1 < (l1.length : Int) := of_decide_eq_true (by first | (with_reducible assumption) | assumption)
            obtain ⟨ad314, e314, hx314_0, hx314_1, hx314_2, hx314_3⟩ := at_T24 HR1.out x5_1 p314 q314
            cases e314
            replace p314 := eq_true p314
            replace q314 := eq_true q314
            go_wp2
            repeat (go_quiet (fail); try go_wp2)
            go_roundg k1
            case measure => have := HK1.out; omega
            case rel => exact ⟨(wrap64 (x5_1 + 1)), (by first | rfl | (simp; done) | (simp [*]; done)), H', ⟨by have := HK1.out; omega⟩, by repeat (first | exact Drawn0.refl _ | apply Drawn0.step)⟩
        · rw [if_neg c4] at H
          have c4b0 : decide (x5_1 < (l0.length : Int)) = false := decide_eq_false c4
          clear c4
          obtain rfl := Option.some.inj H
          go_wp2
          repeat (go_quiet (fail); try go_wp2)
          go_ret
          exact ⟨by first | rfl | (simp; done) | (simp [*]; done), by repeat (first | exact Drawn0.refl _ | apply Drawn0.step)⟩
  · rw [if_neg c3] at H
    have c3b0 : ((l0.length : Int) == (l1.length : Int)) = false := beq_eq_false_iff_ne.mpr c3
    have c3b1 : ((l0.length : Int) != (l1.length : Int)) = true := bne_iff_ne.mpr c3
    have c3b2 : (l0.length == l1.length) = false := by first | simpa using c3 | (simp at c3 ⊢; omega)
    obtain rfl := Option.some.inj H
    go_enter Try.func22, Try.ntmps22
    go_wp2
    repeat (go_quiet (fail); try go_wp2)
    go_ret
    exact ⟨by first | rfl | (simp; done) | (simp [*]; done), by repeat (first | exact Drawn0.refl _ | apply Drawn0.step)⟩
end Go.Proofs.Ytolfbnkdmafomaa.P
namespace Go.Proofs.Ytolfbnkdmafomaa.P
open Go.RowKit Go.Proofs.YtolfbnkdmafomaaW.PrintWords Go.Proofs.YtolfbnkdmafomaaW.PrintLast Go.Proofs.YtolfbnkdmafomaaW.PrintMore
theorem one_eq (a : S24) : thalwegref07_One.f a.f0 a.f1 a.f2 a.f3 = some (decide (SA a)) := by
  unfold thalwegref07_One.f thalwegref06_Epoch.f
  by_cases h1 : a.f0 ≥ 0
  · rw [if_pos h1]
    by_cases h2 : a.f0 < 64
    · rw [if_pos h2]
      by_cases h3 : a.f1 ≥ 0
      · rw [if_pos h3]
        by_cases h4 : a.f1 ≤ 4294967295
        · rw [decide_eq_true h4, Option.bind_some, if_pos rfl]
          by_cases h5 : a.f2 ≥ 0
          · rw [if_pos h5]
            by_cases h6 : a.f2 ≤ 65535
            · rw [if_pos h6]
              by_cases h7 : a.f3 ≥ 0
              · rw [if_pos h7]
                congr 1
                by_cases h8 : a.f3 ≤ 65535
                · rw [decide_eq_true h8, decide_eq_true (show SA a from ⟨⟨h1, h2⟩, ⟨h3, h4⟩, ⟨h5, h6⟩, h7, h8⟩)]
                · rw [decide_eq_false h8, decide_eq_false fun x : SA a => h8 x.2.2.2.2]
              · rw [if_neg h7, decide_eq_false fun x : SA a => h7 x.2.2.2.1]
            · rw [if_neg h6, decide_eq_false fun x : SA a => h6 x.2.2.1.2]
          · rw [if_neg h5, decide_eq_false fun x : SA a => h5 x.2.2.1.1]
        · rw [decide_eq_false h4, Option.bind_some, if_neg (by decide), decide_eq_false fun x : SA a => h4 x.2.1.2]
      · rw [if_neg h3, Option.bind_some, if_neg (by decide), decide_eq_false fun x : SA a => h3 x.2.1.1]
    · rw [if_neg h2, decide_eq_false fun x : SA a => h2 x.1.2]
  · rw [if_neg h1, decide_eq_false fun x : SA a => h1 x.1.1]
theorem rright_l0 (l : List S24) (hn : l.length ≤ 1000000) : ∀ (d : Nat) (i : Int), 0 ≤ i → (l.length : Int) - i = d →
    Ev (fun k => thalwegref07_Right.l0 k l i) (upA (prevA l i) (l.drop i.toNat) && decide (1 ≤ l.length ∧ l.length ≤ 64)) := by
  intro d
  induction d with
  | zero =>
    intro i h0 hd
    refine Ev.from 1 fun k => ?_
    simp only [thalwegref07_Right.l0]
    rw [if_neg (by omega), List.drop_eq_nil_of_le (by omega)]
    simp only [upA, Bool.true_and]
    by_cases c : (l.length : Int) ≥ 1
    · rw [if_pos c]
      congr 1
      by_cases c2 : (l.length : Int) ≤ 64
      · rw [decide_eq_true c2, decide_eq_true (show 1 ≤ l.length ∧ l.length ≤ 64 by omega)]
      · rw [decide_eq_false c2, decide_eq_false (show ¬ (1 ≤ l.length ∧ l.length ≤ 64) by omega)]
    · rw [if_neg c, decide_eq_false (show ¬ (1 ≤ l.length ∧ l.length ≤ 64) by omega)]
  | succ d ih =>
    intro i h0 hd
    have h1 : i < (l.length : Int) := by omega
    refine Ev.step (f := fun k => _) (fun k => by simp only [thalwegref07_Right.l0]; rfl) ?_
    simp only [if_pos h1, if_pos h0, w64 (x := i + 1) (by omega) (by omega), one_eq, Option.bind_some]
    have hi := ih (i + 1) (by omega) (by omega)
    rw [prevA_succ l i h0] at hi
    rw [acks_get l i h0 h1]
    by_cases c1 : SA (rd_T24 l i)
    · simp only [decide_eq_true c1, if_true, upA, Bool.true_and]
      by_cases c2 : i > 0
      · simp only [if_pos c2, w64 (x := i - 1) (by omega) (by omega)]
        simp only [if_pos (show 0 ≤ i - 1 by omega), if_pos (show i - 1 < (l.length : Int) by omega)]
        rw [prevA_pos l i (by omega)]
        by_cases c3 : (rd_T24 l (i - 1)).f0 ≥ (rd_T24 l i).f0
        · simp only [if_pos c3, decide_eq_false (show ¬ (rd_T24 l (i - 1)).f0 < (rd_T24 l i).f0 by omega), Bool.false_and]
          exact Ev.now _
        · simp only [if_neg c3, decide_eq_true (show (rd_T24 l (i - 1)).f0 < (rd_T24 l i).f0 by omega), Bool.true_and]
          exact hi
      · simp only [if_neg c2]
        rw [decide_eq_true (show prevA l i < (rd_T24 l i).f0 by unfold prevA; rw [if_pos (by omega)]; have := c1.1; omega), Bool.true_and]
        exact hi
    · simp only [decide_eq_false c1, Bool.false_eq_true, if_false, upA, Bool.false_and]
      exact Ev.now _
theorem rright_ev (l : List S24) (hn : l.length ≤ 1000000) : Ev (fun k => thalwegref07_Right.f k l) (decide (RA l)) := by
  have h := rright_l0 l hn l.length 0 (by omega) (by omega)
  have e : (upA (prevA l 0) (l.drop (0 : Int).toNat) && decide (1 ≤ l.length ∧ l.length ≤ 64)) = decide (RA l) := by
    show (upA (-1) l && decide (1 ≤ l.length ∧ l.length ≤ 64)) = _
    rw [Bool.eq_iff_iff, Bool.and_eq_true, decide_eq_true_eq, decide_eq_true_eq]
    exact ⟨fun h => ⟨h.2.1, h.2.2, h.1⟩, fun h => ⟨h.2.2, h.1, h.2.1⟩⟩
  rw [e] at h
  exact h
end Go.Proofs.Ytolfbnkdmafomaa.P
namespace Go.Proofs.Ytolfbnkdmafomaa.P
open Go.RowKit Go.Proofs.YtolfbnkdmafomaaW.PrintWords Go.Proofs.YtolfbnkdmafomaaW.PrintLast Go.Proofs.YtolfbnkdmafomaaW.PrintMore
def far (a b : Int) : Int := (b - a) % 65536
theorem far_range (a b : Int) : 0 ≤ far a b ∧ far a b < 65536 := by unfold far; omega
theorem serial_Far_eq (k : Nat) (a b : Int) : serial_Far.f (k + 3) a b = some (far a b) := by
  unfold serial_Far.f serial_of.f
  simp only [serial_of.l0, List.length_cons, List.length_nil]
  simp [rd, wrap64, IntKind.wrap_u16, far]
  omega
theorem serial_Far_ev (a b : Int) : Ev (fun k => serial_Far.f k a b) (far a b) := Ev.from 3 (fun k => serial_Far_eq k a b)
def stepMask (nx : Int) (m : Nat) (n : Int) : Nat := if 1 ≤ far nx n ∧ far nx n ≤ 16 then m ||| 2 ^ (far nx n - 1).toNat else m
def mskFrom (nx : Int) (m : Nat) (came : List Int) : Nat := came.foldl (stepMask nx) m
def msk (nx : Int) (came : List Int) : Nat := mskFrom nx 0 came
theorem stepMask_lt {nx : Int} {m : Nat} (n : Int) (h : m < 65536) : stepMask nx m n < 65536 := by
  unfold stepMask
  split
  · rename_i hh
    exact Nat.or_lt_two_pow (n := 16) h (Nat.pow_lt_pow_right (by decide) (by omega))
  · exact h
theorem mskFrom_lt (nx : Int) (came : List Int) : ∀ m : Nat, m < 65536 → mskFrom nx m came < 65536 := by
  induction came with
  | nil => intro m h; exact h
  | cons n l ih => intro m h; exact ih _ (stepMask_lt n h)
theorem mskFrom_bit (nx : Int) (came : List Int) : ∀ (m : Nat) (j : Nat), j < 16 → (mskFrom nx m came).testBit j = (m.testBit j || came.any (fun n => decide (far nx n = j + 1))) := by
  induction came with
  | nil => intro m j hj; simp [mskFrom]
  | cons n l ih =>
    intro m j hj
    show (mskFrom nx (stepMask nx m n) l).testBit j = _
    rw [ih _ j hj, List.any_cons]
    unfold stepMask
    split
    · rename_i hh
      rw [Nat.testBit_or, Nat.testBit_two_pow]
      have : decide ((far nx n - 1).toNat = j) = decide (far nx n = j + 1) := by
        congr 1; apply propext; omega
      rw [this, Bool.or_assoc]
    · rename_i hh
      have : decide (far nx n = (j : Int) + 1) = false := by
        apply decide_eq_false; intro e; apply hh; omega
      rw [this, Bool.false_or]
theorem msk_lt (nx : Int) (came : List Int) : msk nx came < 65536 := mskFrom_lt nx came 0 (by decide)
theorem msk_bit (nx : Int) (came : List Int) (j : Nat) (hj : j < 16) : (msk nx came).testBit j = came.any (fun n => decide (far nx n = j + 1)) := by
  unfold msk; rw [mskFrom_bit nx came 0 j hj]; simp
theorem or_step (nx n : Int) (m : Nat) (hm : m < 65536) (h1 : 1 ≤ far nx n) (h2 : far nx n ≤ 16) : Go.bits .or .i64 (m : Int) (shl .i64 1 (wrap64 (far nx n - 1))) = ((stepMask nx m n : Nat) : Int) := by
  rw [w64 (by omega) (by omega)]
  have hp : 2 ^ (far nx n - 1).toNat ≤ 2 ^ 16 := Nat.pow_le_pow_right (by decide) (by omega)
  have e : shl .i64 1 (far nx n - 1) = ((2 ^ (far nx n - 1).toNat : Nat) : Int) := by
    unfold shl
    rw [Nat.min_eq_left (by simp [IntKind.bits]; omega), Int.one_mul, IntKind.wrap_i64]
    have hc : ((2 : Int) ^ (far nx n - 1).toNat) = ((2 ^ (far nx n - 1).toNat : Nat) : Int) := by simp
    rw [hc]
    generalize 2 ^ (far nx n - 1).toNat = q at *
    omega
  rw [e, bits_or_i64 _ _ (by omega) (by omega)]
  unfold stepMask
  rw [if_pos ⟨h1, h2⟩]
theorem ack_Of_l0 (nx : Int) (came : List Int) (hl : came.length ≤ 1000) (id ep nn : Int) : ∀ (d : Nat) (i : Int) (m : Nat), 0 ≤ i → (came.length : Int) - i = d → m < 65536 →
    Ev (fun k => ack_Of.l0 k nx came came.length i id ep nn m) (id, ep, nn, ((mskFrom nx m (came.drop i.toNat) : Nat) : Int), 0) := by
  intro d
  induction d with
  | zero =>
    intro i m h0 hd hm
    refine Ev.from 1 fun k => ?_
    simp only [ack_Of.l0]
    rw [if_neg (by omega), List.drop_eq_nil_of_le (by omega)]
    rfl
  | succ d ih =>
    intro i m h0 hd hm
    refine Ev.step (f := fun k => _) (fun k => by simp only [ack_Of.l0]; rfl) ?_
    have h1 : i < (came.length : Int) := by omega
    simp only [if_pos h0, if_pos h1]
    refine Ev.bind (serial_Far_ev _ _) ?_
    have hr := far_range nx (rd came i)
    have hw : wrap64 (i + 1) = i + 1 := w64 (by omega) (by omega)
    rw [rd_get came i h0 h1]
    show Ev _ (id, ep, nn, ((mskFrom nx (stepMask nx m (rd came i)) (came.drop (i + 1).toNat) : Nat) : Int), 0)
    by_cases c1 : far nx (rd came i) ≥ 1
    · by_cases c2 : far nx (rd came i) ≤ 16
      · have hn : 0 ≤ wrap64 (far nx (rd came i) - 1) := by rw [w64 (by omega) (by omega)]; omega
        simp only [if_pos c1, if_pos c2, if_pos hn, hw, or_step nx _ m hm c1 c2]
        exact ih (i + 1) _ (by omega) (by omega) (stepMask_lt _ hm)
      · simp only [if_pos c1, if_neg c2, hw]
        have : stepMask nx m (rd came i) = m := by unfold stepMask; rw [if_neg (by omega)]
        rw [this]
        exact ih (i + 1) _ (by omega) (by omega) hm
    · simp only [if_neg c1, hw]
      have : stepMask nx m (rd came i) = m := by unfold stepMask; rw [if_neg (by omega)]
      rw [this]
      exact ih (i + 1) _ (by omega) (by omega) hm
theorem ack_Of_bad (nx : Int) (came : List Int) (h : nx < 0 ∨ nx > 65535) : Ev (fun k => ack_Of.f k nx came) (0, 0, 0, 0, 1) := by
  refine Ev.from 1 fun k => ?_
  unfold ack_Of.f
  by_cases c : nx < 0
  · rw [if_pos c]; simp only [ack_Of.j0]; rfl
  · rw [if_neg c, decide_eq_true (show nx > 65535 by omega)]; simp only [ack_Of.j0]; rfl
theorem ack_Of_ok (nx : Int) (came : List Int) (hl : came.length ≤ 1000) (h0 : 0 ≤ nx) (h1 : nx ≤ 65535) : Ev (fun k => ack_Of.f k nx came) (0, 0, nx, ((msk nx came : Nat) : Int), 0) := by
  unfold ack_Of.f
  simp only [if_neg (show ¬ nx < 0 by omega), decide_eq_false (show ¬ nx > 65535 by omega)]
  refine Ev.step (f := fun k => _) (fun k => by simp only [ack_Of.j0]; rfl) ?_
  simp only [Bool.false_eq_true, if_false]
  exact ack_Of_l0 nx came hl 0 0 nx came.length 0 0 (by omega) (by omega) (by decide)
def hasB (nx : Int) (m : Nat) (n : Int) : Bool := decide (32768 ≤ far nx n) || (decide (1 ≤ far nx n) && (decide (far nx n ≤ 16) && m.testBit (far nx n - 1).toNat))
theorem mask_has_eq (m : Nat) (t : Int) (hm : m < 65536) (h1 : 1 ≤ t) (h2 : t ≤ 16) : ack_mask_has.f (m : Int) t = some (m.testBit (t - 1).toNat) := by
  unfold ack_mask_has.f
  rw [w64 (by omega) (by omega), if_pos (by omega)]
  congr 1
  unfold shr
  rw [Nat.min_eq_left (by simp [IntKind.bits]; omega)]
  rw [show ((m : Int) / 2 ^ (t - 1).toNat) = ((m / 2 ^ (t - 1).toNat : Nat) : Int) by simp]
  have hq : m / 2 ^ (t - 1).toNat ≤ m := Nat.div_le_self _ _
  have hb := bits_and_i64 (m / 2 ^ (t - 1).toNat) 1 (by omega) (by decide)
  rw [show ((1 : Nat) : Int) = 1 from rfl] at hb
  rw [hb, Nat.and_one_is_mod, Nat.testBit_eq_decide_div_mod_eq]
  rw [Bool.eq_iff_iff]
  simp only [beq_iff_eq, decide_eq_true_eq]
  omega
theorem ack_Has_ev (nx : Int) (m : Nat) (n : Int) (h0 : 0 ≤ nx) (h1 : nx ≤ 65535) (hm : m < 65536) : Ev (fun k => ack_Has.f k 0 0 nx m n) (hasB nx m n) := by
  have hr : ack_right.f 0 0 nx m = some true := by
    unfold ack_right.f
    simp only [if_pos (show (0 : Int) ≥ 0 by decide), if_pos (show (0 : Int) < 64 by decide), if_pos (show (0 : Int) ≤ 4294967295 by decide), if_pos (show nx ≥ 0 by omega), if_pos h1, if_pos (show (m : Int) ≥ 0 by omega)]
    rw [decide_eq_true (show (m : Int) ≤ 65535 by omega)]
  unfold ack_Has.f
  simp only [hr, Option.bind_some, if_true]
  refine Ev.bind (serial_Far_ev _ _) ?_
  have hf := far_range nx n
  unfold hasB
  by_cases c0 : far nx n ≥ 32768
  · simp only [if_pos c0]
    rw [decide_eq_true (show 32768 ≤ far nx n from c0)]
    exact Ev.now _
  · simp only [if_neg c0]
    rw [decide_eq_false (show ¬ 32768 ≤ far nx n from c0), Bool.false_or]
    by_cases c1 : far nx n ≥ 1
    · simp only [if_pos c1]
      rw [decide_eq_true (show 1 ≤ far nx n from c1), Bool.true_and]
      by_cases c2 : far nx n ≤ 16
      · simp only [if_pos c2, mask_has_eq m _ hm c1 c2, Option.bind_some]
        rw [decide_eq_true c2, Bool.true_and]
        exact Ev.now _
      · simp only [if_neg c2]
        rw [decide_eq_false c2, Bool.false_and]
        exact Ev.now _
    · simp only [if_neg c1]
      rw [decide_eq_false (show ¬ 1 ≤ far nx n from c1), Bool.false_and]
      exact Ev.now _
theorem has5 (n : Int) : Ev (fun k => ack_Has.f k 0 0 5 3 n) (hasB 5 3 n) := ack_Has_ev 5 3 n (by decide) (by decide) (by decide)
theorem awake07 : Ev (fun k => thalweglaw07_awake.f k) true := by
  unfold thalweglaw07_awake.f
  refine Ev.bind (ack_Of_ok 5 [7, 6, 30] (by decide) (by decide) (by decide)) ?_
  have hm : msk 5 [7, 6, 30] = 3 := by decide
  rw [hm]
  simp only [show ((3 : Nat) : Int) = 3 from rfl, if_true]
  refine Ev.bind (has5 4) ?_
  rw [show hasB 5 3 4 = true by decide]
  simp only [if_true]
  refine Ev.bind (has5 5) ?_
  rw [show hasB 5 3 5 = false by decide]
  simp only [Bool.false_eq_true, if_false]
  refine Ev.bind (has5 6) ?_
  rw [show hasB 5 3 6 = true by decide]
  simp only [if_true]
  refine Ev.bind (has5 8) ?_
  rw [show hasB 5 3 8 = false by decide]
  exact Ev.now _
end Go.Proofs.Ytolfbnkdmafomaa.P
namespace Go.Proofs.Ytolfbnkdmafomaa.P
open Go.RowKit Go.Proofs.YtolfbnkdmafomaaW.PrintWords Go.Proofs.YtolfbnkdmafomaaW.PrintLast Go.Proofs.YtolfbnkdmafomaaW.PrintMore
theorem refPower_l0 (n : Nat) (hn : n ≤ 7) : ∀ (d i : Nat), i + d = n → Ev (fun k => thalwegref01_power.l0 k n (256 ^ i) i) (256 ^ n) := by
  intro d
  induction d with
  | zero =>
    intro i hi
    refine Ev.from 1 fun k => ?_
    simp only [thalwegref01_power.l0]
    rw [if_neg (by omega), show i = n by omega]
  | succ d ih =>
    intro i hi
    have hn2 := ih (i + 1) (by omega)
    have h1 : (i : Int) < (n : Int) := by omega
    have hw : wrap64 ((i : Int) + 1) = ((i + 1 : Nat) : Int) := by rw [w64 (by omega) (by omega)]; simp
    have hp := pow256_le i 6 (by omega)
    rw [show (256 : Int) ^ 6 = 281474976710656 by decide] at hp
    have hp0 := pow256_pos i
    have hm : wrap64 (256 * 256 ^ i) = 256 ^ (i + 1) := by rw [Int.pow_succ, Int.mul_comm]; exact w64 (by omega) (by omega)
    refine Ev.step (f := fun k => _) (fun k => by simp only [thalwegref01_power.l0]; rfl) ?_
    simp only [if_pos h1, hw, hm]
    exact hn2
theorem refPut_l0 (n : Nat) (v : Int) (hn : n ≤ 7) (h0 : 0 ≤ v) (h1 : v < 9223372036854775808) : ∀ (d i : Nat), i + d = n →
    Ev (fun k => thalwegref01_Put.l0 k (v / 256 ^ i) (List.replicate (n - i) 0 ++ be i v) ((n : Int) - 1 - i)) (be n v, 0) := by
  intro d
  induction d with
  | zero =>
    intro i hi
    obtain rfl : i = n := by omega
    refine Ev.from 1 fun k => ?_
    simp only [thalwegref01_Put.l0]
    rw [if_neg (by omega), Nat.sub_self]
    rfl
  | succ d ih =>
    intro i hi
    have hn2 := ih (i + 1) (by omega)
    have t1 : (n : Int) - 1 - i ≥ 0 := by omega
    have t2 : 0 ≤ (n : Int) - 1 - i := t1
    have hlen : (List.replicate (n - i) (0 : Int) ++ be i v).length = n := by rw [List.length_append, List.length_replicate, be_length]; omega
    have t3 : (n : Int) - 1 - i < ((List.replicate (n - i) (0 : Int) ++ be i v).length : Int) := by rw [hlen]; omega
    have hw : wrap64 ((n : Int) - 1 - i - 1) = (n : Int) - 1 - ((i + 1 : Nat) : Int) := by rw [w64 (by omega) (by omega)]; omega
    have hv0 : 0 ≤ v / 256 ^ i := Int.ediv_nonneg h0 (Int.le_of_lt (pow256_pos i))
    have hv1 : v / 256 ^ i ≤ v := Int.ediv_le_self _ h0
    have hd : wrap64 (Int.tdiv (v / 256 ^ i) 256) = v / 256 ^ (i + 1) := by
      rw [Int.tdiv_eq_ediv_of_nonneg hv0, Int.ediv_ediv_of_nonneg (Int.le_of_lt (pow256_pos i)), show (256 : Int) ^ i * 256 = 256 ^ (i + 1) from (Int.pow_succ ..).symm]
      have h2 : 0 ≤ v / 256 ^ (i + 1) := Int.ediv_nonneg h0 (Int.le_of_lt (pow256_pos _))
      have h3 : v / 256 ^ (i + 1) ≤ v := Int.ediv_le_self _ h0
      exact w64 (by omega) (by omega)
    have hm : Int.tmod (v / 256 ^ i) 256 % 256 = v / 256 ^ i % 256 := by
      rw [Int.tmod_eq_emod_of_nonneg hv0]
      omega
    have hs : (List.replicate (n - i) (0 : Int) ++ be i v).set ((n : Int) - 1 - i).toNat (v / 256 ^ i % 256) = List.replicate (n - (i + 1)) 0 ++ be (i + 1) v := by
      rw [show ((n : Int) - 1 - i).toNat = n - (i + 1) by omega, show n - i = (n - (i + 1)) + 1 by omega, be_set, be_cons]
    refine Ev.step (f := fun k => _) (fun k => by simp only [thalwegref01_Put.l0]; rfl) ?_
    simp only [if_pos t1, if_pos t2, if_pos t3, hw, hd, hm, hs]
    exact hn2
theorem refPut_ev (v n : Int) (hv : (Lit.int .i64 v).wf = true) : Ev (fun k => thalwegref01_Put.f k v n) (putSpec v n) := by
  have hb := bnd64 hv
  have done : Ev (fun k => thalwegref01_Put.j0 k v n true) ([], 1) := Ev.from 1 fun k => by simp only [thalwegref01_Put.j0, if_true]
  unfold thalwegref01_Put.f putSpec
  by_cases c1 : n < 1
  · rw [if_neg (by omega)]; simp only [if_pos c1]; exact done
  by_cases c2 : n > 7
  · rw [if_neg (by omega)]; simp only [if_neg c1, if_pos c2]; exact done
  by_cases c3 : v < 0
  · rw [if_neg (by omega)]; simp only [if_neg c1, if_neg c2, if_pos c3]; exact done
  simp only [if_neg c1, if_neg c2, if_neg c3]
  obtain ⟨m, rfl⟩ := Int.eq_ofNat_of_zero_le (show 0 ≤ n by omega)
  have hm : m ≤ 7 := by omega
  refine Ev.bind (a := 256 ^ m) (by unfold thalwegref01_power.f; exact refPower_l0 m hm m 0 (by omega)) ?_
  simp only [Int.toNat_natCast]
  by_cases c4 : v < 256 ^ m
  · rw [if_pos ⟨by omega, by omega, by omega, c4⟩]
    have hp := refPut_l0 m v hm (by omega) (by omega) m 0 (by omega)
    simp only [decide_eq_false (show ¬ v ≥ 256 ^ m by omega)]
    refine Ev.step (f := fun k => _) (fun k => by simp only [thalwegref01_Put.j0]; rfl) ?_
    have t1 : (0 : Int) ≤ (m : Int) := by omega
    have t2 : m ≤ 281474976710656 := by omega
    have t3 : wrap64 ((m : Int) - 1) = (m : Int) - 1 - ((0 : Nat) : Int) := by rw [w64 (by omega) (by omega)]; simp
    simp only [Bool.false_eq_true, if_false, if_pos t1, Int.toNat_natCast, if_pos t2, t3]
    simpa [be] using hp
  · rw [if_neg (fun h => c4 h.2.2.2)]
    simp only [decide_eq_true (show v ≥ 256 ^ m by omega)]
    exact done
end Go.Proofs.Ytolfbnkdmafomaa.P
namespace Go.Proofs.Ytolfbnkdmafomaa.P
open Go.RowKit Go.Proofs.YtolfbnkdmafomaaW.PrintWords Go.Proofs.YtolfbnkdmafomaaW.PrintLast Go.Proofs.YtolfbnkdmafomaaW.PrintMore
theorem rows_get (rows : List (List Int)) (i : Int) (h0 : 0 ≤ i) (h1 : i < rows.length) : rows.drop i.toNat = rd_L6 rows i :: rows.drop (i + 1).toNat := by
  have hi : i.toNat < rows.length := by omega
  rw [List.drop_eq_getElem_cons hi, show (i + 1).toNat = i.toNat + 1 by omega]
  congr 1
  unfold rd_L6
  rw [List.getD_eq_getElem?_getD, List.getElem?_eq_getElem hi]
  rfl
theorem both_l0 (rows : List (List Int)) (hr : rows.length ≤ 1000) : ∀ (d : Nat) (i : Int) (acc : List Int), 0 ≤ i → (rows.length : Int) - i = d → acc.length + (rows.drop i.toNat).flatten.length < 140737488355328 →
    Ev (fun k => thalwegref01_Both.l0 k rows acc i) (acc ++ (rows.drop i.toNat).flatten) := by
  intro d
  induction d with
  | zero =>
    intro i acc h0 hd hl
    refine Ev.from 1 fun k => ?_
    simp only [thalwegref01_Both.l0]
    rw [if_neg (by omega), List.drop_eq_nil_of_le (by omega)]
    simp
  | succ d ih =>
    intro i acc h0 hd hl
    have h1 : i < (rows.length : Int) := by omega
    refine Ev.step (f := fun k => _) (fun k => by simp only [thalwegref01_Both.l0]; rfl) ?_
    rw [rows_get rows i h0 h1] at hl ⊢
    simp only [List.flatten_cons, List.length_append] at hl ⊢
    have hc : acc.length + (rd_L6 rows i).length < 140737488355328 := by omega
    simp only [if_pos h1, if_pos h0, if_pos hc, w64 (x := i + 1) (by omega) (by omega)]
    have := ih (i + 1) (acc ++ rd_L6 rows i) (by omega) (by omega) (by rw [List.length_append]; omega)
    rw [← List.append_assoc]
    exact this
theorem both_ev (rows : List (List Int)) (hr : rows.length ≤ 1000) (hl : rows.flatten.length < 140737488355328) : Ev (fun k => thalwegref01_Both.f k rows) rows.flatten := by
  unfold thalwegref01_Both.f
  have := both_l0 rows hr rows.length 0 [] (by omega) (by omega) (by simpa using hl)
  simpa using this
end Go.Proofs.Ytolfbnkdmafomaa.P
namespace Go.Proofs.Ytolfbnkdmafomaa.P
open Go.RowKit Go.Proofs.YtolfbnkdmafomaaW.PrintWords Go.Proofs.YtolfbnkdmafomaaW.PrintLast Go.Proofs.YtolfbnkdmafomaaW.PrintMore
theorem left_eq (a : Int) (h : -9223372036854775808 ≤ a ∧ a < 9223372036854775808) : thalwegref03_Left.f a = some (a % 65536) := by
  unfold thalwegref03_Left.f
  have ht : Int.tmod a 65536 = if 0 ≤ a then a % 65536 else -((-a) % 65536) := by
    split
    · exact Int.tmod_eq_emod_of_nonneg (by assumption)
    · rw [show a = -(-a) by omega, Int.neg_tmod, Int.tmod_eq_emod_of_nonneg (by omega)]
      simp
  by_cases c : Int.tmod a 65536 < 0
  · rw [if_pos c, w64 (by omega) (by omega)]
    congr 1
    split at ht <;> omega
  · rw [if_neg c]
    congr 1
    split at ht <;> omega
theorem rfar_eq (a b : Int) (ha : (Lit.int .i64 a).wf = true) (hb : (Lit.int .i64 b).wf = true) : thalwegref03_Far.f a b = some (far a b) := by
  have h1 := bnd64 ha
  have h2 := bnd64 hb
  unfold thalwegref03_Far.f
  rw [left_eq a (by omega), left_eq b (by omega)]
  simp only [Option.bind_some]
  rw [w64 (x := b % 65536 - a % 65536) (by omega) (by omega), left_eq _ (by omega)]
  simp only [Option.bind_some]
  unfold far
  congr 1
  omega
theorem rpow_l0 (n : Nat) (hn : n ≤ 60) : ∀ (d i : Nat), i + d = n → Ev (fun k => thalwegref07_power.l0 k n ((2 ^ i : Nat) : Int) i) ((2 ^ n : Nat) : Int) := by
  intro d
  induction d with
  | zero =>
    intro i hi
    refine Ev.from 1 fun k => ?_
    simp only [thalwegref07_power.l0]
    rw [if_neg (by omega), show i = n by omega]
  | succ d ih =>
    intro i hi
    have hn2 := ih (i + 1) (by omega)
    have h1 : (i : Int) < (n : Int) := by omega
    have hw : wrap64 ((i : Int) + 1) = ((i + 1 : Nat) : Int) := by rw [w64 (by omega) (by omega)]; simp
    have hp : 2 ^ i ≤ 2 ^ 59 := Nat.pow_le_pow_right (by omega) (by omega)
    rw [show (2 : Nat) ^ 59 = 576460752303423488 by decide] at hp
    have hm : wrap64 (2 * ((2 ^ i : Nat) : Int)) = ((2 ^ (i + 1) : Nat) : Int) := by
      rw [Nat.pow_succ]
      generalize 2 ^ i = P at hp ⊢
      rw [w64 (by omega) (by omega)]
      omega
    refine Ev.step (f := fun k => _) (fun k => by simp only [thalwegref07_power.l0]; rfl) ?_
    simp only [if_pos h1, hw, hm]
    exact hn2
theorem rpow_ev (n : Nat) (hn : n ≤ 60) : Ev (fun k => thalwegref07_power.f k n) ((2 ^ n : Nat) : Int) := rpow_l0 n hn n 0 (by omega)
def hasA (a : S24) (n : Int) : Bool := decide (SA a) && hasB a.f2 a.f3.toNat n
theorem has_ev (a : S24) (n : Int) : Ev (fun k => ack_Has.f k a.f0 a.f1 a.f2 a.f3 n) (hasA a n) := by
  unfold ack_Has.f hasA
  simp only [right_eq, Option.bind_some]
  by_cases c : SA a
  · obtain ⟨m, hm⟩ := Int.eq_ofNat_of_zero_le c.2.2.2.1
    have hlt : m < 65536 := by have := c.2.2.2.2; omega
    simp only [decide_eq_true c, if_true, Bool.true_and, hm, Int.toNat_natCast]
    have hr := ack_Has_ev a.f2 m n c.2.2.1.1 c.2.2.1.2 hlt
    unfold ack_Has.f at hr
    have hr2 : ack_right.f 0 0 a.f2 m = some true := by
      rw [right_eq ⟨0, 0, a.f2, m⟩]
      congr 1
      exact decide_eq_true (show SA ⟨0, 0, a.f2, m⟩ from ⟨⟨Int.le_refl 0, by show (0 : Int) < 64; omega⟩, ⟨Int.le_refl 0, by show (0 : Int) ≤ 4294967295; omega⟩, c.2.2.1, by show (0 : Int) ≤ m; omega, by show (m : Int) ≤ 65535; omega⟩)
    simp only [hr2, Option.bind_some, if_true] at hr
    exact hr
  · simp only [decide_eq_false c, Bool.false_eq_true, if_false, Bool.false_and]
    exact Ev.now _
theorem bit_div (m j : Nat) (hm : m < 65536) (hj : j ≤ 15) : (Int.tmod (wrap64 (Int.tdiv (m : Int) ((2 ^ j : Nat) : Int))) 2 == 1) = m.testBit j := by
  have hq : m / 2 ^ j ≤ m := Nat.div_le_self _ _
  rw [show Int.tdiv (m : Int) ((2 ^ j : Nat) : Int) = ((m / 2 ^ j : Nat) : Int) from rfl, Nat.testBit_eq_decide_div_mod_eq]
  generalize m / 2 ^ j = q at hq ⊢
  rw [w64 (by omega) (by omega), Int.tmod_eq_emod_of_nonneg (by omega), Bool.eq_iff_iff]
  simp only [beq_iff_eq, decide_eq_true_eq]
  omega
theorem rhas_ev (a : S24) (n : Int) (ha : (Lit.int .i64 a.f2).wf = true) (hn : (Lit.int .i64 n).wf = true) : Ev (fun k => thalwegref07_Has.f k a.f0 a.f1 a.f2 a.f3 n) (hasA a n) := by
  unfold thalwegref07_Has.f hasA
  simp only [one_eq, Option.bind_some]
  by_cases c : SA a
  · obtain ⟨m, hm⟩ := Int.eq_ofNat_of_zero_le c.2.2.2.1
    have hlt : m < 65536 := by have := c.2.2.2.2; omega
    simp only [decide_eq_true c, if_true, Bool.true_and, hm, Int.toNat_natCast, rfar_eq _ _ ha hn, rfar_eq _ _ hn ha, Option.bind_some]
    have hf := far_range a.f2 n
    have hg : far n a.f2 = (65536 - far a.f2 n) % 65536 := by unfold far; omega
    have tailp : ∀ t : Int, t = far a.f2 n → ¬ 32768 ≤ t → Ev (fun k => if t ≥ 1 then (if t ≤ 16 then ((thalwegref07_power.f k (wrap64 (t - 1))).bind fun t253 => (if t253 = 0 then (none) else (some ((Int.tmod (wrap64 (Int.tdiv (m : Int) t253)) 2) == 1)))) else (some false)) else (some false)) (hasB a.f2 m n) := by
      intro t ht h0
      unfold hasB
      rw [← ht, decide_eq_false h0, Bool.false_or]
      by_cases c1 : t ≥ 1
      · simp only [if_pos c1]
        by_cases c2 : t ≤ 16
        · simp only [if_pos c2]
          rw [decide_eq_true (show 1 ≤ t from c1), decide_eq_true c2, Bool.true_and, Bool.true_and, w64 (by omega) (by omega)]
          obtain ⟨j, hj⟩ := Int.eq_ofNat_of_zero_le (show 0 ≤ t - 1 by omega)
          rw [hj]
          refine Ev.bind (rpow_ev j (by omega)) ?_
          have hp : 0 < 2 ^ j := Nat.pow_pos (by decide)
          simp only [if_neg (show ¬ ((2 ^ j : Nat) : Int) = 0 by omega), bit_div m j hlt (by omega), Int.toNat_natCast]
          exact Ev.now _
        · simp only [if_neg c2]
          rw [decide_eq_true (show 1 ≤ t from c1), decide_eq_false c2, Bool.true_and, Bool.false_and]
          exact Ev.now _
      · simp only [if_neg c1]
        rw [decide_eq_false (show ¬ 1 ≤ t from c1), Bool.false_and]
        exact Ev.now _
    by_cases c1 : far n a.f2 ≥ 1
    · simp only [if_pos c1]
      by_cases c2 : far n a.f2 ≤ 32768
      · simp only [if_pos c2]
        unfold hasB
        rw [decide_eq_true (show 32768 ≤ far a.f2 n by omega), Bool.true_or]
        exact Ev.now _
      · simp only [if_neg c2]
        exact tailp _ rfl (by omega)
    · simp only [if_neg c1]
      exact tailp _ rfl (by omega)
  · simp only [decide_eq_false c, Bool.false_eq_true, if_false, Bool.false_and]
    exact Ev.now _
theorem mod_succ (x j : Nat) : x % 2 ^ (j + 1) = x % 2 ^ j + 2 ^ j * (x.testBit j).toNat := by
  rw [Nat.mod_pow_succ, Nat.testBit_eq_decide_div_mod_eq]
  congr 2
  have : x / 2 ^ j % 2 = 0 ∨ x / 2 ^ j % 2 = 1 := by omega
  rcases this with e | e <;> simp [e]
theorem rof_l1 (nx : Int) (came : List Int) (hl : came.length ≤ 1000) (hnx : (Lit.int .i64 nx).wf = true) (hc : ∀ x ∈ came, (Lit.int .i64 x).wf = true) (j : Nat) (hj : j < 16) (a b c : Int) (m : Nat) {r : Int × Int × Int × Int × Int}
    (h : Ev (fun k => if came.any (fun n => decide (far nx n = j + 1)) = true then ((thalwegref07_power.f k (wrap64 ((j : Int) + 1 - 1))).bind fun t248 => (thalwegref07_Of.l0 k nx came (wrap64 ((j : Int) + 1 + 1)) a b c (wrap64 (m + t248)))) else (thalwegref07_Of.l0 k nx came (wrap64 ((j : Int) + 1 + 1)) a b c m)) r) :
    ∀ (d : Nat) (i : Int) (f : Bool), 0 ≤ i → (came.length : Int) - i = d → (f || (came.drop i.toNat).any (fun n => decide (far nx n = j + 1))) = came.any (fun n => decide (far nx n = j + 1)) → Ev (fun k => thalwegref07_Of.l1 k nx came ((j : Int) + 1) f i a b c m) r := by
  intro d
  induction d with
  | zero =>
    intro i f h0 hd hf
    refine Ev.step (f := fun k => _) (fun k => by simp only [thalwegref07_Of.l1]; rfl) ?_
    simp only [if_neg (show ¬ i < (came.length : Int) by omega)]
    rw [List.drop_eq_nil_of_le (by omega), List.any_nil, Bool.or_false] at hf
    simp only [hf]
    exact h
  | succ d ih =>
    intro i f h0 hd hf
    have h1 : i < (came.length : Int) := by omega
    refine Ev.step (f := fun k => _) (fun k => by simp only [thalwegref07_Of.l1]; rfl) ?_
    simp only [if_pos h1, w64 (x := i + 1) (by omega) (by omega)]
    rw [rd_get came i h0 h1, List.any_cons] at hf
    by_cases c : f = true
    · simp only [if_pos c]
      refine ih (i + 1) true (by omega) (by omega) ?_
      rw [← hf, c]
      simp
    · simp only [if_neg c, if_pos h0, rfar_eq _ _ hnx (hc _ (rd_mem came i h0 h1)), Option.bind_some]
      refine ih (i + 1) _ (by omega) (by omega) ?_
      rw [← hf, Bool.not_eq_true _ |>.mp c, Bool.false_or]
      rfl
theorem rof_l0 (nx : Int) (came : List Int) (hl : came.length ≤ 1000) (hnx : (Lit.int .i64 nx).wf = true) (hc : ∀ x ∈ came, (Lit.int .i64 x).wf = true) (a b c : Int) : ∀ (d j : Nat), j + d = 16 →
    Ev (fun k => thalwegref07_Of.l0 k nx came ((j : Int) + 1) a b c ((msk nx came % 2 ^ j : Nat) : Int)) (a, b, c, ((msk nx came : Nat) : Int), 0) := by
  intro d
  induction d with
  | zero =>
    intro j hj
    obtain rfl : j = 16 := by omega
    refine Ev.from 1 fun k => ?_
    simp only [thalwegref07_Of.l0]
    rw [if_neg (by omega), Nat.mod_eq_of_lt (msk_lt nx came)]
  | succ d ih =>
    intro j hj
    refine Ev.step (f := fun k => _) (fun k => by simp only [thalwegref07_Of.l0]; rfl) ?_
    simp only [if_pos (show (j : Int) + 1 ≤ 16 by omega)]
    refine rof_l1 nx came hl hnx hc j (by omega) a b c _ ?_ came.length 0 false (by omega) (by omega) (by simp)
    have h2 := ih (j + 1) (by omega)
    have hp : 2 ^ j ≤ 2 ^ 15 := Nat.pow_le_pow_right (by omega) (by omega)
    rw [show (2 : Nat) ^ 15 = 32768 by decide] at hp
    have hlt : msk nx came % 2 ^ j ≤ 65536 := Nat.le_trans (Nat.mod_le _ _) (Nat.le_of_lt (msk_lt nx came))
    rw [mod_succ, msk_bit nx came j (by omega)] at h2
    rw [show (((j + 1 : Nat) : Int) + 1) = (j : Int) + 1 + 1 by omega] at h2
    have hw : wrap64 ((j : Int) + 1 + 1) = (j : Int) + 1 + 1 := w64 (by omega) (by omega)
    have hw2 : wrap64 ((j : Int) + 1 - 1) = (j : Int) := by rw [w64 (by omega) (by omega)]; omega
    by_cases cc : came.any (fun n => decide (far nx n = j + 1)) = true
    · simp only [if_pos cc, hw, hw2]
      refine Ev.bind (rpow_ev j (by omega)) ?_
      rw [cc] at h2
      rw [show wrap64 (((msk nx came % 2 ^ j : Nat) : Int) + ((2 ^ j : Nat) : Int)) = ((msk nx came % 2 ^ j + 2 ^ j * Bool.toNat true : Nat) : Int) by rw [w64 (by omega) (by omega)]; simp]
      exact h2
    · simp only [if_neg cc, hw]
      rw [Bool.not_eq_true _ |>.mp cc] at h2
      rw [show msk nx came % 2 ^ j + 2 ^ j * Bool.toNat false = msk nx came % 2 ^ j by simp] at h2
      exact h2
theorem rof_ok (nx : Int) (came : List Int) (hl : came.length ≤ 1000) (h0 : 0 ≤ nx) (h1 : nx ≤ 65535) (hnx : (Lit.int .i64 nx).wf = true) (hc : ∀ x ∈ came, (Lit.int .i64 x).wf = true) : Ev (fun k => thalwegref07_Of.f k nx came) (0, 0, nx, ((msk nx came : Nat) : Int), 0) := by
  unfold thalwegref07_Of.f
  simp only [if_neg (show ¬ nx < 0 by omega), decide_eq_false (show ¬ nx > 65535 by omega)]
  refine Ev.step (f := fun k => _) (fun k => by simp only [thalwegref07_Of.j0]; rfl) ?_
  simp only [Bool.false_eq_true, if_false]
  have h := rof_l0 nx came hl hnx hc 0 0 nx 16 0 (by omega)
  rw [show msk nx came % 2 ^ 0 = 0 by rw [Nat.pow_zero, Nat.mod_one]] at h
  exact h
theorem rof_bad (nx : Int) (came : List Int) (h : nx < 0 ∨ nx > 65535) : Ev (fun k => thalwegref07_Of.f k nx came) (0, 0, 0, 0, 1) := by
  unfold thalwegref07_Of.f
  by_cases c : nx < 0
  · simp only [if_pos c]
    exact Ev.from 1 fun k => by simp only [thalwegref07_Of.j0, if_true]
  · simp only [if_neg c, decide_eq_true (show nx > 65535 by omega)]
    exact Ev.from 1 fun k => by simp only [thalwegref07_Of.j0, if_true]
theorem ints_l0 (l : List Int) (hn : l.length ≤ 1000000) : ∀ (d : Nat) (i : Int), 0 ≤ i → (l.length : Int) - i = d → Ev (fun k => thalwegref03_Ints.l0 k l l i) true := by
  intro d
  induction d with
  | zero =>
    intro i h0 hd
    refine Ev.from 1 fun k => ?_
    simp only [thalwegref03_Ints.l0]
    rw [if_neg (by omega)]
  | succ d ih =>
    intro i h0 hd
    have h1 : i < (l.length : Int) := by omega
    refine Ev.step (f := fun k => _) (fun k => by simp only [thalwegref03_Ints.l0]; rfl) ?_
    simp only [if_pos h1, if_pos h0, w64 (x := i + 1) (by omega) (by omega), if_true]
    exact ih (i + 1) (by omega) (by omega)
theorem ints_ev (l : List Int) (hn : l.length ≤ 1000000) : Ev (fun k => thalwegref03_Ints.f k l l) true := by
  unfold thalwegref03_Ints.f
  simp only [if_true]
  exact ints_l0 l hn l.length 0 (by omega) (by omega)
theorem row_eq (l : List Int) (h : l.length ≤ 1000000) : thalwegref03_Row.f l = some l := by
  unfold thalwegref03_Row.f
  rw [if_pos (by simp; omega), List.nil_append]
theorem aB_eq (x : S24) : aB x = [x.f0 % 256] ++ (be 4 x.f1 ++ (be 2 x.f2 ++ be 2 x.f3)) := by
  simp only [aB, fB, abSz, getF, List.append_nil]
  rw [be_cons 0]
  simp [be]
theorem put_is (v : Int) (n : Nat) (n1 : 1 ≤ n) (n7 : n ≤ 7) (v0 : 0 ≤ v) (v1 : v < 256 ^ n) (v2 : v ≤ 4294967295) : Ev (fun k => thalwegref01_Put.f k v (n : Int)) (be n v, 0) := by
  have h := refPut_ev v n (wf64 (by omega) (by omega))
  unfold putSpec at h
  rw [if_pos ⟨by omega, by omega, v0, by rw [Int.toNat_natCast]; exact v1⟩, Int.toNat_natCast] at h
  exact h
theorem rbytes_l0 (l : List S24) (hn : l.length ≤ 64) (hr : ∀ x ∈ l, SA x) : ∀ (d : Nat) (i : Int) (acc : List Int), 0 ≤ i → (l.length : Int) - i = d → (acc.length : Int) ≤ 1 + 9 * i →
    Ev (fun k => thalwegref07_Bytes.l0 k l acc i) (acc ++ (l.drop i.toNat).flatMap aB, 0) := by
  intro d
  induction d with
  | zero =>
    intro i acc h0 hd ha
    refine Ev.from 1 fun k => ?_
    simp only [thalwegref07_Bytes.l0]
    rw [if_neg (by omega), List.drop_eq_nil_of_le (by omega)]
    simp
  | succ d ih =>
    intro i acc h0 hd ha
    have h1 : i < (l.length : Int) := by omega
    refine Ev.step (f := fun k => _) (fun k => by simp only [thalwegref07_Bytes.l0]; rfl) ?_
    have hx := hr _ (rd_ack_mem l i h0 h1)
    rw [acks_get l i h0 h1, List.flatMap_cons, ← List.append_assoc, aB_eq]
    generalize rd_T24 l i = x at hx ⊢
    simp only [if_pos h1, if_pos h0]
    obtain ⟨x0, x1, x2, x3⟩ := hx
    refine Ev.bind (put_is x.f1 4 (by omega) (by omega) (by omega) (by rw [show (256 : Int) ^ 4 = 4294967296 by decide]; omega) (by omega)) ?_
    refine Ev.bind (put_is x.f2 2 (by omega) (by omega) (by omega) (by rw [show (256 : Int) ^ 2 = 65536 by decide]; omega) (by omega)) ?_
    refine Ev.bind (put_is x.f3 2 (by omega) (by omega) (by omega) (by rw [show (256 : Int) ^ 2 = 65536 by decide]; omega) (by omega)) ?_
    simp only [if_pos (show acc.length < 140737488355328 by omega), Option.bind_some]
    have hb : ([be 4 x.f1, be 2 x.f2, be 2 x.f3] : List (List Int)).flatten = be 4 x.f1 ++ (be 2 x.f2 ++ be 2 x.f3) := by simp
    refine Ev.bind (both_ev [be 4 x.f1, be 2 x.f2, be 2 x.f3] (by simp) (by rw [hb]; simp only [List.length_append, be_length]; omega)) ?_
    simp only [hb, List.length_append, be_length, List.length_singleton, w64 (x := i + 1) (by omega) (by omega)]
    simp only [if_pos (show acc.length + 1 + (4 + (2 + 2)) < 140737488355328 by omega)]
    have h3 := ih (i + 1) (acc ++ [x.f0 % 256] ++ (be 4 x.f1 ++ (be 2 x.f2 ++ be 2 x.f3))) (by omega) (by omega) (by simp only [List.length_append, be_length, List.length_singleton]; omega)
    rw [← List.append_assoc acc]
    exact h3
theorem rbytes_ev (l : List S24) (h : RA l) : Ev (fun k => thalwegref07_Bytes.f k l) (ackB l, 0) := by
  unfold thalwegref07_Bytes.f
  refine Ev.bind (rright_ev l (by have := h.2.1; omega)) ?_
  simp only [decide_eq_true h, if_true]
  exact rbytes_l0 l h.2.1 (upA_mem l _ h.2.2) l.length 0 _ (by omega) (by omega) (by simp)
theorem rbytes_no (l : List S24) (hn : l.length ≤ 1000000) (h : ¬ RA l) : Ev (fun k => thalwegref07_Bytes.f k l) ([], 1) := by
  unfold thalwegref07_Bytes.f
  refine Ev.bind (rright_ev l hn) ?_
  simp only [decide_eq_false h, Bool.false_eq_true, if_false]
  exact Ev.now _
end Go.Proofs.Ytolfbnkdmafomaa.P
namespace Go.Proofs.Ytolfbnkdmafomaa.Pure
open Go.RowKit Go.Proofs.Ytolfbnkdmafomaa.P Go.Proofs.YtolfbnkdmafomaaW.PrintWords Go.Proofs.YtolfbnkdmafomaaW.PrintLast Go.Proofs.YtolfbnkdmafomaaW.PrintMore
theorem AckDoes : thalweglaw07_AckDoes.Pure := by
  intro l nx came n hl hnx _ hcame hn
  apply Ev.rounds
  unfold thalweglaw07_AckDoes.f
  have bad : Ev (fun k => thalweglaw07_AckDoes.j0 k l nx came n true) true := Ev.from 1 fun k => by simp only [thalweglaw07_AckDoes.j0, if_true]
  by_cases c1 : (l.length : Int) > 100
  · simp only [if_pos c1]
    exact bad
  simp only [if_neg c1]
  by_cases c2 : (came.length : Int) > 100
  · simp only [decide_eq_true c2]
    exact bad
  simp only [decide_eq_false c2]
  refine Ev.step (f := fun k => _) (fun k => by simp only [thalweglaw07_AckDoes.j0]; rfl) ?_
  simp only [Bool.false_eq_true, if_false, row_eq came (by omega), Option.bind_some]
  obtain ⟨bs, e, hb, hrb⟩ : ∃ bs e, ack_Bytes.f l = some (bs, e) ∧ Ev (fun k => thalwegref07_Bytes.f k l) (bs, e) := by
    unfold ack_Bytes.f
    rw [if_pos (by omega)]
    by_cases c : RA l
    · exact ⟨_, _, by rw [if_pos c], rbytes_ev l c⟩
    · exact ⟨_, _, by rw [if_neg c], rbytes_no l (by omega) c⟩
  obtain ⟨x0, x1, x2, x3, x4, hof, hrof, hx⟩ : ∃ x0 x1 x2 x3 x4, Ev (fun k => ack_Of.f k nx came) (x0, x1, x2, x3, x4) ∧ Ev (fun k => thalwegref07_Of.f k nx came) (x0, x1, x2, x3, x4) ∧ (Lit.int .i64 x2).wf = true := by
    by_cases c : nx < 0 ∨ nx > 65535
    · exact ⟨_, _, _, _, _, ack_Of_bad nx came c, rof_bad nx came c, by decide⟩
    · exact ⟨_, _, _, _, _, ack_Of_ok nx came (by omega) (by omega) (by omega), rof_ok nx came (by omega) (by omega) (by omega) hnx hcame, hnx⟩
  simp only [hb, Option.bind_some]
  refine Ev.bind hrb (Ev.bind hof (Ev.bind hrof ?_))
  have tail_ : ∀ a : S24, (Lit.int .i64 a.f2).wf = true → Ev (fun k => thalweglaw07_AckDoes.j1 k l came n came bs e bs e x4 x4 x0 x1 x2 x3 x0 x1 x2 x3 a.f0 a.f1 a.f2 a.f3) true := by
    intro a ha
    refine Ev.step (f := fun k => _) (fun k => by simp only [thalweglaw07_AckDoes.j1]; rfl) ?_
    refine Ev.bind awake07 ?_
    simp only [if_true]
    refine Ev.bind (acheck_ev l (by omega)) (Ev.bind (rright_ev l (by omega)) ?_)
    have hd : (((if RA l then (0 : Int) else 1) == 0) == decide (RA l)) = true := by
      by_cases c : RA l
      · rw [if_pos c, decide_eq_true c]; rfl
      · rw [if_neg c, decide_eq_false c]; rfl
    simp only [hd, if_true, beq_self_eq_true, Bool.and_self]
    refine Ev.bind (has_ev a n) (Ev.bind (rhas_ev a n ha hn) ?_)
    simp only [beq_self_eq_true, if_true]
    refine Ev.bind (ints_ev came (by omega)) ?_
    exact Ev.now _
  by_cases c3 : (l.length : Int) > 0
  · simp only [if_pos c3, if_pos (show 0 < (l.length : Int) from c3)]
    exact tail_ (rd_T24 l 0) (hl.2 _ (rd_ack_mem l 0 (by omega) (by omega))).2.2.1
  · simp only [if_neg c3]
    exact tail_ ⟨x0, x1, x2, x3⟩ hx
end Go.Proofs.Ytolfbnkdmafomaa.Pure
namespace Go.Proofs.YtolfbnkdmafomaaW.Opn
open Go.RowKit Go.Proofs.YtolfbnkdmafomaaW.PrintWords Go.ChangeShapes Go.WideShapes Go.Deep
def Opens (P : Program) (t : TypeId) {α : Type} (d : Kd α) (wf : α → Prop) : Prop :=
  ∀ {H : Type} (enc : TypeId × Value → H) (w : World) (base : Nat) (spare : Nat → Bool) (held : Bool) (fuel : Nat) (cs : List Value) (y : DataW H × List MemPlace),
    DataW.trod enc P w base spare held fuel t cs = some y → ∃ x : α, d.K w x cs ∧ wf x
theorem opens_int {P : Program} {t : TypeId} {k : IntKind} (ht : P.underlying t = some (.int k)) : Opens P t (Kd.int k) (fun x => (Lit.int k x).wf = true) := by
  intro H enc w base spare held fuel cs y h
  obtain ⟨n, rfl, _, hw⟩ := DataW.trod_int ht h
  exact ⟨n, rfl, hw⟩
theorem opens_iso {P : Program} {t : TypeId} {α β : Type} {d : Kd α} {wf : α → Prop} (f : β → α) (g : α → β) (hg : ∀ a, f (g a) = a) (h : Opens P t d wf) : Opens P t (Kd.iso d f) (fun b => wf (f b)) := by
  intro H enc w base spare held fuel cs y hy
  obtain ⟨x, hx, hw⟩ := h enc w base spare held fuel cs y hy
  exact ⟨g x, by show d.K w (f (g x)) cs; rw [hg]; exact hx, by show wf (f (g x)); rw [hg]; exact hw⟩
def OpensL (P : Program) : (ts : List TypeId) → {α : Type} → (d : Kd α) → (wf : α → Prop) → Prop := fun ts {α} d wf =>
  ∀ {H : Type} (enc : TypeId × Value → H) (w : World) (base : Nat) (spare : Nat → Bool) (held : Bool) (n : Nat) (cs : List Value) (xs : List (DataW H × List MemPlace)) (off : Nat),
    (∀ (i : Nat) (t : TypeId), ts[i]? = some t → ∃ y, DataW.trod enc P w base spare held n t ((cs.drop (off + ((ts.take i).map P.cellsOf).sum)).take (P.cellsOf t)) = some y) →
    ∃ x : α, d.K w x ((cs.drop off).take ((ts.map P.cellsOf).sum)) ∧ wf x
theorem opensL_one {P : Program} {t : TypeId} {α : Type} {d : Kd α} {wf : α → Prop} (h : Opens P t d wf) : OpensL P [t] d wf := by
  intro H enc w base spare held n cs xs off hx
  obtain ⟨y, hy⟩ := hx 0 t rfl
  simpa using h enc w base spare held n _ y (by simpa using hy)
theorem opensL_cons {P : Program} {t : TypeId} {ts : List TypeId} {α β : Type} {d : Kd α} {d' : Kd β} {wf : α → Prop} {wf' : β → Prop} (h : Opens P t d wf) (h' : OpensL P ts d' wf') :
    OpensL P (t :: ts) (Kd.pair d d') (fun x => wf x.1 ∧ wf' x.2) := by
  intro H enc w base spare held n cs xs off hx
  obtain ⟨y, hy⟩ := hx 0 t rfl
  obtain ⟨x, hk, hw⟩ := h enc w base spare held n _ y (by simpa using hy)
  obtain ⟨x', hk', hw'⟩ := h' enc w base spare held n cs xs (off + P.cellsOf t) (fun i u hu => by
    have := hx (i + 1) u hu
    simpa [Nat.add_assoc] using this)
  refine ⟨(x, x'), ⟨(cs.drop off).take (P.cellsOf t), (cs.drop (off + P.cellsOf t)).take ((ts.map P.cellsOf).sum), ?_, hk, hk'⟩, hw, hw'⟩
  simp only [List.map_cons, List.sum_cons]
  rw [List.take_add, List.drop_drop]
def lineB (P : Program) : List Field → Nat → Bool
  | [], _ => true
  | f :: fs, off => (f.offset == off) && lineB P fs (off + P.cellsOf f.type)
theorem line_at {P : Program} : ∀ (fs : List Field) (off : Nat), lineB P fs off = true → ∀ (i : Nat) (f : Field), fs[i]? = some f → f.offset = off + (((fs.map (·.type)).take i).map P.cellsOf).sum := by
  intro fs
  induction fs with
  | nil => intro off _ i f h; simp at h
  | cons g gs ih =>
    intro off hb i f h
    unfold lineB at hb
    rw [Bool.and_eq_true, beq_iff_eq] at hb
    cases i with
    | zero =>
      simp at h
      subst h
      simpa using hb.1
    | succ i =>
      have := ih _ hb.2 i f (by simpa using h)
      simp only [List.map_cons, List.take_succ_cons, List.sum_cons]
      omega
theorem opens_struct {P : Program} {t : TypeId} {fs : Array Field} {α : Type} {d : Kd α} {wf : α → Prop} (ht : P.underlying t = some (.struct fs)) (hl : lineB P fs.toList 0 = true) (hc : P.cellsOf t = ((fs.toList.map (·.type)).map P.cellsOf).sum)
    (h : OpensL P (fs.toList.map (·.type)) d wf) : Opens P t d wf := by
  intro H enc w base spare held fuel cs y hy
  obtain ⟨xs, n, _, _, hlen, hxl, hf⟩ := DataW.trod_struct ht hy
  obtain ⟨x, hk, hw⟩ := h enc w base spare held n cs xs 0 (fun i u hu => by
    rw [List.getElem?_map, Option.map_eq_some_iff] at hu
    obtain ⟨f, hf0, rfl⟩ := hu
    have hi : i < fs.size := by
      have := (List.getElem?_eq_some_iff.1 hf0).1
      simpa using this
    have h1 := hf i f (by rw [← Array.getElem?_toList]; exact hf0)
    rw [line_at _ 0 hl i f hf0] at h1
    exact ⟨_, h1.trans (List.getElem?_eq_getElem (by omega))⟩)
  rw [← hc, List.drop_zero, ← hlen, List.take_length] at hk
  exact ⟨x, hk, hw⟩
theorem reads_build {P : Program} {e : TypeId} {α : Type} {d : Kd α} {wf : α → Prop} (hs : P.cellsOf e = d.sz) (w : World) (ad : Addr) : ∀ (len : Nat), (∀ i, i < len → ∃ (x : α) (c : List Value), c.length = d.sz ∧ d.K w x c ∧ wf x ∧ ∀ j u, c[j]? = some u → w.cell? (ad.add (i * d.sz + j)) = some u) →
    ∃ xs : List α, xs.length = len ∧ (∀ x ∈ xs, wf x) ∧ ∀ j p, xs[j]? = some p → ∃ c, c.length = d.sz ∧ d.K w p c ∧ ∀ i u, c[i]? = some u → w.cell? (ad.add (j * d.sz + i)) = some u := by
  intro len
  induction len with
  | zero => intro _; exact ⟨[], rfl, by simp, by simp⟩
  | succ n ih =>
    intro h
    obtain ⟨xs, hl, hw, hx⟩ := ih (fun i hi => h i (by omega))
    obtain ⟨x, c, hc, hk, hwx, hcell⟩ := h n (by omega)
    refine ⟨xs ++ [x], by simp [hl], ?_, ?_⟩
    · intro y hy
      rcases List.mem_append.1 hy with hy | hy
      · exact hw y hy
      · rw [List.mem_singleton.1 hy]; exact hwx
    · intro j p hj
      rcases Nat.lt_or_ge j xs.length with hjl | hjl
      · rw [List.getElem?_append_left hjl] at hj
        exact hx j p hj
      · have : j = xs.length := by
          have := (List.getElem?_eq_some_iff.1 hj).1
          simp at this
          omega
        subst this
        have hp : x = p := by simpa using hj
        subst hp
        exact ⟨c, hc, hk, by rw [hl]; exact hcell⟩
theorem opens_slice {P : Program} {t e : TypeId} {α : Type} {d : Kd α} {wf : α → Prop} (ht : P.underlying t = some (.slice e)) (hs : P.cellsOf e = d.sz) (h : Opens P e d wf) : Opens P t (Kd.slice e d) (fun l => l.length ≤ maxLen ∧ ∀ x ∈ l, wf x) := by
  intro H enc w base spare held fuel cs y hy
  rcases open_slice ht hy with ⟨rfl, _⟩ | ⟨a, len, cap, m, n, D, Pl, rfl, hb, hl, hm, hmm, hx, hi⟩
  · exact ⟨[], ⟨none, 0, rfl, Nat.le_refl _, rfl, by simp, by simp⟩, by simp, by simp⟩
  · have hle : len ≤ m := by rw [hmm]; split <;> omega
    obtain ⟨xs, hxl, hwf, hxs⟩ := reads_build (P := P) (e := e) (d := d) (wf := wf) hs w a len (fun i hlt => by
      obtain ⟨cs', hc, ht'⟩ := hi i (by omega)
      obtain ⟨_, hcl, hat⟩ := World.cells?_some hc
      obtain ⟨x, hk, hwx⟩ := h enc w base spare held n cs' _ ht'
      refine ⟨x, cs', by omega, hk, hwx, fun j u hj => ?_⟩
      have hjl := (List.getElem?_eq_some_iff.1 hj).1
      have := hat j (by omega)
      rw [← Go.Deep.add_add, ← hs, this, hj])
    have hm' : len ≤ maxLen := by omega
    subst hxl
    have hm2 : xs.length ≤ 9223372036854775807 := by unfold maxLen at hm'; omega
    exact ⟨xs, ⟨some a, cap, rfl, hl, rfl, hm2, fun _ => ⟨a, rfl, hxs⟩⟩, hm', hwf⟩
end Go.Proofs.YtolfbnkdmafomaaW.Opn
namespace Go.Proofs.Ytolfbnkdmafomaa.ackDoes
open Go.ChangeShapes Go.WideShapes Go.ChangeAt Go.RowKit Go.Proofs.YtolfbnkdmafomaaW Go.Proofs.YtolfbnkdmafomaaW.PrintWords Go.Proofs.Ytolfbnkdmafomaa.P
open Go.ChangeMaps (open_string shut_string)
theorem own : ownKnob Try.prog.godebug = none := by kernel_rfl
theorem laidOut : laidOutB Try.prog = true := by kernel_rfl
theorem opn24 : Opn.Opens Try.prog 24 k24 (fun x => ((Lit.int .i64 x.f0).wf = true ∧ (Lit.int .i64 x.f1).wf = true ∧ (Lit.int .i64 x.f2).wf = true ∧ (Lit.int .i64 x.f3).wf = true)) :=
  Opn.opens_iso (fun x : S24 => (x.f0, x.f1, x.f2, x.f3)) (fun a => ⟨a.1, a.2.1, a.2.2.1, a.2.2.2⟩) (fun _ => rfl) (Opn.opens_struct Try.underlying24 (by kernel_rfl) (by kernel_rfl) (Opn.opensL_cons (Opn.opens_int Try.underlying3) (Opn.opensL_cons (Opn.opens_int Try.underlying3) (Opn.opensL_cons (Opn.opens_int Try.underlying3) (Opn.opensL_one (Opn.opens_int Try.underlying3))))))
set_option maxRecDepth 100000 in
theorem lifted (os : Os) (started : os.Started) (H : Type) (enc : TypeId × Value → H) :
    ReturnsInHanded {} Try.checked os 5 .any (Rows.ackDoesSpec.pre6 enc Try.prog Try.f5 Rows.ackDoesRow.domain false) (Rows.ackDoesSpec.post enc Try.prog Try.f5 false true false false) := by
  refine returnsInHanded_of_change_sized (C := Try.checked) own started (by kernel_rfl) Try.func5
    (ChangeSpec.witness6 (enc := enc) (C := Try.checked) false ⟨#[], #[.slice none 0 0, .int .i64 0, .slice none 0 0, .int .i64 0], []⟩ 8 (by kernel_rfl) (by kernel_rfl) (by kernel_rfl) (by kernel_rfl)) ?_
  intro W base args ds gs before hval0 hW hcnd hsz0 _
  have hval : ∀ (j : Nat) t v, Try.f5.params[j]? = some t → args[j]? = some v → Value.okWide Try.prog W .any base t v := hval0
  have hW' := hW
  obtain ⟨p, q, hA0, hV, rfl, hfz, hnd⟩ := hW
  have hA : DataW.TrodAll enc Try.prog W 0 (fun _ => true) true Try.f5.params.toList args.toList ds p := hA0
  rw [Try.params5] at hA hval
  obtain ⟨v0, vs0, d0, ds0, p0, q0, hargs, rfl, rfl, h0, r0⟩ := trodAll_cons hA
  obtain ⟨v1, vs1, d1, ds1, p1, q1, rfl, rfl, rfl, h1, r1⟩ := trodAll_cons r0
  obtain ⟨v2, vs2, d2, ds2, p2, q2, rfl, rfl, rfl, h2, r2⟩ := trodAll_cons r1
  obtain ⟨v3, vs3, d3, ds3, p3, q3, rfl, rfl, rfl, h3, r3⟩ := trodAll_cons r2
  obtain ⟨rfl, rfl, rfl⟩ := trodAll_nil r3
  obtain rfl : args = #[v0, v1, v2, v3] := by cases args; simp_all
  obtain ⟨rfl, rfl⟩ := trodVars_none hV
  have k0 := h0
  have lt0 : ∀ x ∈ p0, x.block < W.heap.size := by obtain ⟨m, hm⟩ := k0; exact DataW.trod_lt m _ _ _ hm
  obtain ⟨a0, len0, cap0, rfl⟩ := okWide_slice Try.underlying33 (hval 0 33 v0 rfl rfl)
  obtain ⟨l0, K0, W0⟩ : ∃ l : List S24, (Kd.slice 24 k24).K W l [.slice a0 len0 cap0] ∧ (l.length ≤ maxLen ∧ ∀ x0_ ∈ l, ((Lit.int .i64 x0_.f0).wf = true ∧ (Lit.int .i64 x0_.f1).wf = true ∧ (Lit.int .i64 x0_.f2).wf = true ∧ (Lit.int .i64 x0_.f3).wf = true)) := by
    obtain ⟨fuel, hf⟩ := h0
    exact (Opn.opens_slice Try.underlying33 (by kernel_rfl) opn24) enc W 0 (fun _ => true) true fuel _ _ hf
  obtain ⟨A0, c0, E0, g0, C0⟩ := K0
  simp only [List.cons.injEq, Value.slice.injEq, and_true] at E0
  obtain ⟨rfl, rfl, rfl⟩ := E0
  obtain ⟨a1, rfl, rfl, rfl, w1⟩ := open_int Try.underlying3 (hval 1 3 v1 rfl rfl) h1
  have k2 := h2
  have lt2 : ∀ x ∈ p2, x.block < W.heap.size := by obtain ⟨m, hm⟩ := k2; exact DataW.trod_lt m _ _ _ hm
  obtain ⟨a2, len2, cap2, rfl⟩ := okWide_slice Try.underlying22 (hval 2 22 v2 rfl rfl)
  obtain ⟨l2, K2, W2⟩ : ∃ l : List Int, (Kd.slice 3 (Kd.int .i64)).K W l [.slice a2 len2 cap2] ∧ (l.length ≤ maxLen ∧ ∀ x0_ ∈ l, (Lit.int .i64 x0_).wf = true) := by
    obtain ⟨fuel, hf⟩ := h2
    exact (Opn.opens_slice Try.underlying22 (by kernel_rfl) (Opn.opens_int Try.underlying3)) enc W 0 (fun _ => true) true fuel _ _ hf
  obtain ⟨A2, c2, E2, g2, C2⟩ := K2
  simp only [List.cons.injEq, Value.slice.injEq, and_true] at E2
  obtain ⟨rfl, rfl, rfl⟩ := E2
  obtain ⟨a3, rfl, rfl, rfl, w3⟩ := open_int Try.underlying3 (hval 3 3 v3 rfl rfl) h3
  obtain ⟨k, hk⟩ := Pure.AckDoes l0 a1 l2 a3 W0 w1 W2.1 W2.2 w3
  clear hA0 hval0 hsz0
  refine (thalweglaw07_AckDoes.calls (k := k) (A0 := a0) (c0 := cap0) (l0 := l0) (a1 := a1) (A2 := a2) (c2 := cap2) (l2 := l2) (a3 := a3) (r := true) (w := W) (hr0 := C0) (hc0 := g0) (hr2 := C2) (hc2 := g2) (h := hk)).mono fun e W' ⟨he, bel⟩ => ?_
  subst he
  exact ⟨_, rfl, _, _, _, [], _, [], hW', trodAll_mk1 (shut_bool Try.underlying4 _), (trodAll_cons_mk (Below.trod laidOut (by kernel_rfl) (of_decide_eq_true (by kernel_rfl)) k0 bel lt0) (trodAll_cons_mk (shut_int Try.underlying3 w1) (trodAll_cons_mk (Below.trod laidOut (by kernel_rfl) (of_decide_eq_true (by kernel_rfl)) k2 bel lt2) (trodAll_cons_mk (shut_int Try.underlying3 w3) trodAll_mk0)))), rfl, bel.frame _, fun h => by cases h⟩
theorem over : Rows.ackDoesRow.holds Try.pinned (OpenSpec.ofChange Rows.ackDoesSpec) :=
  OpenClaim.holds_of_wide 5 Try.f5 rfl rfl rfl rfl rfl rfl rfl ⟨rfl, rfl, rfl, rfl, rfl⟩ rfl rfl rfl rfl rfl (by kernel_rfl) Try.func5 (by kernel_rfl)
    (of_decide_eq_true (by kernel_rfl)) (by unfold Func.isWrapper; first | (rw [if_pos (by decide +kernel)]; kernel_rfl) | (rw [if_neg (by decide +kernel)]; exact ⟨rfl, rfl⟩))
    (fun os started H enc _ => lifted os started H enc)
theorem proved : Rows.AckDoesSaid := over
end Go.Proofs.Ytolfbnkdmafomaa.ackDoes
namespace Go.Proofs.Ytolfbnkdmafomaa
theorem ackDoes_holds : Rows.AckDoesSaid := ackDoes.proved
end Go.Proofs.Ytolfbnkdmafomaa
