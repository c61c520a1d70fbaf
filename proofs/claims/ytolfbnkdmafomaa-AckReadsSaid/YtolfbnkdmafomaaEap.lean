/- Layer 7, by hand: ack.Parse: so many rows of four numbers, each read through a pointer into the row that is made. -/
import Derived.Test.YtolfbnkdmafomaaEaf
import Derived.Test.YtolfbnkdmafomaaEpGet
import Derived.Test.YtolfbnkdmafomaaP9
namespace Go.Proofs.Ytolfbnkdmafomaa.P
set_option linter.unusedSimpArgs false
set_option linter.unusedVariables false
open Go.RowKit Go.Proofs.YtolfbnkdmafomaaW.PrintWords Go.Proofs.YtolfbnkdmafomaaW.PrintLast Go.Proofs.YtolfbnkdmafomaaW.PrintMore
attribute [local go_sem] max2_int min2_int max_two min_two max_three min_three max_four min_four
def apSz : Nat → Int
  | 0 => 1 | 1 => 4 | _ => 2
/-- the fields from a place on: d are left -/
def apF (l : List Int) : Nat → S24 → Int → S24 × Int × Int
  | 0, x, at_ => (x, at_, 0)
  | d + 1, x, at_ => if (getSpec l at_ (apSz (3 - d))).2.2 = 0 then apF l d (putF (3 - d) (getSpec l at_ (apSz (3 - d))).1 x) (getSpec l at_ (apSz (3 - d))).2.1 else (x, 0, (getSpec l at_ (apSz (3 - d))).2.2)
/-- the rows: m are left -/
def apL (l : List Int) : Nat → List S24 → Int → List S24 × Int × Int
  | 0, done, at_ => if RA done then (done, at_, 0) else ([], 0, 4)
  | m + 1, done, at_ => if (apF l 4 z24 at_).2.2 = 0 then apL l m (done ++ [(apF l 4 z24 at_).1]) (apF l 4 z24 at_).2.1 else ([], 0, (apF l 4 z24 at_).2.2)
def apSpec (l : List Int) (a : Int) : List S24 × Int × Int := if (getSpec l a 1).2.2 = 0 then apL l (getSpec l a 1).1.toNat [] (getSpec l a 1).2.1 else ([], 0, (getSpec l a 1).2.2)
def ack_Parse.f (l : List Int) (a : Int) : Option (List S24 × Int × Int) := if l.length ≤ 1000000000000 ∧ ∀ x ∈ l, 0 ≤ x ∧ x ≤ 255 then some (apSpec l a) else none
theorem get1_range (l : List Int) (a : Int) (hB : Bytes l) : 0 ≤ (getSpec l a 1).1 ∧ (getSpec l a 1).1 ≤ 255 := by
  unfold getSpec numSpec
  rw [if_neg (by omega)]
  split
  · decide
  split
  · decide
  have hr := bev_range _ ((hB.drop a.toNat).take (1 : Int).toNat)
  have hp := pow256_le ((l.drop a.toNat).take (1 : Int).toNat).length 1 (by rw [List.length_take]; exact Nat.min_le_left _ _)
  rw [show (256 : Int) ^ 1 = 256 by decide] at hp
  exact ⟨hr.1, by show bev _ ≤ 255; omega⟩
theorem ack_made (W : World) (m : Nat) (hm : m ≤ 1000) :
    (Instr.makeSlice 33 (.int .i64 (m : Int)) (.int .i64 (m : Int))).run Try.prog W = .ok (.slice (some ⟨W.heap.size, 0, none⟩) m m) (W.alloc (.cells (rowC (List.replicate m z24)).toArray 24 (0, 0))) := by
  obtain ⟨i0, hi, hzz⟩ := Option.map_eq_some_iff.1 info24
  simp only [Prod.mk.injEq] at hzz
  obtain ⟨hz0, hz1, hz2⟩ := hzz
  have hr := run_make (P := Try.prog) W 33 24 i0 (.agg #[(.int .i64 0), (.int .i64 0), (.int .i64 0), (.int .i64 0)]) Try.underlying33 hi hz0 .i64 .i64 (m : Int) (m : Int) (by omega) (by omega) (by rw [hz2]; omega) (by omega)
  simp only [Int.toNat_natCast] at hr
  rw [hz1] at hr
  rw [← rowC_made]
  exact hr
theorem fld_cells {W : World} {gf g o jn : Nat} {ad : Addr} {j : Int} (BF : W.heap[gf]? = some (.cells (FldC g o) 60 (0, 0))) (had : ad = ⟨gf, 0, none⟩) (hk : jn < 4) (hj : j.toNat = jn) :
    W.cell? (ad.add (j.toNat * 2)) = some (.pointer (some ⟨g, o + jn, none⟩)) ∧ W.cell? ⟨(ad.add (j.toNat * 2)).block, (ad.add (j.toNat * 2)).off + 1, none⟩ = some (.int .i64 (apSz jn)) := by
  have hl : (FldC g o)[jn * 2]? = some (.pointer (some ⟨g, o + jn, none⟩)) ∧ (FldC g o)[jn * 2 + 1]? = some (.int .i64 (apSz jn)) := by
    obtain rfl | rfl | rfl | rfl : jn = 0 ∨ jn = 1 ∨ jn = 2 ∨ jn = 3 := by omega
    all_goals exact ⟨rfl, rfl⟩
  refine ⟨?_, ?_⟩
  · rw [had, add_plain, hj, blk_cell BF, hl.1]
  · rw [had, add_plain, hj, blk_cell BF, hl.2]
def ack_Parse.T11 : Bool × List (List Nat × List Nat) := (true, [([], []), ([0], [0]), ([], []), ([], []), ([], []), ([4], [4]), ([2, 3, 5], [2, 3, 5]), ([6], [6]), ([7], [7]), ([7], [7]), ([7], [7]), ([1, 0, 1, 2, 3, 4, 5, 6, 7, 8], [1]), ([11, 8, 6, 0, 1, 2, 3, 4, 5, 6, 7, 8], [8, 11]), ([9, 12, 0, 1, 2, 3, 4, 5, 6, 7, 8, 9, 11, 12], [3, 9]), ([10, 13, 0, 1, 2, 3, 4, 5, 6, 7, 8, 9, 10, 11, 12, 13], [10])])
def ack_Parse.B11 : List Nat := [0, 1, 0, 0, 0, 16, 60, 124, 252, 252, 252, 511, 2559, 7167, 16383]
theorem ack_Parse.tab11 : rtab .any (opsOf Try.f20 11) = ack_Parse.T11 := by kernel_rfl
theorem ack_Parse.bits11 : waitsOk ack_Parse.T11.2 ack_Parse.B11 = true := by kernel_rfl
set_option maxHeartbeats 8000000 in
set_option maxRecDepth 100000 in
theorem ack_Parse.calls (A0 : Option Addr) (c0 : Nat) (l0 : List Int) (a1 : Int) (r1 : List S24) (r2 : Int) (r3 : Int) (w : World) (hr0 : Kd.C (Kd.int .u8) w A0 l0.length l0) (hc0 : l0.length ≤ c0) (h : ack_Parse.f l0 a1 = some (r1, r2, r3)) :
    Calls Try.prog 20 #[.slice A0 l0.length c0, .int .i64 a1] w fun e w' => ∃ v0_ : Value, e = .returned (.tuple #[v0_, .int .i64 r2, .int .i64 r3]) ∧ Kd.R k24 24 w' w.heap.size (fun _ => True) v0_ r1 ∧ Below w.heap.size w w' := by
  obtain ⟨hL0, hB0, hP⟩ : l0.length ≤ 1000000000000 ∧ Bytes l0 ∧ apSpec l0 a1 = (r1, r2, r3) := by
    unfold ack_Parse.f at h
    split at h
    · rename_i hc
      exact ⟨hc.1, hc.2, Option.some.inj h⟩
    · exact absurd h (by simp)
  have hu24 := Try.underlying24
  have hu60 := Try.underlying60
  have HL := Aside0.mk hL0
  have HY := Aside0.mk hB0
  have HR0 := Aside0.mk hr0
  have HC0 := Aside0.mk hc0
  have HB := Aside0.mk (Below.refl w.heap.size w)
  unfold apSpec at hP
  have hr := get1_range l0 a1 hB0
  obtain ⟨t0, t1, t2, hG⟩ : ∃ t0 t1 t2, getSpec l0 a1 1 = (t0, t1, t2) := ⟨_, _, _, rfl⟩
  have HG := Aside0.mk (show wire_Get.f l0 a1 1 = some (t0, t1, t2) by rw [wire_Get_eq _ _ _ hB0 hL0, hG])
  rw [hG] at hP hr
  simp only at hP hr
  obtain ⟨m, rfl⟩ := Int.eq_ofNat_of_zero_le hr.1
  have hm : m ≤ 255 := by omega
  rw [Int.toNat_natCast] at hP
  clear h hL0 hB0 hr0 hc0 hr hG
  by_cases c : t2 = 0
  case neg =>
    rw [if_neg c] at hP
    have e1 : (t2 != 0) = true := bne_iff_ne.mpr c
    simp only [Prod.mk.injEq] at hP
    obtain ⟨rfl, rfl, rfl⟩ := hP
    clear c
    go_enter Try.func20, Try.ntmps20
    go_wp2_with (((with_reducible refine gate_callee (f := 33) rfl ?_); refine goesL_ (some 16) rfl rfl Try.func33 (by kernel_rfl) rfl #[.slice A0 l0.length c0, .int .i64 a1, .int .i64 1] rfl (by (try simp only [List.map_toArray, List.map_cons, List.map_nil]); first | done | rfl) ?_; (with_reducible refine (wire_Get.calls A0 c0 l0 a1 1 _ t1 t2 _ ?side1 HC0.out HG.out).mono ?_); (case side1 => exact HR0.out); rintro e w2 ⟨rfl, hb2⟩; refine ⟨_, rfl, ?_⟩; have HB2 := Aside0.mk hb2; clear hb2))
    go_ret3
    exact ⟨_, rfl, Kd.R_nil _ _ _ _ _, HB2.out⟩
  subst c
  rw [if_pos rfl] at hP
  have HP := Aside0.mk hP
  clear hP
  have HM := Aside0.mk hm
  clear hm
  go_enter Try.func20, Try.ntmps20
  go_wp2_with (first
    | ((with_reducible refine gate_callee (f := 33) rfl ?_); refine goesL_ (some 16) rfl rfl Try.func33 (by kernel_rfl) rfl #[.slice A0 l0.length c0, .int .i64 a1, .int .i64 1] rfl (by (try simp only [List.map_toArray, List.map_cons, List.map_nil]); first | done | rfl) ?_; (with_reducible refine (wire_Get.calls A0 c0 l0 a1 1 _ t1 0 _ ?side1 HC0.out HG.out).mono ?_); (case side1 => exact HR0.out); rintro e w2 ⟨rfl, hb2⟩; refine ⟨_, rfl, ?_⟩; have HB2 := Aside0.mk hb2; clear hb2)
    | ((with_reducible refine gate_dst (N := 24) rfl ?_); refine lit_event ?hg (N := 24) ?hd (cs := (rowC (List.replicate m z24)).toArray) (t := 24) (n := m) ?hr ?_; (case hd => rfl); (case hg => rfl); (case hr => (simp [execOp, Act.eval, ack_made _ m (Nat.le_trans HM.out (by decide))])); intro gl hg ad had w3 hbox hb; have HB3 := Aside0.mk (below_step HB2.out hb); have BL := Aside0.mk hbox; have GL := Aside0.mk (show w.heap.size ≤ gl by rw [hg]; exact below_size HB2.out); have HAD := Aside0.mk had; clear hb hbox hg had))
  obtain ⟨W0, hW0⟩ : ∃ x, x = w3 := ⟨_, rfl⟩
  go_loopg [1, 27] m (fun kq v1 v27 w' => ∃ (dn : List S24) (at_ i : Int), v1 = .int .i64 at_ ∧ v27 = .int .i64 i ∧ Aside0 (i = (dn.length : Int) ∧ dn.length + kq = m) ∧ Aside0 (apL l0 kq dn at_ = (r1, r2, r3)) ∧ Aside0 (w'.heap[gl]? = some (.cells (rowC (dn ++ List.replicate kq z24)).toArray 24 (0, 0))) ∧ Aside0 (Below w.heap.size w w'))
  case atStart => exact ⟨[], t1, 0, rfl, rfl, ⟨rfl, by simp⟩, HP, ⟨by rw [List.nil_append]; exact BL.out⟩, HB3⟩
  case round =>
    clear HP BL HB3 HB2 hW0 W0
    obtain ⟨dn, at_, i, rfl, rfl, HI, HP, BL, HB⟩ := hrel
    cases gk with
    | zero =>
      have hp := HP.out
      have hi := HI.out
      have hm := HM.out
      simp only [apL] at hp
      have bl := BL.out
      rw [List.replicate_zero, List.append_nil] at bl
      have hdn : dn.length = m := by omega
      have hR := R_of_row bl GL.out (by omega)
      rw [hdn] at hR
      obtain ⟨K1, hK1⟩ := (acheck_ev dn (by omega)).rounds
      have HK1 := Aside0.mk hK1
      have HRR := Aside0.mk hR
      have b0 : decide (i < (m : Int)) = false := decide_eq_false (by omega)
      clear hi bl hR hK1 HI
      have HDN := Aside0.mk hdn
      clear hdn hm
      by_cases c : RA dn
      · rw [if_pos c] at hp
        simp only [Prod.mk.injEq] at hp
        obtain ⟨rfl, rfl, rfl⟩ := hp
        have hk1 := HK1.out
        rw [if_pos c] at hk1
        have HK2 := Aside0.mk hk1
        clear hk1 HK1 HP c
        go_wp2_with (((with_reducible refine gate_callee (f := 16) rfl ?_); refine goesL_ (some 57) rfl rfl Try.func16 (by kernel_rfl) rfl #[.slice (some ad) m m] rfl (by (try simp only [List.map_toArray, List.map_cons, List.map_nil]); first | done | rfl) ?_; rw [← HDN.out]; (with_reducible refine (ack_Check.calls K1 (some ad) dn.length dn _ _ ?side1 (Nat.le_refl _) HK2.out).mono ?_); (case side1 => have h_ := HRR.out; rw [← HDN.out, ← HAD.out] at h_; exact (Kd.R_reads' h_).2.2); rintro e w5 ⟨rfl, hb5⟩; refine ⟨_, rfl, ?_⟩; have HB5 := Aside0.mk (below_step HB.out hb5); have HR5 := Aside0.mk (Kd.R_below HRR.out hb5); clear hb5))
        go_ret3
        exact ⟨_, rfl, (by have h_ := HR5.out; rw [← HDN.out, ← HAD.out] at h_; exact h_), HB5.out⟩
      · rw [if_neg c] at hp
        simp only [Prod.mk.injEq] at hp
        obtain ⟨rfl, rfl, rfl⟩ := hp
        have hk1 := HK1.out
        rw [if_neg c] at hk1
        have HK2 := Aside0.mk hk1
        clear hk1 HK1 HP c
        go_wp2_with (((with_reducible refine gate_callee (f := 16) rfl ?_); refine goesL_ (some 57) rfl rfl Try.func16 (by kernel_rfl) rfl #[.slice (some ad) m m] rfl (by (try simp only [List.map_toArray, List.map_cons, List.map_nil]); first | done | rfl) ?_; rw [← HDN.out]; (with_reducible refine (ack_Check.calls K1 (some ad) dn.length dn _ _ ?side1 (Nat.le_refl _) HK2.out).mono ?_); (case side1 => have h_ := HRR.out; rw [← HDN.out, ← HAD.out] at h_; exact (Kd.R_reads' h_).2.2); rintro e w5 ⟨rfl, hb5⟩; refine ⟨_, rfl, ?_⟩; have HB5 := Aside0.mk (below_step HB.out hb5); have HR5 := Aside0.mk (Kd.R_below HRR.out hb5); clear hb5))
        go_ret3
        exact ⟨_, rfl, Kd.R_nil _ _ _ _ _, HB5.out⟩
    | succ k1 =>
      have hp := HP.out
      simp only [apL] at hp
      have hi := HI.out
      have hm := HM.out
      have p0 : 0 ≤ i := by omega
      have q0 : i < (m : Int) := by omega
      have b0 : decide (i < (m : Int)) = true := decide_eq_true q0
      have p0' := eq_true p0
      have q0' := eq_true q0
      have hit : i.toNat = dn.length := by omega
      have HIT := Aside0.mk hit
      have HPP := Aside0.mk hp
      have bl := BL.out
      rw [List.replicate_succ] at bl
      have BL1 := Aside0.mk bl
      clear hit hp hi hm HP bl BL
      go_wp2_with (((with_reducible refine gate_callee (f := 27) rfl ?_); refine goesL_ (some 33) rfl rfl Try.func27 (by kernel_rfl) rfl #[.pointer (some ⟨gl, dn.length * 4, none⟩)] rfl (by (try simp only [List.map_toArray, List.map_cons, List.map_nil]); rw [← HIT.out, ← add_plain, ← HAD.out]; first | done | rfl) ?_; (with_reducible refine (ack_fields.calls gl (dn.length * 4) _).mono ?_); rintro e w4 ⟨gf, adf, hadf, rfl, hgf, hbf, hb4⟩; refine ⟨_, rfl, ?_⟩; have HB4 := Aside0.mk (below_step HB.out hb4); have GF := Aside0.mk (show w.heap.size ≤ gf from Nat.le_trans (below_size HB.out) hgf); have BF := Aside0.mk hbf; have HADF := Aside0.mk hadf; have BL4 := Aside0.mk (blk_below BL1.out hb4); have NLF := Aside0.mk (show gl ≠ gf from Nat.ne_of_lt (Nat.lt_of_lt_of_le (blk_lt BL1.out) hgf)); clear hgf hbf hadf hb4))
      obtain ⟨rx, rat, re, hF⟩ : ∃ rx rat re, apF l0 4 z24 at_ = (rx, rat, re) := ⟨_, _, _, rfl⟩
      have HF := Aside0.mk hF
      have hpp := HPP.out
      rw [hF] at hpp
      simp only at hpp
      have HPQ := Aside0.mk hpp
      clear hF hpp HPP BL1 b0 p0 q0 p0' q0'
      go_loopg [1, 35] 4 (fun kq v1 v35 w' => ∃ (x : S24) (at2 j : Int), v1 = .int .i64 at2 ∧ v35 = .int .i64 j ∧ Aside0 (0 ≤ j ∧ j + kq = 4) ∧ Aside0 (apF l0 kq x at2 = (rx, rat, re)) ∧ Aside0 (w'.heap[gl]? = some (.cells (rowC (dn ++ x :: List.replicate k1 z24)).toArray 24 (0, 0))) ∧ Aside0 (w'.heap[gf]? = some (.cells (FldC gl (dn.length * 4)) 60 (0, 0))) ∧ Aside0 (Below w.heap.size w w'))
      case atStart => exact ⟨z24, at_, 0, rfl, rfl, ⟨by omega⟩, HF, BL4, BF, HB4⟩
      case round =>
        clear HF BL4 BF HB4 HB
        obtain ⟨x, at2, j, rfl, rfl, HJ, HF, BL, BF, HB⟩ := hrel
        cases gk with
        | zero =>
          have hf := HF.out
          simp only [apF, Prod.mk.injEq] at hf
          obtain ⟨rfl, rfl, rfl⟩ := hf
          obtain rfl : j = 4 := by have := HJ.out; omega
          have hq := HPQ.out
          rw [if_pos rfl] at hq
          have HQ := Aside0.mk hq
          have hi0 : 0 ≤ i := by have := HI.out; omega
          have hi1 : i ≤ 255 := by have := HI.out; have := HM.out; omega
          clear hq HPQ HF HJ
          go_wp2
          go_roundg k1
          case measure => have := HI.out; omega
          case rel =>
            have hi := HI.out
            refine ⟨dn ++ [x], at2, i + 1, rfl, rfl, ⟨?_⟩, HQ, ⟨?_⟩, HB⟩
            · rw [List.length_append, List.length_singleton]; omega
            · rw [List.append_assoc]; exact BL.out
        | succ d =>
          have hj4 : d ≤ 3 := by have := HJ.out; omega
          have hjt : j.toNat = 3 - d := by have := HJ.out; omega
          have hf := HF.out
          simp only [apF] at hf
          obtain ⟨s1, s2, s3, hG⟩ : ∃ s1 s2 s3, getSpec l0 at2 (apSz (3 - d)) = (s1, s2, s3) := ⟨_, _, _, rfl⟩
          rw [hG] at hf
          simp only at hf
          have HG2 := Aside0.mk (show wire_Get.f l0 at2 (apSz (3 - d)) = some (s1, s2, s3) by rw [wire_Get_eq _ _ _ HY.out HL.out, hG])
          obtain ⟨jn, hjn⟩ : ∃ n, n = 3 - d := ⟨_, rfl⟩
          rw [← hjn] at hf HG2 hjt
          have hj3 : jn < 4 := by omega
          obtain ⟨cA, cB⟩ := fld_cells BF.out HADF.out hj3 hjt
          obtain ⟨pa, hpa⟩ : ∃ p : Addr, p = ⟨gl, dn.length * 4 + jn, none⟩ := ⟨_, rfl⟩
          rw [← hpa] at cA
          obtain ⟨sz, hsz⟩ : ∃ s, s = apSz jn := ⟨_, rfl⟩
          rw [← hsz] at HG2 cB
          have HPA := Aside0.mk hpa
          have HF2 := Aside0.mk hf
          have HJN := Aside0.mk (show jn < 4 ∧ jn = 3 - d ∧ d ≤ 3 from ⟨hj3, hjn, hj4⟩)
          have p0 : 0 ≤ j := HJ.out.1
          have q0 : j < 4 := by have := HJ.out; omega
          have b0 : decide (j < 4) = true := decide_eq_true q0
          have p0' := eq_true p0
          have q0' := eq_true q0
          clear hj4 hjt hf hG hjn hj3 hpa hsz HF
          go_upto_region 11 with (((with_reducible refine gate_dst (N := 12) rfl ?_); refine box_event ?hg (N := 12) ?hd (cs := #[.pointer none, .int .i64 0]) (t := 60) ?hr ?_; (case hd => rfl); (case hg => rfl); (case hr => first | (go_simp; done) | (go_simp; rfl)); intro gb hg w6 hbox hb; have HW := Aside0.mk hb; have GB := Aside0.mk (Nat.le_of_eq hg.symm); have BX := Aside0.mk hbox; clear hb hbox hg; have u0 : w6.cell? ⟨gb, 0, none⟩ = some (.pointer none) := (blk_cell BX.out 0).trans rfl; have u1 : w6.cell? ⟨gb, 1, none⟩ = some (.int .i64 0) := (blk_cell BX.out 1).trans rfl; have uf0 := blk_frozen BX.out 0; have uf1 := blk_frozen BX.out 1))
          have BX2 := Aside0.mk (show ((w6.setCell ⟨gb, 0, none⟩ (.pointer (some pa))).setCell ⟨gb, 1, none⟩ (.int .i64 sz)).heap[gb]? = some (.cells #[.pointer (some pa), .int .i64 sz] 60 (0, 0)) by refine blk_put (cs := #[.pointer (some pa), .int .i64 0]) ?_ 1 _ rfl; refine blk_put (cs := #[.pointer none, .int .i64 0]) ?_ 0 _ rfl; exact BX.out)
          have HB6 := Aside0.mk (show Below w.heap.size w ((w6.setCell ⟨gb, 0, none⟩ (.pointer (some pa))).setCell ⟨gb, 1, none⟩ (.int .i64 sz)) from below_set (below_set (below_step HB.out HW.out) (Nat.le_trans (below_size HB.out) GB.out)) (Nat.le_trans (below_size HB.out) GB.out))
          have hnl : gl ≠ gb := Nat.ne_of_lt (Nat.lt_of_lt_of_le (blk_lt BL.out) GB.out)
          have hnf : gf ≠ gb := Nat.ne_of_lt (Nat.lt_of_lt_of_le (blk_lt BF.out) GB.out)
          have BL6 := Aside0.mk (show ((w6.setCell ⟨gb, 0, none⟩ (.pointer (some pa))).setCell ⟨gb, 1, none⟩ (.int .i64 sz)).heap[gl]? = _ from blk_far (p := ⟨gb, 1, none⟩) (blk_far (p := ⟨gb, 0, none⟩) (blk_below BL.out HW.out) hnl _) hnl _)
          have BF6 := Aside0.mk (show ((w6.setCell ⟨gb, 0, none⟩ (.pointer (some pa))).setCell ⟨gb, 1, none⟩ (.int .i64 sz)).heap[gf]? = _ from blk_far (p := ⟨gb, 1, none⟩) (blk_far (p := ⟨gb, 0, none⟩) (blk_below BF.out HW.out) hnf _) hnf _)
          clear hnl hnf u0 u1 uf0 uf1 BX HW HB
          generalize ((w6.setCell ⟨gb, 0, none⟩ (.pointer (some pa))).setCell ⟨gb, 1, none⟩ (.int .i64 sz)) = wq at BX2 HB6 BL6 BF6 ⊢

          refine start_ (n := 15) (S := fun w' => w'.cell? ⟨gb, 0, none⟩ = some (.pointer (some pa)) ∧ w'.cell? ⟨gb, 1, none⟩ = some (.int .i64 sz)) (ds := [12]) #[false, false, false, false, false, false, false, false, false, false, false, false, false, false, false] (by kernel_rfl) rfl rfl ⟨(blk_cell BX2.out 0).trans rfl, (blk_cell BX2.out 1).trans rfl⟩ (fun hHeld => ?_); refine with_tabW ack_Parse.tab11 ack_Parse.bits11 (fun HT_ HW_ => ?_)
          refine pure_ (i := 0) (N := some 40) (v := ?_) (a' := ?_) #[true, false, false, false, false, false, false, false, false, false, false, false, false, false, false] rfl rfl (any_of HT_.out (by kernel_rfl)) (fun _ _ _ h => h) (Or.inl ⟨by rfl, ?_⟩) ?_ ?_
          rotate_left
          · intro w'
            go_simp
            with_reducible rfl
          rotate_left
          · simp only [Act.put, List.setIfInBounds_toArray, List.set_cons_zero, List.set_cons_succ, i64_w, i32_w]
            rfl
          refine pure_ (i := 2) (N := some 42) (v := ?_) (a' := ?_) #[true, false, true, false, false, false, false, false, false, false, false, false, false, false, false] rfl rfl (any_of HT_.out (by kernel_rfl)) (fun _ _ _ h => h) (Or.inl ⟨by rfl, ?_⟩) ?_ ?_
          rotate_left
          · intro w'
            go_simp
            with_reducible rfl
          rotate_left
          · simp only [Act.put, List.setIfInBounds_toArray, List.set_cons_zero, List.set_cons_succ, i64_w, i32_w]
            rfl
          refine pure_ (i := 3) (N := some 43) (v := ?_) (a' := ?_) #[true, false, true, true, false, false, false, false, false, false, false, false, false, false, false] rfl rfl (any_of HT_.out (by kernel_rfl)) (fun _ _ _ h => h) (Or.inl ⟨by rfl, ?_⟩) ?_ ?_
          rotate_left
          · intro w'
            go_simp
            with_reducible rfl
          rotate_left
          · simp only [Act.put, List.setIfInBounds_toArray, List.set_cons_zero, List.set_cons_succ, i64_w, i32_w]
            rfl
          refine pure_ (i := 4) (N := some 44) (v := ?_) (a' := ?_) #[true, false, true, true, true, false, false, false, false, false, false, false, false, false, false] rfl rfl (any_of HT_.out (by kernel_rfl)) (fun _ _ _ h => h) (Or.inl ⟨by rfl, ?_⟩) ?_ ?_
          rotate_left
          · intro w'
            go_simp
            with_reducible rfl
          rotate_left
          · simp only [Act.put, List.setIfInBounds_toArray, List.set_cons_zero, List.set_cons_succ, i64_w, i32_w]
            rfl
          refine take_ (i := 1) (N := some 41) (v := ?_) (a' := ?_) #[true, true, true, true, true, false, false, false, false, false, false, false, false, false, false] rfl rfl (take_ofW HT_.out HW_.out (by kernel_rfl)) (fun _ _ _ h => h) (Or.inl ⟨by rfl, ?_⟩) hHeld ?_ ?_
          rotate_left
          · rintro w' ⟨s0, s1⟩
            go_simp
            with_reducible rfl
          rotate_left
          · simp only [Act.put, List.setIfInBounds_toArray, List.set_cons_zero, List.set_cons_succ, i64_w, i32_w]
            rfl
          refine take_ (i := 5) (N := some 45) (v := ?_) (a' := ?_) #[true, true, true, true, true, true, false, false, false, false, false, false, false, false, false] rfl rfl (take_ofW HT_.out HW_.out (by kernel_rfl)) (fun _ _ _ h => h) (Or.inl ⟨by rfl, ?_⟩) hHeld ?_ ?_
          rotate_left
          · rintro w' ⟨s0, s1⟩
            go_simp
            with_reducible rfl
          rotate_left
          · simp only [Act.put, List.setIfInBounds_toArray, List.set_cons_zero, List.set_cons_succ, i64_w, i32_w]
            rfl
          refine one_ (i := 6) (N := some 46) #[true, true, true, true, true, true, true, false, false, false, false, false, false, false, false] rfl rfl (one_of HT_.out (by kernel_rfl)) (by decide) (fun K hK => ?_)
          refine goes_ Try.func33 (by kernel_rfl) rfl #[.slice A0 l0.length c0, .int .i64 at2, .int .i64 sz] (by rfl) rfl rfl (by simp only [List.map_toArray, List.map_cons, List.map_nil]; rfl) ?_
          with_reducible refine (wire_Get.calls A0 c0 l0 at2 sz s1 s2 s3 _ (Kd.C_below HR0.out (below_drew HB6.out)) HC0.out HG2.out).mono ?_
          rintro e w7 ⟨rfl, hb7⟩
          refine ⟨_, rfl, ?_⟩
          have HB7 := Aside0.mk (below_step (below_drew HB6.out) hb7)
          have BL7 := Aside0.mk (blk_below (w := wq.drew) BL6.out hb7)
          have BF7 := Aside0.mk (blk_below (w := wq.drew) BF6.out hb7)
          have BX7 := Aside0.mk (blk_below (w := wq.drew) BX2.out hb7)
          clear hb7
          have cp : w7.cell? pa = some (.int .i64 (getF jn x)) := by rw [HPA.out, blk_cell BL7.out]; exact rowC_get _ _ _ _ HJN.out.1
          have fp : w7.frozen? pa = false := by rw [HPA.out]; exact blk_frozen BL7.out _
          refine hK.out _ _ ⟨(blk_cell BX7.out 0).trans rfl, (blk_cell BX7.out 1).trans rfl⟩ (fun hHeld => ?_)
          clear hK K
          refine norm_ (a' := ?_) ?_ ?_
          rotate_left
          · show Act.put _ (some 46) _ = _
            simp only [Act.put, List.setIfInBounds_toArray, List.set_cons_zero, List.set_cons_succ, i64_w, i32_w]
            rfl
          refine pure_ (i := 7) (N := some 39) (v := ?_) (a' := ?_) #[true, true, true, true, true, true, true, true, false, false, false, false, false, false, false] rfl rfl (any_of HT_.out (by kernel_rfl)) (fun _ _ _ h => h) (Or.inl ⟨by rfl, ?_⟩) ?_ ?_
          rotate_left
          · intro w'
            go_simp
            with_reducible rfl
          rotate_left
          · simp only [Act.put, List.setIfInBounds_toArray, List.set_cons_zero, List.set_cons_succ, i64_w, i32_w]
            rfl
          refine pure_ (i := 8) (N := some 47) (v := ?_) (a' := ?_) #[true, true, true, true, true, true, true, true, true, false, false, false, false, false, false] rfl rfl (any_of HT_.out (by kernel_rfl)) (fun _ _ _ h => h) (Or.inl ⟨by rfl, ?_⟩) ?_ ?_
          rotate_left
          · intro w'
            go_simp
            with_reducible rfl
          rotate_left
          · simp only [Act.put, List.setIfInBounds_toArray, List.set_cons_zero, List.set_cons_succ, i64_w, i32_w]
            rfl
          refine pure_ (i := 9) (N := some 48) (v := ?_) (a' := ?_) #[true, true, true, true, true, true, true, true, true, true, false, false, false, false, false] rfl rfl (any_of HT_.out (by kernel_rfl)) (fun _ _ _ h => h) (Or.inl ⟨by rfl, ?_⟩) ?_ ?_
          rotate_left
          · intro w'
            go_simp
            with_reducible rfl
          rotate_left
          · simp only [Act.put, List.setIfInBounds_toArray, List.set_cons_zero, List.set_cons_succ, i64_w, i32_w]
            rfl
          refine pure_ (i := 10) (N := some 49) (v := ?_) (a' := ?_) #[true, true, true, true, true, true, true, true, true, true, true, false, false, false, false] rfl rfl (any_of HT_.out (by kernel_rfl)) (fun _ _ _ h => h) (Or.inl ⟨by rfl, ?_⟩) ?_ ?_
          rotate_left
          · intro w'
            go_simp
            with_reducible rfl
          rotate_left
          · simp only [Act.put, List.setIfInBounds_toArray, List.set_cons_zero, List.set_cons_succ, i64_w, i32_w]
            rfl
          refine pure_ (i := 11) (N := some 50) (v := ?_) (a' := ?_) #[true, true, true, true, true, true, true, true, true, true, true, true, false, false, false] rfl rfl (any_of HT_.out (by kernel_rfl)) (fun _ _ _ h => h) (Or.inl ⟨by rfl, ?_⟩) ?_ ?_
          rotate_left
          · intro w'
            go_simp
            with_reducible rfl
          rotate_left
          · simp only [Act.put, List.setIfInBounds_toArray, List.set_cons_zero, List.set_cons_succ, i64_w, i32_w]
            rfl
          refine last_ (i := 12) (N := none) #[true, true, true, true, true, true, true, true, true, true, true, true, true, false, false] rfl rfl (one_of HT_.out (by kernel_rfl)) (by decide) (fun K hK => ?_)
          refine skip_ (w1 := ?_) (by rfl) rfl ?_ ?_
          rotate_left
          · go_simp
            rfl
          refine hK.out _ _ ?_
          clear hK K
          refine pure_ (i := 13) (N := some 1) (v := ?_) (a' := ?_) #[true, true, true, true, true, true, true, true, true, true, true, true, true, true, false] rfl rfl (any_of HT_.out (by kernel_rfl)) (fun _ _ _ h => h) (Or.inl ⟨by rfl, ?_⟩) ?_ ?_
          rotate_left
          · intro w'
            go_simp
            with_reducible rfl
          rotate_left
          · simp only [Act.put, List.setIfInBounds_toArray, List.set_cons_zero, List.set_cons_succ, i64_w, i32_w]
            rfl
          refine pure_ (i := 14) (N := some 8) (v := ?_) (a' := ?_) #[true, true, true, true, true, true, true, true, true, true, true, true, true, true, true] rfl rfl (any_of HT_.out (by kernel_rfl)) (fun _ _ _ h => h) (Or.inl ⟨by rfl, ?_⟩) ?_ ?_
          rotate_left
          · intro w'
            go_simp
            with_reducible rfl
          rotate_left
          · simp only [Act.put, List.setIfInBounds_toArray, List.set_cons_zero, List.set_cons_succ, i64_w, i32_w]
            rfl
          refine done_ (done_of HT_.out (by kernel_rfl)) ?_
          clear HT_ HW_
          try go_wp2
          · rename_i hs3
            have hz : ¬ s3 = 0 := by simpa using hs3
            have hf2 := HF2.out
            rw [if_neg hz] at hf2
            simp only [Prod.mk.injEq] at hf2
            obtain ⟨-, -, rfl⟩ := hf2
            have hq := HPQ.out
            rw [if_neg hz] at hq
            simp only [Prod.mk.injEq] at hq
            obtain ⟨rfl, rfl, rfl⟩ := hq
            go_ret3
            refine ⟨_, rfl, Kd.R_nil _ _ _ _ _, ?_⟩
            rw [HPA.out]
            exact below_set HB7.out GL.out
          · rename_i hs3
            have hz : s3 = 0 := by simpa using hs3
            have hf2 := HF2.out
            rw [if_pos hz] at hf2
            have HF3 := Aside0.mk hf2
            clear hf2 HF2 hs3 hz
            go_roundg d
            case measure => omega
            case rel =>
              have hj := HJ.out
              have hjn := HJN.out
              refine ⟨putF jn s1 x, s2, j + 1, rfl, rfl, ⟨by omega⟩, HF3, ⟨?_⟩, ⟨?_⟩, ⟨?_⟩⟩
              · rw [HPA.out, blk_set BL7.out, rowC_set _ _ _ _ hjn.1]
              · refine blk_far BF7.out ?_ _
                rw [HPA.out]
                exact NLF.out.symm
              · rw [HPA.out]
                exact below_set HB7.out GL.out
end Go.Proofs.Ytolfbnkdmafomaa.P
