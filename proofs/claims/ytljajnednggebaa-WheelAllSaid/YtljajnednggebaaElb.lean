/- Layer 11: WheelAll. -/
import Derived.Test.YtljajnednggebaaEwl
namespace Go.Proofs.Ytljajnednggebaa.P
set_option linter.unusedSimpArgs false
set_option linter.unusedVariables false
open Go.RowKit Go.Maps Go.Proofs.YtljajnednggebaaW.PrintWords Go.Proofs.YtljajnednggebaaW.PrintLast Go.Proofs.YtljajnednggebaaW.PrintMore
open Classical
noncomputable def thalweglaw11_WheelAll.f (l0 : List S29) : Option Bool := if OkS l0 then some true else none
def wal.T7 : Bool × List (List Nat × List Nat) := (true, [([], []), ([], []), ([], []), ([1, 2], [1, 2]), ([3], [3]), ([4], [4]), ([], []), ([], []), ([6, 7], [6, 7]), ([8], [8]), ([9], [9]), ([0, 5, 10], [0, 5, 10])])
def wal.B7 : List Nat := [0, 0, 0, 6, 14, 30, 0, 0, 192, 448, 960, 2047]
theorem wal.tab7 : rtab .any (opsOf Try.f4 7) = wal.T7 := by kernel_rfl
theorem wal.bits7 : waitsOk wal.T7.2 wal.B7 = true := by kernel_rfl
set_option maxHeartbeats 8000000 in
set_option maxRecDepth 100000 in
theorem thalweglaw11_WheelAll.calls (A0 : Option Addr) (c0 : Nat) (l0 : List S29) (r : Bool) (w : World) (hr0 : Kd.C k29 w A0 l0.length l0) (hc0 : l0.length ≤ c0) (h : thalweglaw11_WheelAll.f l0 = some r) :
    Calls Try.prog 4 #[.slice A0 l0.length c0] w fun e w' => e = .returned (.bool r) ∧ Below w.heap.size w w' := by
  have HR0 := Aside0.mk hr0
  have HOS : Aside0 (OkS l0) := ⟨by unfold thalweglaw11_WheelAll.f at h; split at h; assumption; cases h⟩
  have hr : true = r := by unfold thalweglaw11_WheelAll.f at h; rw [if_pos HOS.out] at h; exact Option.some.inj h
  subst hr
  clear h hr0
  have hnot : ∀ (x : Bool) (w : World), (Op.unary .not (.bool x)).run Try.prog w = .ok (.bool (!x)) w := fun _ _ => rfl
  by_cases hl : (l0.length : Int) > 100
  · have bq : decide ((l0.length : Int) > 100) = true := decide_eq_true hl
    clear hl
    go_enter Try.func4, Try.ntmps4
    go_wp2_with (first
      | (go_at_call 8; (with_reducible refine (new_x (Below.refl _ _)).mono ?_); rintro x_ w1 ⟨g, rfl, hn⟩; have M0 := Aside0.mk hn; clear hn)
      | (go_at_call 9; (with_reducible refine (awake_x _).mono ?_); rintro x_ w9 ⟨rfl, hb⟩; have B9 := Aside0.mk hb; clear hb))
    go_ret
    exact ⟨rfl, (M0.out.below B9.out).bl⟩
  · have bq : decide ((l0.length : Int) > 100) = false := decide_eq_false hl
    have HLL := Aside0.mk hl
    clear hl
    go_enter Try.func4, Try.ntmps4
    go_wp2_with (go_at_call 8; (with_reducible refine (new_x (Below.refl _ _)).mono ?_); rintro x_ w1 ⟨g, rfl, hn⟩; have M0 := Aside0.mk hn; clear hn)
    go_loopg [4] l0.length (fun kq v4 wr => ∃ (x : Int), v4 = .int .i64 x ∧ Aside0 (0 ≤ x) ∧ Aside0 (x + kq = l0.length) ∧ Aside0 (∃ L, WS w wr g x.toNat L ∧ Rg L))
    case atStart => exact ⟨0, rfl, ⟨by omega⟩, ⟨by omega⟩, ⟨[], M0.out, Rg.nil⟩⟩
    case round =>
    obtain ⟨x, rfl, H0, HI, SS⟩ := hrel
    obtain ⟨L, hss, hrg⟩ := SS.out
    have HRG := Aside0.mk hrg
    have SS1 := Aside0.mk hss
    clear SS hss hrg bq
    cases gk with
    | zero =>
      have hn : decide (x < (l0.length : Int)) = false := decide_eq_false (by have := HI.out; omega)
      obtain ⟨wa, rfl⟩ : ∃ wa, wa = wr := ⟨_, rfl⟩
      obtain ⟨F, hF⟩ := SS1.out
      have HF := Aside0.mk hF
      have HL := Aside0.mk (show L.length ≤ 1024 from hF.2.1.2.2.2)
      have HW0 := Aside0.mk (below_size hF.2.bl)
      clear SS1 hF
      go_wp2_with (go_at_call 11; (refine (list_w HF.out).mono ?_); rintro e w1 ⟨vX, rfl, ho, hb⟩; obtain ⟨Ax, cx, rfl, _, _⟩ := Kd.R_reads ho; have S0 := Aside0.mk (DuS.start HF.out ho hb); clear ho hb)
      go_loopg [6, 7] L.length (fun kq v6' v7 wq => ∃ (y : Int) (v6 : Value), v7 = .int .i64 y ∧ v6 = v6' ∧ Aside0 (0 ≤ y) ∧ Aside0 (y + kq = L.length) ∧ Aside0 (DuS w wa F wq g x.toNat L 0 y.toNat Ax cx v6))
      case atStart => exact ⟨0, _, rfl, rfl, ⟨by omega⟩, ⟨by omega⟩, S0⟩
      case round =>
      clear S0
      obtain ⟨y, v6, rfl, rfl, G0, GI, SQ⟩ := hrel
      cases gk with
      | zero =>
        have hm : decide (y < (L.length : Int)) = false := decide_eq_false (by have := GI.out; omega)
        have hy : y.toNat = L.length := by have := GI.out; have := G0.out; omega
        obtain ⟨F2, hd1, hd2, hd3, hd4, hd5⟩ := SQ.out
        rw [hy, List.take_length] at hd5
        rw [List.drop_zero] at hd3
        obtain ⟨A6, c6, rfl, h6⟩ := row_n hd5 (List.length_map ..)
        have HWC := Aside0.mk h6
        have HDW := Aside0.mk hd3
        have HDX := Aside0.mk hd4
        have HDV := Aside0.mk hd5
        clear SQ hd1 hd2 hd3 hd4 hd5 hy h6
        by_cases hp : (L.length : Int) > 0
        · have bp : decide ((L.length : Int) > 0) = true := decide_eq_true hp
          have HLP := Aside0.mk hp
          have hlp := eq_true (show 0 < (L.length : Int) from hp)
          have HNX := Aside0.mk (next_pos (L := L) (by omega))
          clear hp
          go_wp2_with (first
            | (go_at_call 13; (with_reducible refine (next_e HDW.out HNX.out).mono ?_); rintro x_ w7 ⟨rfl, rfl⟩)
            | (go_at_call 12; (with_reducible refine (all_due HDW.out HRG.out).mono ?_); rintro x_ w8 ⟨A9, c9, F3, rfl, h1, h2, h3, h5, h6⟩; have HV := Aside0.mk h3; have HG := Aside0.mk h5; have HGC := Aside0.mk h6; have HX := Aside0.mk (R_nx rfl HDX.out h1 h2); have HWT := Aside0.mk (R_nx rfl HDV.out h1 h2); clear h1 h2 h3 h5 h6)
            | (go_at_call 9; (with_reducible refine (awake_x _).mono ?_); rintro x_ w9 ⟨rfl, hb⟩; have HV9 := Aside0.mk (HV.out.below hb); have HG9 := Aside0.mk (Kd.C_below HG.out hb); have HX9 := Aside0.mk (Kd.R_below HX.out hb); have HW9 := Aside0.mk (Kd.C_below (row_C HWT.out (List.length_map ..)) hb); clear hb)
            | (go_at_call 14; (with_reducible refine (ints_n HG9.out HGC.out HW9.out HWC.out (by rw [List.length_map]) (by have := HL.out; omega)).mono ?_); rintro x_ w10 ⟨rfl, hd⟩; have HB10 := Aside0.mk (drawn_below hd); have HV10 := Aside0.mk (HV9.out.below HB10.out); have HX10 := Aside0.mk (Kd.R_below HX9.out HB10.out); clear hd)
            | (go_at_call 11; (with_reducible refine (list_n (n := 0) HV10.out rfl).mono ?_); rintro x_ w11 ⟨A11, c11, rfl, _, _, hb⟩; have HV11 := Aside0.mk (HV10.out.below hb); have HX11 := Aside0.mk (Kd.R_below HX10.out hb); clear hb; obtain ⟨adx, e_, hx0, hx1⟩ := at_T35 (Kd.R_reads' HX11.out).2.2 0 (Int.le_refl _) HLP.out; cases e_; have e0 : adx.add ((0 : Int).toNat * 2) = adx := (by show adx.add 0 = adx; cases adx; simp [Addr.add]); rw [e0] at hx0))
          go_ret
          exact ⟨rfl, HV11.out.2.bl⟩
          rename_i hx
          exact absurd (by have := HLP.out; omega) hx
        · have bp : decide ((L.length : Int) > 0) = false := decide_eq_false hp
          have HLZ := Aside0.mk (show L.length = 0 by omega)
          have HNX := Aside0.mk (next_zero (L := L) (by omega))
          clear hp
          go_wp2_with (first
            | (go_at_call 13; (with_reducible refine (next_e HDW.out HNX.out).mono ?_); rintro x_ w7 ⟨rfl, rfl⟩)
            | (go_at_call 12; (with_reducible refine (all_due HDW.out HRG.out).mono ?_); rintro x_ w8 ⟨A9, c9, F3, rfl, h1, h2, h3, h5, h6⟩; have HV := Aside0.mk h3; have HG := Aside0.mk h5; have HGC := Aside0.mk h6; have HX := Aside0.mk (R_nx rfl HDX.out h1 h2); have HWT := Aside0.mk (R_nx rfl HDV.out h1 h2); clear h1 h2 h3 h5 h6)
            | (go_at_call 9; (with_reducible refine (awake_x _).mono ?_); rintro x_ w9 ⟨rfl, hb⟩; have HV9 := Aside0.mk (HV.out.below hb); have HG9 := Aside0.mk (Kd.C_below HG.out hb); have HX9 := Aside0.mk (Kd.R_below HX.out hb); have HW9 := Aside0.mk (Kd.C_below (row_C HWT.out (List.length_map ..)) hb); clear hb)
            | (go_at_call 14; (with_reducible refine (ints_n HG9.out HGC.out HW9.out HWC.out (by rw [List.length_map]) (by have := HL.out; omega)).mono ?_); rintro x_ w10 ⟨rfl, hd⟩; have HB10 := Aside0.mk (drawn_below hd); have HV10 := Aside0.mk (HV9.out.below HB10.out); have HX10 := Aside0.mk (Kd.R_below HX9.out HB10.out); clear hd)
            | (go_at_call 11; (with_reducible refine (list_n (n := 0) HV10.out rfl).mono ?_); rintro x_ w11 ⟨A11, c11, rfl, _, _, hb⟩; have HV11 := Aside0.mk (HV10.out.below hb); have HX11 := Aside0.mk (Kd.R_below HX10.out hb); clear hb))
          go_ret
          exact ⟨rfl, HV11.out.2.bl⟩
          rename_i hx
          exact absurd (List.length_eq_zero_iff.1 HLZ.out) hx
      | succ k1 =>
        have hlt := (show y < (L.length : Int) by have := GI.out; omega)
        have h0 := G0.out
        have hd : decide (y < (L.length : Int)) = true := decide_eq_true hlt
        have hw : wrap64 (y + 1) = y + 1 := w64 (by omega) (by have := HL.out; omega)
        have hyl : y.toNat < L.length := by omega
        have hry : rd_T35 L y = L[y.toNat] := rd35_at h0 hlt
        have HKE := Aside0.mk (show (L.take y.toNat).map S35.f1 ++ [(rd_T35 L y).f1] = (L.take (y.toNat + 1)).map S35.f1 by rw [hry, List.take_succ_eq_append_getElem hyl, List.map_append]; rfl)
        obtain ⟨ad, e_, hx0, hx1⟩ := at_T35 SQ.out.read y h0 hlt
        cases e_
        have h0t := eq_true h0
        have hltt := eq_true hlt
        clear hry hyl
        go_wp2_with (first
          | ((with_reducible refine gate_dst (N := 56) rfl ?_); refine lit1_event ?hg (N := 56) ?hd (cs := #[.int .i64 (rd_T35 L y).f1]) (t := 3) (n := 1) ?hr ?_; (case hd => rfl); (case hg => rfl); (case hr => first | (go_simp; done) | (go_simp; rfl)); intro gl hg w5 hbox hb; have SL := Aside0.mk (SQ.out.below hb); have BL := Aside0.mk hbox; clear hb hbox hg)
          | ((with_reducible refine gate_builtin (b := .append) (xs := #[.tmp 50, .tmp 56]) rfl ?_); at_builtin; (obtain ⟨F2, hs2⟩ := SL.out); have S5 := Aside0.mk hs2; clear hs2; refine Kd.R_append_rows (Kd.int .i64) (w0 := w5) wa.heap.size rfl (.tmp 50) (.tmp 56) 32 3 (.int .i64 0) 8 rfl Try.underlying32 info3 rfl (by decide) (by omega) v6 ((L.take y.toNat).map S35.f1) [(rd_T35 L y).f1] _ _ _ (fun k => ¬ F2 k) (fun _ => False) rfl rfl ?aO ?aR (fun _ _ h => h) (fun _ h => h.elim) ?aF ?aB ?aS ?aL ?_; (case aR => exact oneI_C BL.out); (case aB => exact Below.refl _ _); (case aF => exact (fun k hk hF => by have := S5.out.2.2.1.1 k hF; omega)); (case aO => exact S5.out.2.2.2.2); (case aS => exact S5.out.2.1.sz); (case aL => have := HL.out; rw [List.length_map, List.length_take]; omega); intro v2 w6 ho hb hg hat; have SE := Aside0.mk (DuS.appended S5.out.1 S5.out.2.1 S5.out.2.2.1 S5.out.2.2.2.1 S5.out.2.2.2.2 HW0.out ho HKE.out hg); clear ho hb hg hat))
        go_roundg k1
        case measure => have := GI.out; omega
        case rel => exact ⟨y + 1, _, by first | rfl | simp [hw], rfl, ⟨by omega⟩, ⟨by have := GI.out; omega⟩, ⟨by rw [show (y + 1).toNat = y.toNat + 1 by omega]; exact SE.out⟩⟩
    | succ k1 =>
      have hlt := (show x < (l0.length : Int) by have := HI.out; omega)
      have h0 := H0.out
      have hd : decide (x < (l0.length : Int)) = true := decide_eq_true hlt
      have hw : wrap64 (x + 1) = x + 1 := w64 (by omega) (by have := HLL.out; omega)
      have HNB := Aside0.mk (show x.toNat ≤ 1000000000 by have := HLL.out; omega)
      have HWK := Aside0.mk (HOS.out.at h0 hlt)
      obtain ⟨ad, e_, x0, x1, x2⟩ := at_T29 (Kd.C_below HR0.out SS1.out.bl) x h0 hlt
      cases e_
      have h0t := eq_true h0
      have hltt := eq_true hlt
      clear x0
      go_upto_region 7 with (fail)
      refine start_ (n := 12) (S := fun w' => w'.cell? ⟨(ad.add (x.toNat * 3)).block, (ad.add (x.toNat * 3)).off + 1, none⟩ = some (.int .i64 (rd_T29 l0 x).f1) ∧ w'.cell? ⟨(ad.add (x.toNat * 3)).block, (ad.add (x.toNat * 3)).off + 2, none⟩ = some (.int .i64 (rd_T29 l0 x).f2)) (ds := [11]) #[false, false, false, false, false, false, false, false, false, false, false, false] (by kernel_rfl) rfl rfl ⟨x1, x2⟩ (fun hHeld => ?_); refine with_tabW wal.tab7 wal.bits7 (fun HT_ HW_ => ?_)
      refine pure_ (i := 0) (N := some 30) (v := ?_) (a' := ?_) #[true, false, false, false, false, false, false, false, false, false, false, false] rfl rfl (any_of HT_.out (by kernel_rfl)) (fun _ _ _ h => h) (Or.inl ⟨by rfl, ?_⟩) ?_ ?_
      rotate_left
      · intro w'
        go_simp
        with_reducible rfl
      rotate_left
      · simp only [Act.put, List.setIfInBounds_toArray, List.set_cons_zero, List.set_cons_succ, i64_w, i32_w]
        rfl
      refine pure_ (i := 1) (N := some 31) (v := ?_) (a' := ?_) #[true, true, false, false, false, false, false, false, false, false, false, false] rfl rfl (any_of HT_.out (by kernel_rfl)) (fun _ _ _ h => h) (Or.inl ⟨by rfl, ?_⟩) ?_ ?_
      rotate_left
      · intro w'
        go_simp
        with_reducible rfl
      rotate_left
      · simp only [Act.put, List.setIfInBounds_toArray, List.set_cons_zero, List.set_cons_succ, i64_w, i32_w]
        rfl
      refine pure_ (i := 2) (N := some 32) (v := ?_) (a' := ?_) #[true, true, true, false, false, false, false, false, false, false, false, false] rfl rfl (any_of HT_.out (by kernel_rfl)) (fun _ _ _ h => h) (Or.inl ⟨by rfl, ?_⟩) ?_ ?_
      rotate_left
      · intro w'
        go_simp
        with_reducible rfl
      rotate_left
      · simp only [Act.put, List.setIfInBounds_toArray, List.set_cons_zero, List.set_cons_succ, i64_w, i32_w]
        rfl
      refine pure_ (i := 3) (N := some 33) (v := ?_) (a' := ?_) #[true, true, true, true, false, false, false, false, false, false, false, false] rfl rfl (any_of HT_.out (by kernel_rfl)) (fun _ _ _ h => h) (Or.inl ⟨by rfl, ?_⟩) ?_ ?_
      rotate_left
      · intro w'
        go_simp
        with_reducible rfl
      rotate_left
      · simp only [Act.put, List.setIfInBounds_toArray, List.set_cons_zero, List.set_cons_succ, i64_w, i32_w]
        rfl
      refine pure_ (i := 4) (N := some 34) (v := ?_) (a' := ?_) #[true, true, true, true, true, false, false, false, false, false, false, false] rfl rfl (any_of HT_.out (by kernel_rfl)) (fun _ _ _ h => h) (Or.inl ⟨by rfl, ?_⟩) ?_ ?_
      rotate_left
      · intro w'
        go_simp
        with_reducible rfl
      rotate_left
      · simp only [Act.put, List.setIfInBounds_toArray, List.set_cons_zero, List.set_cons_succ, i64_w, i32_w]
        rfl
      refine pure_ (i := 6) (N := some 36) (v := ?_) (a' := ?_) #[true, true, true, true, true, false, true, false, false, false, false, false] rfl rfl (any_of HT_.out (by kernel_rfl)) (fun _ _ _ h => h) (Or.inl ⟨by rfl, ?_⟩) ?_ ?_
      rotate_left
      · intro w'
        go_simp
        with_reducible rfl
      rotate_left
      · simp only [Act.put, List.setIfInBounds_toArray, List.set_cons_zero, List.set_cons_succ, i64_w, i32_w]
        rfl
      refine pure_ (i := 7) (N := some 37) (v := ?_) (a' := ?_) #[true, true, true, true, true, false, true, true, false, false, false, false] rfl rfl (any_of HT_.out (by kernel_rfl)) (fun _ _ _ h => h) (Or.inl ⟨by rfl, ?_⟩) ?_ ?_
      rotate_left
      · intro w'
        go_simp
        with_reducible rfl
      rotate_left
      · simp only [Act.put, List.setIfInBounds_toArray, List.set_cons_zero, List.set_cons_succ, i64_w, i32_w]
        rfl
      refine pure_ (i := 8) (N := some 38) (v := ?_) (a' := ?_) #[true, true, true, true, true, false, true, true, true, false, false, false] rfl rfl (any_of HT_.out (by kernel_rfl)) (fun _ _ _ h => h) (Or.inl ⟨by rfl, ?_⟩) ?_ ?_
      rotate_left
      · intro w'
        go_simp
        with_reducible rfl
      rotate_left
      · simp only [Act.put, List.setIfInBounds_toArray, List.set_cons_zero, List.set_cons_succ, i64_w, i32_w]
        rfl
      refine pure_ (i := 9) (N := some 39) (v := ?_) (a' := ?_) #[true, true, true, true, true, false, true, true, true, true, false, false] rfl rfl (any_of HT_.out (by kernel_rfl)) (fun _ _ _ h => h) (Or.inl ⟨by rfl, ?_⟩) ?_ ?_
      rotate_left
      · intro w'
        go_simp
        with_reducible rfl
      rotate_left
      · simp only [Act.put, List.setIfInBounds_toArray, List.set_cons_zero, List.set_cons_succ, i64_w, i32_w]
        rfl
      refine take_ (i := 5) (N := some 35) (v := ?_) (a' := ?_) #[true, true, true, true, true, true, true, true, true, true, false, false] rfl rfl (take_ofW HT_.out HW_.out (by kernel_rfl)) (fun _ _ _ h => h) (Or.inl ⟨by rfl, ?_⟩) hHeld ?_ ?_
      rotate_left
      · rintro w' ⟨s0, s1⟩
        go_simp
        with_reducible rfl
      rotate_left
      · simp only [Act.put, List.setIfInBounds_toArray, List.set_cons_zero, List.set_cons_succ, i64_w, i32_w]
        rfl
      refine take_ (i := 10) (N := some 40) (v := ?_) (a' := ?_) #[true, true, true, true, true, true, true, true, true, true, true, false] rfl rfl (take_ofW HT_.out HW_.out (by kernel_rfl)) (fun _ _ _ h => h) (Or.inl ⟨by rfl, ?_⟩) hHeld ?_ ?_
      rotate_left
      · rintro w' ⟨s0, s1⟩
        go_simp
        with_reducible rfl
      rotate_left
      · simp only [Act.put, List.setIfInBounds_toArray, List.set_cons_zero, List.set_cons_succ, i64_w, i32_w]
        rfl
      refine last_ (i := 11) (N := some 41) #[true, true, true, true, true, true, true, true, true, true, true, true] rfl rfl (one_of HT_.out (by kernel_rfl)) (by decide) (fun K hK => ?_)
      refine goes_ Try.func10 (by kernel_rfl) rfl #[.pointer (some ⟨g, 0, none⟩), .int .i64 (rd_T29 l0 x).f1, .int .i64 (rd_T29 l0 x).f2] (by rfl) rfl rfl (by simp only [List.map_toArray, List.map_cons, List.map_nil]; rfl) ?_
      with_reducible refine (set_x (SS1.out.below (below_drew (Below.refl _ _))) HNB.out _ _ HWK.out.1 HWK.out.2).mono ?_
      rintro e w2 ⟨rfl, hn⟩
      refine ⟨_, rfl, ?_⟩
      have SS2 := Aside0.mk hn
      clear hn
      refine hK.out _ _ ?_
      clear hK K
      refine norm_ (a' := ?_) ?_ ?_
      rotate_left
      · show Act.put _ (some 41) _ = _
        simp only [Act.put, List.setIfInBounds_toArray, List.set_cons_zero, List.set_cons_succ, i64_w, i32_w]
        rfl
      refine done_ (done_of HT_.out (by kernel_rfl)) ?_
      go_wp2
      go_roundg k1
      case measure => have := HI.out; omega
      case rel => exact ⟨x + 1, by first | rfl | simp [hw], ⟨by omega⟩, ⟨by have := HI.out; omega⟩, ⟨_, by rw [show (x + 1).toNat = x.toNat + 1 by omega]; exact SS2.out, rg_set HRG.out _ _⟩⟩
end Go.Proofs.Ytljajnednggebaa.P
