/- Layer 11: WheelParts. -/
import Derived.Test.YtljajnednggebaaEwp
namespace Go.Proofs.Ytljajnednggebaa.P
set_option linter.unusedSimpArgs false
set_option linter.unusedVariables false
open Go.RowKit Go.Maps Go.Proofs.YtljajnednggebaaW.PrintWords Go.Proofs.YtljajnednggebaaW.PrintLast Go.Proofs.YtljajnednggebaaW.PrintMore
open Classical
theorem list_2n {w0 w : World} {F : Nat → Prop} {ga gb Na Nb n : Nat} {La Lb : List S35} (h : W2 w0 F w ga Na La gb Nb Lb) (hn : La.length = n) :
    Calls Try.prog 11 #[.pointer (some ⟨ga, 0, none⟩)] w fun e w' => ∃ A c, e = .returned (.slice A n c) ∧ k35.R 35 w' w0.heap.size (fun k => ¬ F k) (.slice A n c) La ∧ n ≤ c ∧ Below w.heap.size w w' := by
  subst hn
  exact list_2 h
theorem reps_nil_ {α : Type} (R : α → List Value → Prop) (n : Nat) : Reps R n ([] : List α) [] := ⟨by simp, fun j p hj => by simp at hj⟩
noncomputable def thalweglaw11_WheelParts.f (l0 : List S29) (a1 : Int) (a2 : Int) : Option Bool := if OkS l0 then some true else none
def wpa.T8 : Bool × List (List Nat × List Nat) := (true, [([], []), ([], []), ([], []), ([1, 2], [1, 2]), ([3], [3]), ([4], [4]), ([], []), ([], []), ([6, 7], [6, 7]), ([8], [8]), ([9], [9]), ([0, 5, 10], [0, 5, 10])])
def wpa.B8 : List Nat := [0, 0, 0, 6, 14, 30, 0, 0, 192, 448, 960, 2047]
theorem wpa.tab8 : rtab .any (opsOf Try.f3 8) = wpa.T8 := by kernel_rfl
theorem wpa.bits8 : waitsOk wpa.T8.2 wpa.B8 = true := by kernel_rfl
def wpa.T9 : Bool × List (List Nat × List Nat) := (true, [([], []), ([], []), ([], []), ([1, 2], [1, 2]), ([3], [3]), ([4], [4]), ([], []), ([], []), ([6, 7], [6, 7]), ([8], [8]), ([9], [9]), ([0, 5, 10], [0, 5, 10])])
def wpa.B9 : List Nat := [0, 0, 0, 6, 14, 30, 0, 0, 192, 448, 960, 2047]
theorem wpa.tab9 : rtab .any (opsOf Try.f3 9) = wpa.T9 := by kernel_rfl
theorem wpa.bits9 : waitsOk wpa.T9.2 wpa.B9 = true := by kernel_rfl
set_option maxHeartbeats 8000000 in
set_option maxRecDepth 100000 in
theorem thalweglaw11_WheelParts.calls (A0 : Option Addr) (c0 : Nat) (l0 : List S29) (a1 : Int) (a2 : Int) (r : Bool) (w : World) (hr0 : Kd.C k29 w A0 l0.length l0) (hc0 : l0.length ≤ c0) (h : thalweglaw11_WheelParts.f l0 a1 a2 = some r) :
    Calls Try.prog 3 #[.slice A0 l0.length c0, .int .i64 a1, .int .i64 a2] w fun e w' => e = .returned (.bool r) ∧ Below w.heap.size w w' := by
  have HR0 := Aside0.mk hr0
  have hok : OkS l0 := by unfold thalweglaw11_WheelParts.f at h; split at h; assumption; cases h
  have hr : true = r := by unfold thalweglaw11_WheelParts.f at h; rw [if_pos hok] at h; exact Option.some.inj h
  subst hr
  have HOS := Aside0.mk hok
  clear h hr0 hok
  have hnot : ∀ (x : Bool) (w : World), (Op.unary .not (.bool x)).run Try.prog w = .ok (.bool (!x)) w := fun _ _ => rfl
  by_cases hl : (l0.length : Int) > 100
  · have bq : decide ((l0.length : Int) > 100) = true := decide_eq_true hl
    clear hl
    go_enter Try.func3, Try.ntmps3
    go_wp2_with (first
      | (go_at_call 8; (with_reducible refine (new_2 M0.out).mono ?_); rintro x_ w2 ⟨gb, rfl, F0, hn⟩; have M1 := Aside0.mk hn; clear hn)
      | (go_at_call 8; (with_reducible refine (new_x (Below.refl _ _)).mono ?_); rintro x_ w1 ⟨ga, rfl, hn⟩; have M0 := Aside0.mk hn; clear hn)
      | (go_at_call 9; (with_reducible refine (awake_x _).mono ?_); rintro x_ w9 ⟨rfl, hb⟩; have B9 := Aside0.mk hb; clear hb))
    go_ret
    exact ⟨rfl, (M1.out.below B9.out).bl⟩
  have bq : decide ((l0.length : Int) > 100) = false := decide_eq_false hl
  by_cases hla : a2 < a1
  · have bl : decide (a2 < a1) = true := decide_eq_true hla
    clear hl hla
    go_enter Try.func3, Try.ntmps3
    go_wp2_with (first
      | (go_at_call 8; (with_reducible refine (new_2 M0.out).mono ?_); rintro x_ w2 ⟨gb, rfl, F0, hn⟩; have M1 := Aside0.mk hn; clear hn)
      | (go_at_call 8; (with_reducible refine (new_x (Below.refl _ _)).mono ?_); rintro x_ w1 ⟨ga, rfl, hn⟩; have M0 := Aside0.mk hn; clear hn)
      | (go_at_call 9; (with_reducible refine (awake_x _).mono ?_); rintro x_ w9 ⟨rfl, hb⟩; have B9 := Aside0.mk hb; clear hb))
    go_ret
    exact ⟨rfl, (M1.out.below B9.out).bl⟩
  · have bl : decide (a2 < a1) = false := decide_eq_false hla
    have HLL := Aside0.mk hl
    have HLA := Aside0.mk (show a1 ≤ a2 by omega)
    clear hl hla
    go_enter Try.func3, Try.ntmps3
    go_wp2_with (first
      | (go_at_call 8; (with_reducible refine (new_2 M0.out).mono ?_); rintro x_ w2 ⟨gb, rfl, F0, hn⟩; have M1 := Aside0.mk hn; clear hn)
      | (go_at_call 8; (with_reducible refine (new_x (Below.refl _ _)).mono ?_); rintro x_ w1 ⟨ga, rfl, hn⟩; have M0 := Aside0.mk hn; clear hn))
    go_loopg [9] l0.length (fun kq v9 wr => ∃ (x : Int), v9 = .int .i64 x ∧ Aside0 (0 ≤ x) ∧ Aside0 (x + kq = l0.length) ∧ Aside0 (∃ F L, W2 w F wr ga x.toNat L gb x.toNat L))
    case atStart => exact ⟨0, rfl, ⟨by omega⟩, ⟨by omega⟩, ⟨F0, [], M1.out⟩⟩
    case round =>
    obtain ⟨x, rfl, H0, HI, SS⟩ := hrel
    obtain ⟨F, L, hss⟩ := SS.out
    have SS1 := Aside0.mk hss
    have HNB := Aside0.mk (show x.toNat ≤ 1000000000 by have := HLL.out; have := HI.out; have := H0.out; omega)
    clear SS hss bq bl
    cases gk with
    | zero =>
      have hn : decide (x < (l0.length : Int)) = false := decide_eq_false (by have := HI.out; omega)
      have HF := SS1
      have HTS := Aside0.mk SS1.out.ok.1
      have HL := Aside0.mk (show L.length ≤ 1024 from SS1.out.ok.2.2.2)
      obtain ⟨n1, hn1⟩ : ∃ n1, dueN L a1 = n1 := ⟨_, rfl⟩
      obtain ⟨n2, hn2⟩ : ∃ n2, dueN (L.drop n1) a2 = n2 := ⟨_, rfl⟩
      obtain ⟨n4, hn4⟩ : ∃ n4, dueN L a2 = n4 := ⟨_, rfl⟩
      have hsum : n1 + n2 = n4 := by rw [← hn4, ← due_split HLA.out L, hn1, hn2]
      have h4 : n4 ≤ L.length := by rw [← hn4]; exact dueN_le L a2
      have HN1 := Aside0.mk hn1
      have HN2 := Aside0.mk (show dueN (L.drop n1) a1 = 0 by rw [← hn1]; exact due_again L a1)
      have HN3 := Aside0.mk hn2
      have HN4 := Aside0.mk hn4
      have HDD := Aside0.mk (show (L.drop n1).drop n2 = L.drop n4 by rw [List.drop_drop, hsum])
      have HL1 := Aside0.mk (show ((L.take n1).map S35.f1).length = n1 by rw [List.length_map, List.length_take]; omega)
      have HL2 := Aside0.mk (show (((L.drop n1).take n2).map S35.f1).length = n2 by rw [List.length_map, List.length_take, List.length_drop]; omega)
      have HL4 := Aside0.mk (show ((L.take n4).map S35.f1).length = n4 by rw [List.length_map, List.length_take]; omega)
      have HAL := Aside0.mk (show ([] ++ (L.take n1).map S35.f1) ++ ((L.drop n1).take n2).map S35.f1 = (L.take n4).map S35.f1 by rw [List.nil_append, ← List.map_append, ← List.take_add, hsum])
      have HBN := Aside0.mk (show n1 ≤ 1024 ∧ n2 ≤ 1024 by have := HL.out; omega)
      have HB4 := Aside0.mk (show n4 ≤ 1000000000000 by have := HL.out; omega)
      obtain ⟨m4, hm4⟩ : ∃ m4, (L.drop n4).length = m4 := ⟨_, rfl⟩
      have HM4 := Aside0.mk hm4
      have HBD := Aside0.mk (show m4 ≤ 1000000000000 by have := HL.out; rw [← hm4, List.length_drop]; omega)
      clear hm4
      have HCA := Aside0.mk (show cntD L a2 L.length = (n4 : Int) by rw [cntD_all HTS.out, hn4])
      have HNL := Aside0.mk (show ∀ v, nextL (L.drop n4) = (v, true) → a2 < v by rw [← hn4]; exact next_late a2 L)
      clear hn1 hn2 hn4 hsum h4 SS1
      go_wp2_with (first
        | (go_at_call 11; (with_reducible refine (list_2 HF.out).mono ?_); rintro x_ w2 ⟨Ax, cx, rfl, ho, hlc, hb⟩; have S1 := Aside0.mk (HF.out.below hb); have HX1 := Aside0.mk ho; clear ho hlc hb)
        | (go_at_call 12; (with_reducible refine (due_2 S1.out a1 HN1.out).mono ?_); rintro x_ w3 ⟨A3, c3, F3, rfl, hx, ho, hlc⟩; have S2 := Aside0.mk hx.2.2; have HX2 := Aside0.mk (R_nx rfl HX1.out hx.1 hx.2.1); have P2 := Aside0.mk ho; have PC := Aside0.mk hlc; clear hx ho hlc)
        | (go_at_call 12; (with_reducible refine (due_2 S2.out a1 HN2.out).mono ?_); rintro x_ w4 ⟨A4, c4, F4, rfl, hx, ho, hlc⟩; rw [List.drop_zero] at hx; have S3 := Aside0.mk hx.2.2; have HX3 := Aside0.mk (R_nx rfl HX2.out hx.1 hx.2.1); have P3 := Aside0.mk (R_nx rfl P2.out hx.1 hx.2.1); clear hx ho hlc)
        | (go_at_call 12; (with_reducible refine (due_2 S3.out a2 HN3.out).mono ?_); rintro x_ w5 ⟨A5, c5, F5, rfl, hx, ho, hlc⟩; rw [HDD.out] at hx; have S4 := Aside0.mk hx.2.2; have HX4 := Aside0.mk (R_nx rfl HX3.out hx.1 hx.2.1); have P4 := Aside0.mk (R_nx rfl P3.out hx.1 hx.2.1); have Q4 := Aside0.mk ho; have QC := Aside0.mk hlc; clear hx ho hlc)
        | (go_at_call 12; (with_reducible refine (due_2 S4.out.swap a2 HN4.out).mono ?_); rintro x_ w6 ⟨A6, c6, F6, rfl, hx, ho, hlc⟩; have S5 := Aside0.mk hx.2.2.swap; have HX5 := Aside0.mk (R_nx rfl HX4.out hx.1 hx.2.1); have P5 := Aside0.mk (R_nx rfl P4.out hx.1 hx.2.1); have Q5 := Aside0.mk (R_nx rfl Q4.out hx.1 hx.2.1); have Z5 := Aside0.mk ho; have ZC := Aside0.mk hlc; clear hx ho hlc)
        | ((with_reducible refine gate_dst (N := 87) rfl ?_); refine Kd.R_lit (Kd.int .i64) (w0 := w6) w6.heap.size 3 ?hg (N := 87) ?hd (xs := []) (inner := []) (ok := fun _ => True) (okp := fun _ => True) ?hr ?hrep (fun _ h => h) trivial (Below.refl _ _) (Nat.le_refl _) ?hm ?_; (case hd => rfl); (case hg => rfl); (case hr => first | (go_simp; done) | (go_simp; rfl)); (case hrep => exact reps_nil_ _ _); (case hm => exact Nat.zero_le _); intro v1 w7 ho hb hg hat; have L0 := Aside0.mk ho; have B0 := Aside0.mk hb; clear ho hb hg hat)
        | ((with_reducible refine gate_builtin (b := .append) (xs := #[.tmp 87, .tmp 88]) rfl ?_); at_builtin; refine Kd.R_append_rows (Kd.int .i64) (w0 := w6) w6.heap.size rfl (.tmp 87) (.tmp 88) 32 3 (.int .i64 0) 8 rfl Try.underlying32 info3 rfl (by decide) (by omega) v1 [] ((L.take n1).map S35.f1) _ _ _ (fun _ => True) (fun _ => False) rfl rfl ?aO ?aR (fun _ _ h => h) (fun _ h => h.elim) ?aF ?aB ?aS ?aL ?_; (case aR => exact Kd.C_below (row_C P5.out HL1.out) B0.out); (case aB => exact B0.out); (case aF => exact fun _ _ => trivial); (case aO => exact L0.out); (case aS => exact below_size B0.out); (case aL => have := HBN.out; simp only [List.length_append, List.length_nil, List.length_map, List.length_take]; omega); intro v2 w8 ho hb hg hat; have L1 := Aside0.mk ho; have B1 := Aside0.mk hb; clear ho hb hg hat)
        | ((with_reducible refine gate_builtin (b := .append) (xs := #[.tmp 89, .tmp 90]) rfl ?_); at_builtin; refine Kd.R_append_rows (Kd.int .i64) (w0 := w6) w6.heap.size rfl (.tmp 89) (.tmp 90) 32 3 (.int .i64 0) 8 rfl Try.underlying32 info3 rfl (by decide) (by omega) v2 ([] ++ ((L.take n1).map S35.f1)) (((L.drop n1).take n2).map S35.f1) _ _ _ (fun _ => True) (fun _ => False) rfl rfl ?aO ?aR (fun _ _ h => h) (fun _ h => h.elim) ?aF ?aB ?aS ?aL ?_; (case aR => exact Kd.C_below (row_C Q5.out HL2.out) B1.out); (case aB => exact B1.out); (case aF => exact fun _ _ => trivial); (case aO => exact L1.out); (case aS => exact below_size B1.out); (case aL => have := HBN.out; simp only [List.length_append, List.length_nil, List.length_map, List.length_take]; omega); intro v3 w10 ho hb hg hat; rw [HAL.out] at ho; obtain ⟨A9, c9, rfl, hl9⟩ := row_n ho HL4.out; have L2 := Aside0.mk ho; have LC := Aside0.mk hl9; have S6 := Aside0.mk (S5.out.below hb); have HX6 := Aside0.mk (Kd.R_below HX5.out hb); have Z6 := Aside0.mk (Kd.R_below Z5.out hb); clear hl9; clear ho hb hg hat))
      go_loopg [16, 17] L.length (fun kq v16 v17 wq => ∃ (y n : Int), v16 = .int .i64 n ∧ v17 = .int .i64 y ∧ Aside0 (n = cntD L a2 y.toNat) ∧ Aside0 (0 ≤ y) ∧ Aside0 (y + kq = L.length) ∧ wq = w10)
      case atStart => exact ⟨0, 0, rfl, rfl, ⟨rfl⟩, ⟨by omega⟩, ⟨by omega⟩, rfl⟩
      case round =>
      obtain ⟨y, n, rfl, rfl, HCN0, G0, GI, hww⟩ := hrel
      subst hww
      cases gk with
      | zero =>
        have hm : decide (y < (L.length : Int)) = false := decide_eq_false (by have := GI.out; omega)
        have hn1 : n = (n4 : Int) := by
          have hy : y.toNat = L.length := by have := GI.out; have := G0.out; omega
          rw [HCN0.out, hy]
          exact HCA.out
        subst hn1
        obtain ⟨v, b, hnv⟩ : ∃ v b, nextL (L.drop n4) = (v, b) := ⟨_, _, rfl⟩
        have HNX := Aside0.mk hnv
        clear HCN0
        cases b with
        | true =>
          have bv : decide (v > a2) = true := decide_eq_true (HNL.out v hnv)
          clear hnv
          go_wp2_with (first
            | (go_at_call 13; (with_reducible refine (next_2 S6.out HNX.out).mono ?_); rintro x_ w11 ⟨rfl, rfl⟩)
            | (go_at_call 9; (with_reducible refine (awake_x _).mono ?_); rintro x_ w12 ⟨rfl, hb⟩; have S7 := Aside0.mk (S6.out.below hb); have Z7 := Aside0.mk (Kd.C_below (row_C Z6.out HL4.out) hb); have L7 := Aside0.mk (Kd.C_below (row_C L2.out HL4.out) hb); clear hb)
            | (go_at_call 14; (with_reducible refine (ints_n L7.out LC.out Z7.out ZC.out HL4.out HB4.out).mono ?_); rintro x_ w13 ⟨rfl, hd⟩; have S8 := Aside0.mk (S7.out.below (drawn_below hd)); clear hd)
            | (go_at_call 11; (with_reducible refine (list_2n S8.out HM4.out).mono ?_); rintro x_ w14 ⟨A14, c14, rfl, ho, hlc, hb⟩; have S9 := Aside0.mk (S8.out.below hb); have HA9 := Aside0.mk ho; have HAC := Aside0.mk hlc; clear ho hlc hb)
            | (go_at_call 11; (with_reducible refine (list_2n S9.out.swap HM4.out).mono ?_); rintro x_ w15 ⟨A15, c15, rfl, ho, hlc, hb⟩; have S10 := Aside0.mk (S9.out.below hb); have HA10 := Aside0.mk (Kd.R_below HA9.out hb); have HB10 := Aside0.mk ho; have HBC := Aside0.mk hlc; clear ho hlc hb)
            | (go_at_call 15; (with_reducible refine (same_n (row_C HA10.out HM4.out) HAC.out (row_C HB10.out HM4.out) HBC.out HM4.out HBD.out).mono ?_); rintro x_ w16 ⟨rfl, hd⟩; have S11 := Aside0.mk (S10.out.below (drawn_below hd)); clear hd))
          go_ret
          exact ⟨rfl, S11.out.bl⟩
        | false =>
          clear hnv
          go_wp2_with (first
            | (go_at_call 13; (with_reducible refine (next_2 S6.out HNX.out).mono ?_); rintro x_ w11 ⟨rfl, rfl⟩)
            | (go_at_call 9; (with_reducible refine (awake_x _).mono ?_); rintro x_ w12 ⟨rfl, hb⟩; have S7 := Aside0.mk (S6.out.below hb); have Z7 := Aside0.mk (Kd.C_below (row_C Z6.out HL4.out) hb); have L7 := Aside0.mk (Kd.C_below (row_C L2.out HL4.out) hb); clear hb)
            | (go_at_call 14; (with_reducible refine (ints_n L7.out LC.out Z7.out ZC.out HL4.out HB4.out).mono ?_); rintro x_ w13 ⟨rfl, hd⟩; have S8 := Aside0.mk (S7.out.below (drawn_below hd)); clear hd)
            | (go_at_call 11; (with_reducible refine (list_2n S8.out HM4.out).mono ?_); rintro x_ w14 ⟨A14, c14, rfl, ho, hlc, hb⟩; have S9 := Aside0.mk (S8.out.below hb); have HA9 := Aside0.mk ho; have HAC := Aside0.mk hlc; clear ho hlc hb)
            | (go_at_call 11; (with_reducible refine (list_2n S9.out.swap HM4.out).mono ?_); rintro x_ w15 ⟨A15, c15, rfl, ho, hlc, hb⟩; have S10 := Aside0.mk (S9.out.below hb); have HA10 := Aside0.mk (Kd.R_below HA9.out hb); have HB10 := Aside0.mk ho; have HBC := Aside0.mk hlc; clear ho hlc hb)
            | (go_at_call 15; (with_reducible refine (same_n (row_C HA10.out HM4.out) HAC.out (row_C HB10.out HM4.out) HBC.out HM4.out HBD.out).mono ?_); rintro x_ w16 ⟨rfl, hd⟩; have S11 := Aside0.mk (S10.out.below (drawn_below hd)); clear hd))
          go_ret
          exact ⟨rfl, S11.out.bl⟩
      | succ k1 =>
        have hlt := (show y < (L.length : Int) by have := GI.out; omega)
        have h0 := G0.out
        have hd : decide (y < (L.length : Int)) = true := decide_eq_true hlt
        have hw : wrap64 (y + 1) = y + 1 := w64 (by omega) (by have := HL.out; omega)
        have hle := cntD_le L a2 y.toNat
        have hwn : wrap64 (n + 1) = n + 1 := w64 (by rw [HCN0.out]; omega) (by rw [HCN0.out]; have := HL.out; omega)
        have hstep := cntD_step (L := L) (t := a2) h0 hlt
        rw [← HCN0.out] at hstep
        obtain ⟨ad, e_, y0, y1⟩ := at_T35 (row_C HX6.out rfl) y h0 hlt
        cases e_
        have h0t := eq_true h0
        have hltt := eq_true hlt
        clear hle
        by_cases hkk : (rd_T35 L y).f0 ≤ a2
        · have bk : decide ((rd_T35 L y).f0 ≤ a2) = true := decide_eq_true hkk
          have HCN := Aside0.mk (show n + 1 = cntD L a2 (y.toNat + 1) by rw [hstep, if_pos hkk])
          clear hkk hstep
          go_wp2
          go_roundg k1
          case measure => have := GI.out; omega
          case rel => exact ⟨y + 1, n + 1, by first | rfl | simp [hwn], by first | rfl | simp [hw], ⟨by rw [show (y + 1).toNat = y.toNat + 1 by omega]; exact HCN.out⟩, ⟨by omega⟩, ⟨by have := GI.out; omega⟩, rfl⟩
        · have bk : decide ((rd_T35 L y).f0 ≤ a2) = false := decide_eq_false hkk
          have HCN := Aside0.mk (show n = cntD L a2 (y.toNat + 1) by rw [hstep, if_neg hkk]; omega)
          clear hkk hstep
          go_wp2
          go_roundg k1
          case measure => have := GI.out; omega
          case rel => exact ⟨y + 1, n, by first | rfl | simp [hwn], by first | rfl | simp [hw], ⟨by rw [show (y + 1).toNat = y.toNat + 1 by omega]; exact HCN.out⟩, ⟨by omega⟩, ⟨by have := GI.out; omega⟩, rfl⟩
    | succ k1 =>
      have hlt := (show x < (l0.length : Int) by have := HI.out; omega)
      have h0 := H0.out
      have hd : decide (x < (l0.length : Int)) = true := decide_eq_true hlt
      have hw : wrap64 (x + 1) = x + 1 := w64 (by omega) (by have := HLL.out; omega)
      have HWK := Aside0.mk (HOS.out.at h0 hlt)
      obtain ⟨ad, e_, x0, x1, x2⟩ := at_T29 (Kd.C_below HR0.out SS1.out.bl) x h0 hlt
      cases e_
      have h0t := eq_true h0
      have hltt := eq_true hlt
      clear x0
      go_upto_region 8 with (fail)
      refine start_ (n := 12) (S := fun w' => w'.cell? ⟨(ad.add (x.toNat * 3)).block, (ad.add (x.toNat * 3)).off + 1, none⟩ = some (.int .i64 (rd_T29 l0 x).f1) ∧ w'.cell? ⟨(ad.add (x.toNat * 3)).block, (ad.add (x.toNat * 3)).off + 2, none⟩ = some (.int .i64 (rd_T29 l0 x).f2)) (ds := [11]) #[false, false, false, false, false, false, false, false, false, false, false, false] (by kernel_rfl) rfl rfl ⟨x1, x2⟩ (fun hHeld => ?_); refine with_tabW wpa.tab8 wpa.bits8 (fun HT_ HW_ => ?_)
      refine pure_ (i := 0) (N := some 49) (v := ?_) (a' := ?_) #[true, false, false, false, false, false, false, false, false, false, false, false] rfl rfl (any_of HT_.out (by kernel_rfl)) (fun _ _ _ h => h) (Or.inl ⟨by rfl, ?_⟩) ?_ ?_
      rotate_left
      · intro w'
        go_simp
        with_reducible rfl
      rotate_left
      · simp only [Act.put, List.setIfInBounds_toArray, List.set_cons_zero, List.set_cons_succ, i64_w, i32_w]
        rfl
      refine pure_ (i := 1) (N := some 50) (v := ?_) (a' := ?_) #[true, true, false, false, false, false, false, false, false, false, false, false] rfl rfl (any_of HT_.out (by kernel_rfl)) (fun _ _ _ h => h) (Or.inl ⟨by rfl, ?_⟩) ?_ ?_
      rotate_left
      · intro w'
        go_simp
        with_reducible rfl
      rotate_left
      · simp only [Act.put, List.setIfInBounds_toArray, List.set_cons_zero, List.set_cons_succ, i64_w, i32_w]
        rfl
      refine pure_ (i := 2) (N := some 51) (v := ?_) (a' := ?_) #[true, true, true, false, false, false, false, false, false, false, false, false] rfl rfl (any_of HT_.out (by kernel_rfl)) (fun _ _ _ h => h) (Or.inl ⟨by rfl, ?_⟩) ?_ ?_
      rotate_left
      · intro w'
        go_simp
        with_reducible rfl
      rotate_left
      · simp only [Act.put, List.setIfInBounds_toArray, List.set_cons_zero, List.set_cons_succ, i64_w, i32_w]
        rfl
      refine pure_ (i := 3) (N := some 52) (v := ?_) (a' := ?_) #[true, true, true, true, false, false, false, false, false, false, false, false] rfl rfl (any_of HT_.out (by kernel_rfl)) (fun _ _ _ h => h) (Or.inl ⟨by rfl, ?_⟩) ?_ ?_
      rotate_left
      · intro w'
        go_simp
        with_reducible rfl
      rotate_left
      · simp only [Act.put, List.setIfInBounds_toArray, List.set_cons_zero, List.set_cons_succ, i64_w, i32_w]
        rfl
      refine pure_ (i := 4) (N := some 53) (v := ?_) (a' := ?_) #[true, true, true, true, true, false, false, false, false, false, false, false] rfl rfl (any_of HT_.out (by kernel_rfl)) (fun _ _ _ h => h) (Or.inl ⟨by rfl, ?_⟩) ?_ ?_
      rotate_left
      · intro w'
        go_simp
        with_reducible rfl
      rotate_left
      · simp only [Act.put, List.setIfInBounds_toArray, List.set_cons_zero, List.set_cons_succ, i64_w, i32_w]
        rfl
      refine pure_ (i := 6) (N := some 55) (v := ?_) (a' := ?_) #[true, true, true, true, true, false, true, false, false, false, false, false] rfl rfl (any_of HT_.out (by kernel_rfl)) (fun _ _ _ h => h) (Or.inl ⟨by rfl, ?_⟩) ?_ ?_
      rotate_left
      · intro w'
        go_simp
        with_reducible rfl
      rotate_left
      · simp only [Act.put, List.setIfInBounds_toArray, List.set_cons_zero, List.set_cons_succ, i64_w, i32_w]
        rfl
      refine pure_ (i := 7) (N := some 56) (v := ?_) (a' := ?_) #[true, true, true, true, true, false, true, true, false, false, false, false] rfl rfl (any_of HT_.out (by kernel_rfl)) (fun _ _ _ h => h) (Or.inl ⟨by rfl, ?_⟩) ?_ ?_
      rotate_left
      · intro w'
        go_simp
        with_reducible rfl
      rotate_left
      · simp only [Act.put, List.setIfInBounds_toArray, List.set_cons_zero, List.set_cons_succ, i64_w, i32_w]
        rfl
      refine pure_ (i := 8) (N := some 57) (v := ?_) (a' := ?_) #[true, true, true, true, true, false, true, true, true, false, false, false] rfl rfl (any_of HT_.out (by kernel_rfl)) (fun _ _ _ h => h) (Or.inl ⟨by rfl, ?_⟩) ?_ ?_
      rotate_left
      · intro w'
        go_simp
        with_reducible rfl
      rotate_left
      · simp only [Act.put, List.setIfInBounds_toArray, List.set_cons_zero, List.set_cons_succ, i64_w, i32_w]
        rfl
      refine pure_ (i := 9) (N := some 58) (v := ?_) (a' := ?_) #[true, true, true, true, true, false, true, true, true, true, false, false] rfl rfl (any_of HT_.out (by kernel_rfl)) (fun _ _ _ h => h) (Or.inl ⟨by rfl, ?_⟩) ?_ ?_
      rotate_left
      · intro w'
        go_simp
        with_reducible rfl
      rotate_left
      · simp only [Act.put, List.setIfInBounds_toArray, List.set_cons_zero, List.set_cons_succ, i64_w, i32_w]
        rfl
      refine take_ (i := 5) (N := some 54) (v := ?_) (a' := ?_) #[true, true, true, true, true, true, true, true, true, true, false, false] rfl rfl (take_ofW HT_.out HW_.out (by kernel_rfl)) (fun _ _ _ h => h) (Or.inl ⟨by rfl, ?_⟩) hHeld ?_ ?_
      rotate_left
      · rintro w' ⟨s0, s1⟩
        go_simp
        with_reducible rfl
      rotate_left
      · simp only [Act.put, List.setIfInBounds_toArray, List.set_cons_zero, List.set_cons_succ, i64_w, i32_w]
        rfl
      refine take_ (i := 10) (N := some 59) (v := ?_) (a' := ?_) #[true, true, true, true, true, true, true, true, true, true, true, false] rfl rfl (take_ofW HT_.out HW_.out (by kernel_rfl)) (fun _ _ _ h => h) (Or.inl ⟨by rfl, ?_⟩) hHeld ?_ ?_
      rotate_left
      · rintro w' ⟨s0, s1⟩
        go_simp
        with_reducible rfl
      rotate_left
      · simp only [Act.put, List.setIfInBounds_toArray, List.set_cons_zero, List.set_cons_succ, i64_w, i32_w]
        rfl
      refine last_ (i := 11) (N := some 60) #[true, true, true, true, true, true, true, true, true, true, true, true] rfl rfl (one_of HT_.out (by kernel_rfl)) (by decide) (fun K hK => ?_)
      refine goes_ Try.func10 (by kernel_rfl) rfl #[.pointer (some ⟨ga, 0, none⟩), .int .i64 (rd_T29 l0 x).f1, .int .i64 (rd_T29 l0 x).f2] (by rfl) rfl rfl (by simp only [List.map_toArray, List.map_cons, List.map_nil]; rfl) ?_
      with_reducible refine (set_2 (SS1.out.below (below_drew (Below.refl _ _))) HNB.out _ _ HWK.out.1 HWK.out.2).mono ?_
      rintro e w2 ⟨rfl, F2, hn⟩
      refine ⟨_, rfl, ?_⟩
      have SS2 := Aside0.mk hn
      clear hn
      refine hK.out _ _ ?_
      clear hK K
      refine norm_ (a' := ?_) ?_ ?_
      rotate_left
      · show Act.put _ (some 60) _ = _
        simp only [Act.put, List.setIfInBounds_toArray, List.set_cons_zero, List.set_cons_succ, i64_w, i32_w]
        rfl
      refine done_ (done_of HT_.out (by kernel_rfl)) ?_
      obtain ⟨ad', e_, u0, u1, u2⟩ := at_T29 (Kd.C_below HR0.out SS2.out.bl) x h0 hlt
      cases e_
      clear u0
      go_upto_region 9 with (fail)
      refine start_ (n := 12) (S := fun w' => w'.cell? ⟨(ad.add (x.toNat * 3)).block, (ad.add (x.toNat * 3)).off + 1, none⟩ = some (.int .i64 (rd_T29 l0 x).f1) ∧ w'.cell? ⟨(ad.add (x.toNat * 3)).block, (ad.add (x.toNat * 3)).off + 2, none⟩ = some (.int .i64 (rd_T29 l0 x).f2)) (ds := [11]) #[false, false, false, false, false, false, false, false, false, false, false, false] (by kernel_rfl) rfl rfl ⟨u1, u2⟩ (fun hHeld => ?_); refine with_tabW wpa.tab9 wpa.bits9 (fun HT_ HW_ => ?_)
      refine pure_ (i := 0) (N := some 61) (v := ?_) (a' := ?_) #[true, false, false, false, false, false, false, false, false, false, false, false] rfl rfl (any_of HT_.out (by kernel_rfl)) (fun _ _ _ h => h) (Or.inl ⟨by rfl, ?_⟩) ?_ ?_
      rotate_left
      · intro w'
        go_simp
        with_reducible rfl
      rotate_left
      · simp only [Act.put, List.setIfInBounds_toArray, List.set_cons_zero, List.set_cons_succ, i64_w, i32_w]
        rfl
      refine pure_ (i := 1) (N := some 62) (v := ?_) (a' := ?_) #[true, true, false, false, false, false, false, false, false, false, false, false] rfl rfl (any_of HT_.out (by kernel_rfl)) (fun _ _ _ h => h) (Or.inl ⟨by rfl, ?_⟩) ?_ ?_
      rotate_left
      · intro w'
        go_simp
        with_reducible rfl
      rotate_left
      · simp only [Act.put, List.setIfInBounds_toArray, List.set_cons_zero, List.set_cons_succ, i64_w, i32_w]
        rfl
      refine pure_ (i := 2) (N := some 63) (v := ?_) (a' := ?_) #[true, true, true, false, false, false, false, false, false, false, false, false] rfl rfl (any_of HT_.out (by kernel_rfl)) (fun _ _ _ h => h) (Or.inl ⟨by rfl, ?_⟩) ?_ ?_
      rotate_left
      · intro w'
        go_simp
        with_reducible rfl
      rotate_left
      · simp only [Act.put, List.setIfInBounds_toArray, List.set_cons_zero, List.set_cons_succ, i64_w, i32_w]
        rfl
      refine pure_ (i := 3) (N := some 64) (v := ?_) (a' := ?_) #[true, true, true, true, false, false, false, false, false, false, false, false] rfl rfl (any_of HT_.out (by kernel_rfl)) (fun _ _ _ h => h) (Or.inl ⟨by rfl, ?_⟩) ?_ ?_
      rotate_left
      · intro w'
        go_simp
        with_reducible rfl
      rotate_left
      · simp only [Act.put, List.setIfInBounds_toArray, List.set_cons_zero, List.set_cons_succ, i64_w, i32_w]
        rfl
      refine pure_ (i := 4) (N := some 65) (v := ?_) (a' := ?_) #[true, true, true, true, true, false, false, false, false, false, false, false] rfl rfl (any_of HT_.out (by kernel_rfl)) (fun _ _ _ h => h) (Or.inl ⟨by rfl, ?_⟩) ?_ ?_
      rotate_left
      · intro w'
        go_simp
        with_reducible rfl
      rotate_left
      · simp only [Act.put, List.setIfInBounds_toArray, List.set_cons_zero, List.set_cons_succ, i64_w, i32_w]
        rfl
      refine pure_ (i := 6) (N := some 67) (v := ?_) (a' := ?_) #[true, true, true, true, true, false, true, false, false, false, false, false] rfl rfl (any_of HT_.out (by kernel_rfl)) (fun _ _ _ h => h) (Or.inl ⟨by rfl, ?_⟩) ?_ ?_
      rotate_left
      · intro w'
        go_simp
        with_reducible rfl
      rotate_left
      · simp only [Act.put, List.setIfInBounds_toArray, List.set_cons_zero, List.set_cons_succ, i64_w, i32_w]
        rfl
      refine pure_ (i := 7) (N := some 68) (v := ?_) (a' := ?_) #[true, true, true, true, true, false, true, true, false, false, false, false] rfl rfl (any_of HT_.out (by kernel_rfl)) (fun _ _ _ h => h) (Or.inl ⟨by rfl, ?_⟩) ?_ ?_
      rotate_left
      · intro w'
        go_simp
        with_reducible rfl
      rotate_left
      · simp only [Act.put, List.setIfInBounds_toArray, List.set_cons_zero, List.set_cons_succ, i64_w, i32_w]
        rfl
      refine pure_ (i := 8) (N := some 69) (v := ?_) (a' := ?_) #[true, true, true, true, true, false, true, true, true, false, false, false] rfl rfl (any_of HT_.out (by kernel_rfl)) (fun _ _ _ h => h) (Or.inl ⟨by rfl, ?_⟩) ?_ ?_
      rotate_left
      · intro w'
        go_simp
        with_reducible rfl
      rotate_left
      · simp only [Act.put, List.setIfInBounds_toArray, List.set_cons_zero, List.set_cons_succ, i64_w, i32_w]
        rfl
      refine pure_ (i := 9) (N := some 70) (v := ?_) (a' := ?_) #[true, true, true, true, true, false, true, true, true, true, false, false] rfl rfl (any_of HT_.out (by kernel_rfl)) (fun _ _ _ h => h) (Or.inl ⟨by rfl, ?_⟩) ?_ ?_
      rotate_left
      · intro w'
        go_simp
        with_reducible rfl
      rotate_left
      · simp only [Act.put, List.setIfInBounds_toArray, List.set_cons_zero, List.set_cons_succ, i64_w, i32_w]
        rfl
      refine take_ (i := 5) (N := some 66) (v := ?_) (a' := ?_) #[true, true, true, true, true, true, true, true, true, true, false, false] rfl rfl (take_ofW HT_.out HW_.out (by kernel_rfl)) (fun _ _ _ h => h) (Or.inl ⟨by rfl, ?_⟩) hHeld ?_ ?_
      rotate_left
      · rintro w' ⟨s0, s1⟩
        go_simp
        with_reducible rfl
      rotate_left
      · simp only [Act.put, List.setIfInBounds_toArray, List.set_cons_zero, List.set_cons_succ, i64_w, i32_w]
        rfl
      refine take_ (i := 10) (N := some 71) (v := ?_) (a' := ?_) #[true, true, true, true, true, true, true, true, true, true, true, false] rfl rfl (take_ofW HT_.out HW_.out (by kernel_rfl)) (fun _ _ _ h => h) (Or.inl ⟨by rfl, ?_⟩) hHeld ?_ ?_
      rotate_left
      · rintro w' ⟨s0, s1⟩
        go_simp
        with_reducible rfl
      rotate_left
      · simp only [Act.put, List.setIfInBounds_toArray, List.set_cons_zero, List.set_cons_succ, i64_w, i32_w]
        rfl
      refine last_ (i := 11) (N := some 72) #[true, true, true, true, true, true, true, true, true, true, true, true] rfl rfl (one_of HT_.out (by kernel_rfl)) (by decide) (fun K hK => ?_)
      refine goes_ Try.func10 (by kernel_rfl) rfl #[.pointer (some ⟨gb, 0, none⟩), .int .i64 (rd_T29 l0 x).f1, .int .i64 (rd_T29 l0 x).f2] (by rfl) rfl rfl (by simp only [List.map_toArray, List.map_cons, List.map_nil]; rfl) ?_
      with_reducible refine (set_2 (SS2.out.swap.below (below_drew (Below.refl _ _))) HNB.out _ _ HWK.out.1 HWK.out.2).mono ?_
      rintro e w3 ⟨rfl, F3, hn⟩
      refine ⟨_, rfl, ?_⟩
      have SS3 := Aside0.mk hn.swap
      clear hn
      refine hK.out _ _ ?_
      clear hK K
      refine norm_ (a' := ?_) ?_ ?_
      rotate_left
      · show Act.put _ (some 72) _ = _
        simp only [Act.put, List.setIfInBounds_toArray, List.set_cons_zero, List.set_cons_succ, i64_w, i32_w]
        rfl
      refine done_ (done_of HT_.out (by kernel_rfl)) ?_
      go_wp2
      go_roundg k1
      case measure => have := HI.out; omega
      case rel => exact ⟨x + 1, by first | rfl | simp [hw], ⟨by omega⟩, ⟨by have := HI.out; omega⟩, ⟨_, _, by rw [show (x + 1).toNat = x.toNat + 1 by omega]; exact SS3.out⟩⟩
end Go.Proofs.Ytljajnednggebaa.P
