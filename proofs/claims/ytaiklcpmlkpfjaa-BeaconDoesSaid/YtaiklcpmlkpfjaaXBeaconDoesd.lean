/- Walks. -/
import Derived.Lib.SliceRun
import Derived.Laws.CopyOwn
import Derived.Lib.AppendZerosOnto
import Derived.Lib.Overlaps
import Derived.Test.YtaiklcpmlkpfjaaXBeaconDoesa
import Derived.Test.YtaiklcpmlkpfjaaXBeaconDoesb
import Derived.Test.YtaiklcpmlkpfjaaXBeaconDoesc
set_option linter.unusedVariables false
set_option linter.unusedSimpArgs false
set_option maxHeartbeats 8000000
set_option maxRecDepth 100000
namespace Go.Proofs.Ytaiklcpmlkpfjaa.P
open Go.RowKit YtaiklcpmlkpfjaaW.PrintWords YtaiklcpmlkpfjaaW.PrintLast YtaiklcpmlkpfjaaW.PrintMore
def bcmp (a b : Int) : Int := if a < b then -1 else if a > b then 1 else 0
theorem bplace1_eq (x y id : Int) : beacon_place_1.f x y id = some (bcmp x id) := by
 unfold beacon_place_1.f cmp_Compare_int.f cmp_isNaN_int.f bcmp
 simp
 split
 ·rfl
 ·split <;> rfl
def bsF (id : Int) (Y : List S59) : Nat → Int → Int → Int
 | 0, i, _ => i
 | k + 1, i, j => if i < j then (if bcmp (rd_T59 Y ((i + j) / 2)).f0 id < 0 then bsF id Y k ((i + j) / 2 + 1) j else bsF id Y k i ((i + j) / 2)) else i
theorem bs_walk (A : Option Addr) (c : Nat) (id : Int) (Y : List S59) (w : World) (hr : Kd.C k59 w A Y.length Y) (hl : Y.length ≤ 1000000000000) :
  Calls Try.prog 41 #[.slice A Y.length c, .int .i64 id, .func (.func 42) #[] #[]] w fun e w' => e = .returned (.tuple #[.int .i64 (bsF id Y (Y.length + 1) 0 Y.length), .bool (decide (bsF id Y (Y.length + 1) 0 Y.length < Y.length) && (bcmp (rd_T59 Y (bsF id Y (Y.length + 1) 0 Y.length)).f0 id == 0))]) ∧ Below w.heap.size w w' := by
 have HR := Aside0.mk hr
 have HL := Aside0.mk hl
 obtain ⟨R, hR⟩ : ∃ R, R = bsF id Y (Y.length + 1) 0 Y.length := ⟨_, rfl⟩
 rw [← hR]
 have HX := Aside0.mk hR.symm
 clear hr hl hR
 go_enter Try.func41, Try.ntmps41
 go_wp2
 go_loopg [9, 10, 11] (Y.length + 1) (fun kq v9 v10 _ wr => ∃ i j : Int, v9 = .int .i64 i ∧ v10 = .int .i64 j ∧ Aside0 (0 ≤ i ∧ i ≤ j ∧ j ≤ Y.length) ∧ Aside0 (j - i < kq) ∧ Aside0 (bsF id Y kq i j = R) ∧ Aside0 (Below w.heap.size w wr))
 case atStart => exact ⟨0, _, rfl, rfl, ⟨by omega⟩, ⟨by omega⟩, HX, ⟨Below.refl _ _⟩⟩
 case round =>
  clear HX
  obtain ⟨i, j, rfl, rfl, HI, HK, HX, BL⟩ := hrel
  cases gk with
  | zero => exact absurd HK.out (by have := HI.out; omega)
  | succ k1 =>
   by_cases hq : i < j
   ·have b0 : decide (i < j) = true := decide_eq_true hq
    have hx := HX.out
    simp only [bsF, if_pos hq] at hx
    go_upto_region 5 with (fail)
    have hi := HI.out
    have hn := HL.out
    have hm : wrap64 (IntKind.u64.wrap (wrap64 (i + j)) / 2) = (i + j) / 2 := by rw [w64 (x := i + j) (by omega) (by omega), wrap_u64, Int.emod_eq_of_lt (by omega) (by omega), w64 (by omega) (by omega)]
    rw [hm]
    have p0 : 0 ≤ (i + j) / 2 := by omega
    have p1 : (i + j) / 2 < (Y.length : Int) := by omega
    have p2 : i ≤ (i + j) / 2 := by omega
    have p3 : (i + j) / 2 < j := by omega
    clear hm
    generalize (i + j) / 2 = m at p0 p1 p2 p3 hx ⊢
    have hw : wrap64 (m + 1) = m + 1 := w64 (by omega) (by omega)
    have P := Aside0.mk (And.intro p0 (And.intro p1 (And.intro p2 p3)))
    clear p2 p3 HX
    obtain ⟨ad, e_, hx0, hx1⟩ := at_T59 HR.out m p0 p1
    cases e_
    replace hx0 := (BL.out.cell (World.block_lt_of_cell? w _ hx0)).trans hx0
    replace hx1 := (BL.out.cell (World.block_lt_of_cell? w _ hx1)).trans hx1
    replace p0 := eq_true p0
    replace p1 := eq_true p1
    by_cases hc : bcmp (rd_T59 Y m).f0 id < 0
    ·rw [if_pos hc] at hx
     have HX := Aside0.mk hx
     have bc : decide (bcmp (rd_T59 Y m).f0 id < 0) = true := decide_eq_true hc
     clear hx hc hi hq hn
     go_wp2_with (go_at_call 42; (refine (beacon_place_1.calls _ _ id _ _ (bplace1_eq _ _ id)).mono ?_); rintro e2 w2 ⟨rfl, hb⟩; have BL2 := Aside0.mk (below_step BL.out hb); clear hb)
     go_roundg k1
     case measure => omega
     case rel => exact ⟨m + 1, j, by first | rfl | simp [hw], rfl, ⟨by have := P.out; have := HI.out; omega⟩, ⟨by have := P.out; have := HK.out; omega⟩, HX, BL2⟩
    ·rw [if_neg hc] at hx
     have HX := Aside0.mk hx
     have bc : decide (bcmp (rd_T59 Y m).f0 id < 0) = false := decide_eq_false hc
     clear hx hc hi hq hn
     go_wp2_with (go_at_call 42; (refine (beacon_place_1.calls _ _ id _ _ (bplace1_eq _ _ id)).mono ?_); rintro e2 w2 ⟨rfl, hb⟩; have BL2 := Aside0.mk (below_step BL.out hb); clear hb)
     go_roundg k1
     case measure => omega
     case rel => exact ⟨i, m, rfl, rfl, ⟨by have := P.out; have := HI.out; omega⟩, ⟨by have := P.out; have := HK.out; omega⟩, HX, BL2⟩
   ·have b0 : decide (i < j) = false := decide_eq_false hq
    have hi := HI.out
    have hn := HL.out
    have hx := HX.out
    simp only [bsF, if_neg hq] at hx
    subst hx
    clear HX
    by_cases hz : i < (Y.length : Int)
    ·have b1 : decide (i < (Y.length : Int)) = true := decide_eq_true hz
     have p0 := hi.1
     have p1 := hz
     obtain ⟨ad, e_, hx0, hx1⟩ := at_T59 HR.out i p0 p1
     cases e_
     replace hx0 := (BL.out.cell (World.block_lt_of_cell? w _ hx0)).trans hx0
     replace hx1 := (BL.out.cell (World.block_lt_of_cell? w _ hx1)).trans hx1
     replace p0 := eq_true p0
     replace p1 := eq_true p1
     clear hi hq hz hn
     go_wp2_with (go_at_call 42; (refine (beacon_place_1.calls _ _ id _ _ (bplace1_eq _ _ id)).mono ?_); rintro e2 w2 ⟨rfl, hb⟩; have BL2 := Aside0.mk (below_step BL.out hb); clear hb)
     go_ret2
     exact ⟨by first | rfl | simp [b1], BL2.out⟩
    ·have b1 : decide (i < (Y.length : Int)) = false := decide_eq_false hz
     clear hi hq hz hn
     go_wp2
     go_ret2
     exact ⟨by first | rfl | simp [b1], BL.out⟩
def bsAt (Y : List S59) (id : Int) : Int := bsF id Y (Y.length + 1) 0 Y.length
def beacon_place.f (n : Int) (Y : List S59) (id : Int) : Option (Int × Bool) := if Y.length ≤ 1000000000000 then some (bsAt Y id, (decide (bsAt Y id < Y.length) && (bcmp (rd_T59 Y (bsAt Y id)).f0 id == 0))) else none
theorem beacon_place.calls (a0_0 : Int) (A0_1 : Option Addr) (c0_1 : Nat) (l0_1 : List S59) (a1 : Int) (r1 : Int) (r2 : Bool) (w : World) (hr0_1 : Kd.C k59 w A0_1 l0_1.length l0_1) (hc0_1 : l0_1.length ≤ c0_1) (h : beacon_place.f a0_0 l0_1 a1 = some (r1, r2)) :
  Calls Try.prog 30 #[.agg #[.int .i64 a0_0, .slice A0_1 l0_1.length c0_1], .int .i64 a1] w fun e w' => e = .returned (.tuple #[.int .i64 r1, .bool r2]) ∧ Below w.heap.size w w' := by
 have hu25 := Try.underlying25
 obtain ⟨hl, h1, h2⟩ : l0_1.length ≤ 1000000000000 ∧ bsAt l0_1 a1 = r1 ∧ (decide (bsAt l0_1 a1 < l0_1.length) && (bcmp (rd_T59 l0_1 (bsAt l0_1 a1)).f0 a1 == 0)) = r2 := by
  unfold beacon_place.f at h
  split at h
  ·rename_i hc
   simp only [Option.some.injEq, Prod.mk.injEq] at h
   exact ⟨hc, h.1, h.2⟩
  ·exact absurd h (by simp)
 clear h
 rw [h1] at h2
 have H1 := Aside0.mk h1
 have H2 := Aside0.mk h2
 have HL := Aside0.mk hl
 have HR := Aside0.mk hr0_1
 clear hl hr0_1 hc0_1 h1 h2
 go_enter Try.func30, Try.ntmps30
 go_wp2_with (first
  | ((with_reducible refine gate_dst (N := 2) rfl ?_); refine box_event ?hg (N := 2) ?hd (cs := #[.int .i64 a0_0, .slice A0_1 l0_1.length c0_1]) (t := 25) ?hr ?_; (case hd => rfl); (case hg => rfl); (case hr => first | (go_simp; done) | (go_simp; rfl)); intro g2 hg w2 hbox hb; have BL2 := Aside0.mk hb; have B2 := Aside0.mk hbox; clear hb hbox hg; have u1 := (blk_cell B2.out 1).trans rfl)
  | (go_at_call 41; (with_reducible refine (bs_walk A0_1 c0_1 a1 l0_1 _ (Kd.C_below HR.out BL2.out) HL.out).mono ?_); rintro e2 w4 ⟨he2, hb⟩; have he3 := he2.trans (show _ = Ending.returned (.tuple #[.int .i64 r1, .bool r2]) by rw [show bsF a1 l0_1 (l0_1.length + 1) 0 l0_1.length = r1 from H1.out, H2.out]); subst he3; have BL := Aside0.mk (below_step BL2.out hb); clear hb he2))
 go_ret2
 exact ⟨rfl, BL.out⟩
def ixF (id : Int) : List S59 → Int → Int
 | [], _ => -1
 | o :: r, i => if o.f0 = id then i else ixF id r (i + 1)
theorem hd_pred (B : Nat) (id a b : Int) (w : World) (hc : w.cell? ⟨B, 0, none⟩ = some (.int .i64 id)) (hB : B < w.heap.size) :
  Calls Try.prog 34 #[.agg #[.int .i64 a, .int .i64 b], .pointer (some ⟨B, 0, none⟩)] w fun e w' => e = .returned (.bool (a == id)) ∧ Below w.heap.size w w' := by
 have HC := Aside0.mk hc
 have HB := Aside0.mk hB
 clear hc hB
 go_enter Try.func34, Try.ntmps34
 go_wp2_with (((with_reducible refine gate_dst (N := 2) rfl ?_); refine box_event ?hg (N := 2) ?hd (cs := #[.int .i64 a, .int .i64 b]) (t := 59) ?hr ?_; (case hd => rfl); (case hg => rfl); (case hr => first | (go_simp; done) | (go_simp; rfl)); intro gb hg w2 hbox hb; have HB2 := Aside0.mk hb; have x0 := (blk_cell hbox 0).trans rfl; have x1 := (hb.cell (p := ⟨B, 0, none⟩) HB.out).trans HC.out; clear hbox hb hg))
 go_ret
 exact ⟨rfl, HB2.out⟩
theorem hd_index (A : Option Addr) (c B : Nat) (id : Int) (Y : List S59) (w : World) (hr : Kd.C k59 w A Y.length Y) (hl : Y.length ≤ 1000000000000) (hc : w.cell? ⟨B, 0, none⟩ = some (.int .i64 id)) (hB : B < w.heap.size) :
  Calls Try.prog 33 #[.slice A Y.length c, .func (.func 34) #[] #[.pointer (some ⟨B, 0, none⟩)]] w fun e w' => e = .returned (.int .i64 (ixF id Y 0)) ∧ Below w.heap.size w w' := by
 have HR := Aside0.mk hr
 have HL := Aside0.mk hl
 have HC := Aside0.mk hc
 have HB := Aside0.mk hB
 obtain ⟨R, hR⟩ : ∃ R, R = ixF id Y 0 := ⟨_, rfl⟩
 rw [← hR]
 have HX := Aside0.mk hR.symm
 clear hr hl hc hB hR
 go_enter Try.func33, Try.ntmps33
 go_wp2
 go_loopg [5, 8] Y.length (fun kq v5 v8 wr => ∃ x : Int, v8 = .int .i64 x ∧ Aside0 (0 ≤ x) ∧ Aside0 (x + kq = Y.length) ∧ Aside0 (ixF id (Y.drop x.toNat) x = R) ∧ Aside0 (Below w.heap.size w wr))
 case atStart => exact ⟨0, rfl, ⟨by omega⟩, ⟨by omega⟩, HX, ⟨Below.refl _ _⟩⟩
 case round =>
  clear HX
  obtain ⟨x, rfl, H0, HI, HX, BL⟩ := hrel
  cases gk with
  | zero =>
   have hn : decide (x < (Y.length : Int)) = false := decide_eq_false (by have := HI.out; omega)
   have hx := HX.out
   rw [List.drop_eq_nil_of_le (by have := HI.out; omega)] at hx
   simp only [ixF] at hx
   subst hx
   go_wp2
   go_ret
   exact ⟨rfl, BL.out⟩
  | succ k1 =>
   have hlt := (show x < (Y.length : Int) by have := HI.out; omega)
   have h0 := H0.out
   obtain ⟨ad, e_, hx0, hx1⟩ := at_T59 HR.out x h0 hlt
   cases e_
   replace hx0 := (BL.out.cell (World.block_lt_of_cell? w _ hx0)).trans hx0
   replace hx1 := (BL.out.cell (World.block_lt_of_cell? w _ hx1)).trans hx1
   have hd : decide (x < (Y.length : Int)) = true := decide_eq_true hlt
   have hb0 : x < 9223372036854775807 := by have := HL.out; omega
   have hw : wrap64 (x + 1) = x + 1 := w64 (by omega) (by omega)
   have hx := HX.out
   have hg : Y.drop x.toNat = rd_T59 Y x :: Y.drop (x + 1).toNat := by
    have hi : x.toNat < Y.length := by omega
    rw [List.drop_eq_getElem_cons hi, show (x + 1).toNat = x.toNat + 1 by omega]
    congr 1
    unfold rd_T59
    rw [List.getD_eq_getElem?_getD, List.getElem?_eq_getElem hi]
    rfl
   rw [hg] at hx
   simp only [ixF] at hx
   clear hg HX
   have h0t := eq_true h0
   have hltt := eq_true hlt
   by_cases hq : (rd_T59 Y x).f0 = id
   ·rw [if_pos hq] at hx
    subst hx
    have bq : ((rd_T59 Y x).f0 == id) = true := beq_iff_eq.mpr hq
    clear hq
    go_wp2_with (go_at_call 34; (refine (hd_pred B id _ _ _ ((BL.out.cell (p := ⟨B, 0, none⟩) HB.out).trans HC.out) (Nat.lt_of_lt_of_le HB.out BL.out.size)).mono ?_); rintro e2 w2 ⟨rfl, hb⟩; have BL2 := Aside0.mk (below_step BL.out hb); clear hb)
    go_ret
    exact ⟨rfl, BL2.out⟩
   ·rw [if_neg hq] at hx
    have HX := Aside0.mk hx
    clear hx
    have bq : ((rd_T59 Y x).f0 == id) = false := beq_eq_false_iff_ne.mpr hq
    clear hq
    go_wp2_with (go_at_call 34; (refine (hd_pred B id _ _ _ ((BL.out.cell (p := ⟨B, 0, none⟩) HB.out).trans HC.out) (Nat.lt_of_lt_of_le HB.out BL.out.size)).mono ?_); rintro e2 w2 ⟨rfl, hb⟩; have BL2 := Aside0.mk (below_step BL.out hb); clear hb)
    go_roundg k1
    case measure => have := HI.out; omega
    case rel => exact ⟨x + 1, by first | rfl | simp [hw], ⟨by omega⟩, ⟨by have := HI.out; omega⟩, HX, BL2⟩
theorem ixF_range (id : Int) : ∀ (L : List S59) (i : Int), ixF id L i = -1 ∨ (i ≤ ixF id L i ∧ ixF id L i < i + L.length) := by
 intro L
 induction L with
 | nil => intro i; exact .inl rfl
 | cons o L ih =>
  intro i
  simp only [ixF, List.length_cons]
  split
  ·exact .inr ⟨by omega, by omega⟩
  ·rcases ih (i + 1) with h | h
   ·exact .inl h
   ·exact .inr ⟨by omega, by omega⟩
def beacon_Heard.f (n : Int) (Y : List S59) (id : Int) : Option (Int × Bool) := if Y.length ≤ 1000000000000 then some (if ixF id Y 0 < 0 then (0, false) else ((rd_T59 Y (ixF id Y 0)).f1, true)) else none
theorem beacon_Heard.calls (a0_0 : Int) (A0_1 : Option Addr) (c0_1 : Nat) (l0_1 : List S59) (a1 : Int) (r1 : Int) (r2 : Bool) (w : World) (hr0_1 : Kd.C k59 w A0_1 l0_1.length l0_1) (hc0_1 : l0_1.length ≤ c0_1) (h : beacon_Heard.f a0_0 l0_1 a1 = some (r1, r2)) :
  Calls Try.prog 17 #[.agg #[.int .i64 a0_0, .slice A0_1 l0_1.length c0_1], .int .i64 a1] w fun e w' => e = .returned (.tuple #[.int .i64 r1, .bool r2]) ∧ Below w.heap.size w w' := by
 have hu25 := Try.underlying25
 obtain ⟨hl, hs⟩ : l0_1.length ≤ 1000000000000 ∧ (if ixF a1 l0_1 0 < 0 then (0, false) else ((rd_T59 l0_1 (ixF a1 l0_1 0)).f1, true)) = (r1, r2) := by
  unfold beacon_Heard.f at h
  split at h
  ·rename_i hc
   exact ⟨hc, Option.some.inj h⟩
  ·exact absurd h (by simp)
 clear h
 have hrg := ixF_range a1 l0_1 0
 obtain ⟨j, hj⟩ : ∃ j, j = ixF a1 l0_1 0 := ⟨_, rfl⟩
 rw [← hj] at hs hrg
 have HJ := Aside0.mk hj
 have HL := Aside0.mk hl
 have HR := Aside0.mk hr0_1
 have HC := Aside0.mk hc0_1
 clear hl hr0_1 hc0_1 hj
 by_cases hq : j < 0
 ·rw [if_pos hq] at hs
  simp only [Prod.mk.injEq] at hs
  obtain ⟨rfl, rfl⟩ := hs
  have bq : decide (j < 0) = true := decide_eq_true hq
  clear hq hrg
  go_enter Try.func17, Try.ntmps17
  go_wp2_with (first
   | ((with_reducible refine gate_dst (N := 2) rfl ?_); refine box_event ?hg (N := 2) ?hd (cs := #[.int .i64 a0_0, .slice A0_1 l0_1.length c0_1]) (t := 25) ?hr ?_; (case hd => rfl); (case hg => rfl); (case hr => first | (go_simp; done) | (go_simp; rfl)); intro g2 hg w2 hbox hb; have BL2 := Aside0.mk hb; have B2 := Aside0.mk hbox; clear hb hbox hg)
   | ((with_reducible refine gate_dst (N := 3) rfl ?_); refine box_event ?hg (N := 3) ?hd (cs := #[.int .i64 a1]) (t := 3) ?hr ?_; (case hd => rfl); (case hg => rfl); (case hr => first | (go_simp; done) | (go_simp; rfl)); intro g3 hg w3 hbox hb; have BL3 := Aside0.mk (below_step BL2.out hb); have B23 := Aside0.mk (blk_below B2.out hb); have B3 := Aside0.mk hbox; clear hb hbox hg; have u1 := (blk_cell B23.out 1).trans rfl)
   | (go_at_call 33; (with_reducible refine (hd_index A0_1 c0_1 g3 a1 l0_1 _ (Kd.C_below HR.out BL3.out) HL.out ((blk_cell B3.out 0).trans rfl) (blk_lt B3.out)).mono ?_); rintro e2 w4 ⟨he2, hb⟩; rw [← HJ.out] at he2; subst he2; have BL := Aside0.mk (below_step BL3.out hb); have B24 := Aside0.mk (blk_below B23.out hb); clear hb; have v1 := (blk_cell B24.out 1).trans rfl))
  go_ret2
  exact ⟨rfl, BL.out⟩
 ·rw [if_neg hq] at hs
  simp only [Prod.mk.injEq] at hs
  obtain ⟨rfl, rfl⟩ := hs
  have bq : decide (j < 0) = false := decide_eq_false hq
  have p0 : 0 ≤ j := by omega
  have p1 : j < (l0_1.length : Int) := by omega
  clear hq hrg
  obtain ⟨ad, e_, hx0, hx1⟩ := at_T59 HR.out j p0 p1
  cases e_
  have X1 := Aside0.mk hx1
  clear hx0 hx1
  replace p0 := eq_true p0
  replace p1 := eq_true p1
  go_enter Try.func17, Try.ntmps17
  go_wp2_with (first
   | ((with_reducible refine gate_dst (N := 2) rfl ?_); refine box_event ?hg (N := 2) ?hd (cs := #[.int .i64 a0_0, .slice (some ad) l0_1.length c0_1]) (t := 25) ?hr ?_; (case hd => rfl); (case hg => rfl); (case hr => first | (go_simp; done) | (go_simp; rfl)); intro g2 hg w2 hbox hb; have BL2 := Aside0.mk hb; have B2 := Aside0.mk hbox; clear hb hbox hg)
   | ((with_reducible refine gate_dst (N := 3) rfl ?_); refine box_event ?hg (N := 3) ?hd (cs := #[.int .i64 a1]) (t := 3) ?hr ?_; (case hd => rfl); (case hg => rfl); (case hr => first | (go_simp; done) | (go_simp; rfl)); intro g3 hg w3 hbox hb; have BL3 := Aside0.mk (below_step BL2.out hb); have B23 := Aside0.mk (blk_below B2.out hb); have B3 := Aside0.mk hbox; clear hb hbox hg; have u1 := (blk_cell B23.out 1).trans rfl)
   | (go_at_call 33; (with_reducible refine (hd_index (some ad) c0_1 g3 a1 l0_1 _ (Kd.C_below HR.out BL3.out) HL.out ((blk_cell B3.out 0).trans rfl) (blk_lt B3.out)).mono ?_); rintro e2 w4 ⟨he2, hb⟩; rw [← HJ.out] at he2; subst he2; have BL := Aside0.mk (below_step BL3.out hb); have B24 := Aside0.mk (blk_below B23.out hb); clear hb; have v1 := (blk_cell B24.out 1).trans rfl; have hx1 := (BL.out.cell (World.block_lt_of_cell? w _ X1.out)).trans X1.out))
  go_ret2
  exact ⟨rfl, BL.out⟩
theorem cl_nil (c : Nat) (Y : List S59) (w : World) (hr : Kd.C k59 w none Y.length Y) :
  Calls Try.prog 29 #[.slice none Y.length c] w fun e w' => ∃ v, e = .returned v ∧ Kd.R k59 59 w' w.heap.size (fun _ => True) v Y ∧ Below w.heap.size w w' := by
 have hY : Y = [] := by
  cases Y with
  | nil => rfl
  | cons o Y =>
   obtain ⟨ad, e, _⟩ := hr.2.2 (by simp)
   cases e
 subst hY
 clear hr
 have q22 := fun (w : World) (a : Option Addr) (n c n' c' : Nat) => Lib.run_eql_slice_nil (P := Try.prog) w 23 _ a n c n' c' Try.underlying23
 go_enter Try.func29, Try.ntmps29
 go_wp2
 go_ret
 exact ⟨_, rfl, Kd.R_nil _ _ _ _ _, Below.refl _ _⟩
theorem cl_some (ad : Addr) (c : Nat) (Y : List S59) (w : World) (hr : Kd.C k59 w (some ad) Y.length Y) (hl : Y.length ≤ 1000000000000) :
  Calls Try.prog 29 #[.slice (some ad) Y.length c] w fun e w' => ∃ v, e = .returned v ∧ Kd.R k59 59 w' w.heap.size (fun _ => True) v Y ∧ Below w.heap.size w w' := by
 have HR := Aside0.mk hr
 have HL := Aside0.mk hl
 clear hr hl
 have q22 := fun (w : World) (a : Option Addr) (n c n' c' : Nat) => Lib.run_eql_slice_nil (P := Try.prog) w 23 _ a n c n' c' Try.underlying23
 go_enter Try.func29, Try.ntmps29
 have HB5 := Aside0.mk (below_alloc (Below.refl w.heap.size w) (.cells #[] 59))
 have HO5 := Aside0.mk (show Kd.R k59 59 (w.alloc (.cells #[] 59)) w.heap.size (fun _ => True) (.slice (some ⟨w.heap.size, 0, none⟩) 0 0) [] from ⟨fun _ _ => trivial, [], World.ownsRow_made w #[] 0 (Nat.le_refl _) (Nat.zero_le _) (by simp), Reps.none _ _⟩)
 go_wp2_with (((with_reducible refine gate_builtin (b := .append) (xs := #[.tmp 5, .tmp 6]) rfl ?_); at_builtin; refine Kd.R_append_rows k59 (w0 := w) w.heap.size rfl (.tmp 5) (.tmp 6) 23 59 (.agg #[(.int .i64 0), (.int .i64 0)]) 16 rfl Try.underlying23 info59 rfl (by decide) (by omega) (.slice (some ⟨w.heap.size, 0, none⟩) 0 0) ([] : List S59) Y _ _ _ (fun _ => True) (fun _ => False) rfl rfl ?aO ?aR (fun _ _ h => h) (fun _ h => h.elim) ?aF ?aB ?aS ?aL ?_; (case aR => exact Kd.C_below HR.out HB5.out); (case aB => exact HB5.out); (case aF => exact (fun _ _ => trivial)); (case aO => exact HO5.out); (case aS => exact below_size HB5.out); (case aL => have := HL.out; simp only [List.length_nil]; omega); intro v2 w2 ho hb hg hat; have HO := Aside0.mk ho; have HB := Aside0.mk hb; clear ho hb hg hat))
 go_ret
 rw [List.nil_append] at HO
 exact ⟨_, rfl, HO.out, HB.out⟩
def slices_CloneE.f (Y : List S59) : Option (List S59) := if Y.length ≤ 1000000000000 then some Y else none
theorem slices_CloneE.calls (A0 : Option Addr) (c0 : Nat) (l0 : List S59) (r : List S59) (w : World) (hr0 : Kd.C k59 w A0 l0.length l0) (h : slices_CloneE.f l0 = some r) :
  Calls Try.prog 29 #[.slice A0 l0.length c0] w fun e w' => ∃ v0_ : Value, e = .returned v0_ ∧ Kd.R k59 59 w' w.heap.size (fun _ => True) v0_ r ∧ Below w.heap.size w w' := by
 unfold slices_CloneE.f at h
 split at h
 ·rename_i hc
  cases h
  cases A0 with
  | none => exact cl_nil c0 l0 w hr0
  | some ad => exact cl_some ad c0 l0 w hr0 hc
 ·exact absurd h (by simp)
def fl (x : S59) : List Value := [.int .i64 x.f0, .int .i64 x.f1]
def flat (xs : List S59) : List Value := xs.flatMap fl
theorem flat_length (xs : List S59) : (flat xs).length = xs.length * 2 := by
 induction xs with
 | nil => rfl
 | cons x r ih => simp only [flat, List.flatMap_cons, List.length_append, List.length_cons] at ih ⊢; rw [ih]; simp [fl]; omega
theorem flat_append (xs ys : List S59) : flat (xs ++ ys) = flat xs ++ flat ys := by simp [flat]
theorem flat_take (xs : List S59) (k : Nat) : (flat xs).take (k * 2) = flat (xs.take k) := by
 induction xs generalizing k with
 | nil => simp [flat]
 | cons x r ih =>
  cases k with
  | zero => simp [flat]
  | succ k =>
   have h := ih k
   simp only [flat, List.flatMap_cons, List.take_succ_cons] at h ⊢
   rw [show (k + 1) * 2 = k * 2 + 1 + 1 by omega]
   simp only [fl, List.cons_append, List.nil_append, List.take_succ_cons] at h ⊢
   rw [h]
theorem flat_drop (xs : List S59) (k : Nat) : (flat xs).drop (k * 2) = flat (xs.drop k) := by
 induction xs generalizing k with
 | nil => simp [flat]
 | cons x r ih =>
  cases k with
  | zero => simp [flat]
  | succ k =>
   have h := ih k
   simp only [flat, List.flatMap_cons, List.drop_succ_cons] at h ⊢
   rw [show (k + 1) * 2 = k * 2 + 1 + 1 by omega]
   simp only [fl, List.cons_append, List.nil_append, List.drop_succ_cons] at h ⊢
   rw [h]
theorem flat_one (xs : List S59) : ∀ v ∈ flat xs, v.oneCell' = true := by
 intro v hv
 simp only [flat, List.mem_flatMap, fl, List.mem_cons, List.not_mem_nil, or_false] at hv
 obtain ⟨x, _, rfl | rfl⟩ := hv <;> rfl
theorem reps_flat {R : S59 → List Value → Prop} (hR : ∀ p c, R p c → c = fl p) : ∀ (ps : List S59) (cs : List Value), Reps R 2 ps cs → cs = flat ps := by
 intro ps
 induction ps with
 | nil => intro cs h; exact List.eq_nil_of_length_eq_zero (by rw [h.1]; simp)
 | cons p ps ih =>
  intro cs h
  have h0 := hR _ _ (h.2 0 p rfl)
  rw [Nat.zero_mul, List.drop_zero] at h0
  have h1 := ih (cs.drop 2) ⟨by rw [List.length_drop, h.1, List.length_cons]; omega, fun j q hq => by
   have := h.2 (j + 1) q (by simpa using hq)
   rw [List.drop_drop, show 2 + j * 2 = (j + 1) * 2 by omega]
   exact this⟩
  rw [← List.take_append_drop 2 cs, h0, h1]
  simp [flat]
theorem flat_reps {R : S59 → List Value → Prop} (hR : ∀ p, R p (fl p)) (ps : List S59) : Reps R 2 ps (flat ps) := by
 refine ⟨flat_length ps, fun j p hp => ?_⟩
 have hj : j < ps.length := (List.getElem?_eq_some_iff.1 hp).1
 rw [flat_drop, List.drop_eq_getElem_cons hj]
 have : ps[j] = p := (List.getElem?_eq_some_iff.1 hp).2
 rw [this]
 have e : (flat (p :: ps.drop (j + 1))).take 2 = fl p := by simp [flat, fl]
 rw [e]
 exact hR p
theorem own_flat {w : World} {base : Nat} {ok : Nat → Prop} {v : Value} {xs : List S59} (h : k59.R 59 w base ok v xs) : w.ownsRow base 59 2 v xs.length (flat xs) := by
 obtain ⟨_, inner, ho, hr⟩ := h
 have := reps_flat (fun p c hp => k59_openM hp) xs inner hr
 subst this
 exact ho
theorem flat_own {w : World} {base : Nat} {v : Value} {xs : List S59} (h : w.ownsRow base 59 2 v xs.length (flat xs)) : k59.R 59 w base (fun _ => True) v xs :=
 ⟨fun _ _ => trivial, flat xs, h, flat_reps (fun p => k59_mkM _ _ _ p) xs⟩
theorem read_flat {w : World} {ad : Addr} {n : Nat} {xs : List S59} (h : k59.C w (some ad) n xs) : ∀ j v, (flat xs)[j]? = some v → w.cell? (ad.add j) = some v := by
 obtain ⟨inner, hr, hc⟩ := ReadsRow.inner_ h
 have := reps_flat (fun p c hp => k59_open hp) xs inner hr
 subst this
 exact hc
theorem run_copy_rowS {P : Program} (w : World) (dT sT ty elem : TypeId) (sz : Nat) (g o dLen dCap : Nat) (a : Addr) (sLen sCap : Nat) (cur : Array Value) (t : TypeId) (cs : List Value)
  (hu : P.underlying dT = some (.slice elem)) (hs : (P.info? elem).map (·.size) = some sz)
  (hg : w.heap[g]? = some (.cells cur t (0, 0))) (hn : cs.length = Nat.min sLen dLen * sz)
  (hsrc : ∀ j v, cs[j]? = some v → w.cell? (a.add j) = some v) (hfit : o + cs.length ≤ cur.size) (h1 : ∀ v ∈ cs, v.oneCell' = true) :
  (Builtin.copy_ #[dT, sT] ty #[.slice (some ⟨g, o, none⟩) dLen dCap, .slice (some a) sLen sCap]).run P w =
   .ok (goInt (Nat.min sLen dLen)) (w.setRow g (cur.toList.take o ++ cs ++ cur.toList.drop (o + cs.length)).toArray) := by
 have hl := run_firstCells_some (P := P) w sz (Nat.min sLen dLen) a sLen sCap cs hn hsrc
 have hst := run_storeCells_at P g o t cs 0 cur w hg (by simpa using hfit) h1
 cases hq : P.info? elem with
 | none => simp [hq] at hs
 | some i =>
  have hi : i.size = sz := by simpa [hq] using hs
  simp [Builtin.copy_, run_underlying hu, Builtin.lenOf, sizeOf, typeInfo, hq, hi, hl, hst]
theorem grown_setRow {W : World} (g : Nat) (cs : Array Value) : W.grownBy (W.setRow g cs) (some g) :=
 ⟨rfl, rfl, rfl, by simp [World.setRow], fun k _ hk => setRow_other W g k cs (fun e => hk (by rw [e]))⟩
theorem wpList_copyS {P : Program} {w : World} {ops : Array Oper} {rest : List Oper} {o : Oper} {a : Act} {Q : Exit → Act → World → Prop} (hgd : o.guard = none) (d s : Operand) (dT sT : TypeId)
  (ho : o.op = .call { callee := .builtin .copy, args := #[d, s], argTypes := #[dT, sT] }) (elem : TypeId) (sz : Nat) (hu : P.underlying dT = some (.slice elem)) (hsz : (P.info? elem).map (·.size) = some sz)
  (g off dLen dCap : Nat) (ad : Addr) (sLen sCap : Nat) (hd : a.eval d = .slice (some ⟨g, off, none⟩) dLen dCap) (hs : a.eval s = .slice (some ad) sLen sCap)
  (cur : List Value) (t : TypeId) (hg : w.heap[g]? = some (.cells cur.toArray t (0, 0))) (cs : List Value) (hn : cs.length = Nat.min sLen dLen * sz)
  (hsrc : ∀ j v, cs[j]? = some v → w.cell? (ad.add j) = some v) (hfit : off + cs.length ≤ cur.length) (h1 : ∀ v ∈ cs, v.oneCell' = true)
  (h : ∀ w' n, Aside0 (w'.heap[g]? = some (.cells (splice cur off cs).toArray t (0, 0))) → Aside0 (w.grownBy w' (some g)) → wpList P ops Q rest (a.put o.dst (goInt n)) w') : wpList P ops Q (o :: rest) a w := by
 refine wpList_plain hgd fun K hK => ?_
 have hrun := run_copy_rowS (P := P) w dT sT o.type elem sz g off dLen dCap ad sLen sCap cur.toArray t cs hu hsz hg hn hsrc (by simpa using hfit) h1
 unfold Oper.wp
 simp [execOp, ho, resolve, invoke, builtin, hd, hs, hrun, Result.andThen]
 exact hK _ _ (h _ _ ⟨by simpa [splice] using setRow_heap w g _ _ t _ hg⟩ ⟨grown_setRow _ _⟩)
theorem step_copyS {P : Program} {ops : Array Oper} {o : Oper} {a : Act} {w : World} {K : Act → World → Prop} {Q : Exit → Act → World → Prop} {E : Prop} (hgd : o.guard = none) (d s : Operand) (dT sT : TypeId)
  (ho : o.op = .call { callee := .builtin .copy, args := #[d, s], argTypes := #[dT, sT] }) (elem : TypeId) (sz : Nat) (hu : P.underlying dT = some (.slice elem)) (hsz : (P.info? elem).map (·.size) = some sz)
  (g off dLen dCap : Nat) (ad : Addr) (sLen sCap : Nat) (hd : a.eval d = .slice (some ⟨g, off, none⟩) dLen dCap) (hs : a.eval s = .slice (some ad) sLen sCap)
  (cur : List Value) (t : TypeId) (hg : w.heap[g]? = some (.cells cur.toArray t (0, 0))) (cs : List Value) (hn : cs.length = Nat.min sLen dLen * sz)
  (hsrc : ∀ j v, cs[j]? = some v → w.cell? (ad.add j) = some v) (hfit : off + cs.length ≤ cur.length) (h1 : ∀ v ∈ cs, v.oneCell' = true)
  (h : ∀ w' n, Aside0 (w'.heap[g]? = some (.cells (splice cur off cs).toArray t (0, 0))) → Aside0 (w.grownBy w' (some g)) → K (a.put o.dst (goInt n)) w') :
  if Region.wanted o (yielded ops a.tmps) = true then Oper.wp P o a w K Q else E := by
 have hw : Region.wanted o (yielded ops a.tmps) = true := by simp [Region.wanted, hgd]
 rw [if_pos hw]
 have hrun := run_copy_rowS (P := P) w dT sT o.type elem sz g off dLen dCap ad sLen sCap cur.toArray t cs hu hsz hg hn hsrc (by simpa using hfit) h1
 unfold Oper.wp
 simp [execOp, ho, resolve, invoke, builtin, hd, hs, hrun, Result.andThen]
 exact h _ _ ⟨by simpa [splice] using setRow_heap w g _ _ t _ hg⟩ ⟨grown_setRow _ _⟩
theorem wpList_zerosS {P : Program} {w : World} {ops : Array Oper} {rest : List Oper} {o : Oper} {a : Act} {Q : Exit → Act → World → Prop} (hgd : o.guard = none) (s x : Operand) (t tn e : TypeId)
  (ho : o.op = .call { callee := .builtin .append, args := #[s, x], argTypes := #[t, tn] }) (z : Value) (sz bytes : Nat) (ht : P.underlying t = some (.slice e)) (htn : P.underlying tn = some (.int .i64))
  (hinfo : (P.info? e).map (fun i => (i.zero, i.size, i.bytes)) = some (some z, sz, bytes)) (hz : z.cells.size = sz) (hs0 : 0 < sz)
  (ad : Addr) (sLen sCap : Nat) (m : Int) (k N : Nat) (hN : sLen + k = N) (hs : a.eval s = .slice (some ad) sLen sCap) (hx : a.eval x = .int .i64 m) (hm : m = k) (olds : List Value) (hl : olds.length = sLen * sz)
  (hsrc : ∀ j v, olds[j]? = some v → w.cell? (ad.add j) = some v) (h0 : 0 < k) (hroom : sCap < sLen + k) (hbig : (sLen + k) * bytes ≤ 140737488355328) (hb0 : 0 < bytes)
  (h : ∀ w' c zs, Aside0 (w'.heap[w.heap.size]? = some (.cells (olds ++ zs).toArray e (0, 0))) → Aside0 (N ≤ c ∧ c ≤ 9223372036854775807 ∧ zs.length = (c - sLen) * sz) → Aside0 (w.grownBy w' none) →
   wpList P ops Q rest (a.put o.dst (.slice (some ⟨w.heap.size, 0, none⟩) N c)) w') : wpList P ops Q (o :: rest) a w := by
 obtain ⟨i0, hi, hzz⟩ := Option.map_eq_some_iff.1 hinfo
 simp only [Prod.mk.injEq] at hzz
 obtain ⟨hz0, hz1, hz2⟩ := hzz
 subst hN
 subst hz1
 subst hz2
 subst hm
 have hlen : sLen + k ≤ 140737488355328 := Nat.le_trans (Nat.le_mul_of_pos_right _ hb0) hbig
 have hold : (Builtin.firstCells i0.size sLen (.slice (some ad) sLen sCap)).run P w.drew = .ok olds.toArray w.drew := run_firstCells_some w.drew i0.size sLen ad sLen sCap olds hl (fun j v hj => hsrc j v hj)
 have hk48 : k * i0.bytes ≤ 281474976710656 := Nat.le_trans (Nat.mul_le_mul_right _ (by omega : k ≤ sLen + k)) (by omega)
 have hrun := Lib.run_append_grow_zeros (P := P) w t tn o.type e i0 z .i64 .i64 ht htn hi hz0 (some ad) sLen sCap olds hold k h0 hs0 hroom (by omega) hk48 (growslice_fits hroom hbig)
 have hge := grownCap_ge w (sLen + k) sCap e
 have hle := grownCap_le_maxLen w (sLen + k) sCap e (by unfold maxLen; omega)
 unfold maxLen at hle
 refine wpList_plain hgd fun K hK => ?_
 unfold Oper.wp execOp
 simp only [ho, resolve, invoke, builtin, Sem.run_bind, Sem.run_pure, Result.andThen_ok, List.map_toArray, List.map_cons, List.map_nil, hs, hx, hrun]
 refine hK _ _ (h _ _ (Builtin.zeroCells z.cells k ++ Builtin.zeroCells z.cells (grownCap w (sLen + k) sCap e - (sLen + k))).toList ⟨?_⟩ ⟨hge, hle, ?_⟩ ⟨⟨rfl, rfl, rfl, by simp, fun q hq _ => heap_alloc_old w.drew _ hq⟩⟩)
 ·have hn := heap_alloc_new w.drew (.cells (olds.toArray ++ Builtin.zeroCells z.cells k ++ Builtin.zeroCells z.cells (grownCap w (sLen + k) sCap e - (sLen + k))) e)
  rw [show w.drew.heap.size = w.heap.size from rfl] at hn
  rw [hn]
  congr 2
  apply Array.ext'
  simp [List.append_assoc]
 ·simp only [Array.toList_append, List.length_append, Array.length_toList, size_zeroCells, hz]
  rw [← Nat.add_mul]
  congr 1
  omega
theorem one_C {w : World} {h : Nat} {x : S59} (hv : w.heap[h]? = some (.cells (fl x).toArray 59 (0, 0))) : k59.C w (some ⟨h, 0, none⟩) 1 [x] := by
 refine ⟨rfl, by omega, fun _ => ⟨_, rfl, fun j p hp => ⟨fl p, rfl, k59_mk _ _, fun i u hu => ?_⟩⟩⟩
 have hj : j = 0 := by have := (List.getElem?_eq_some_iff.1 hp).1; simpa using this
 subst hj
 obtain rfl : x = p := by simpa using hp
 rw [Nat.zero_mul, Nat.zero_add, show (⟨h, 0, none⟩ : Addr).add i = ⟨h, i, none⟩ from add_plain h i]
 have hi : i < 2 := by have := (List.getElem?_eq_some_iff.1 hu).1; simpa [fl] using this
 simpa [World.cell?, hv] using hu
theorem ins_end (A : Option Addr) (c : Nat) (X : List S59) (x : S59) (h : Nat) (w : World) (base : Nat) (hR : k59.R 59 w base (fun _ => True) (.slice A X.length c) X) (hb : base ≤ w.heap.size) (hv : w.heap[h]? = some (.cells (fl x).toArray 59 (0, 0))) (hl : X.length ≤ 1000000000000) :
  Calls Try.prog 31 #[.slice A X.length c, .int .i64 (X.length : Nat), .slice (some ⟨h, 0, none⟩) 1 1] w fun e w' => ∃ v', e = .returned v' ∧ k59.R 59 w' base (fun _ => True) v' (X ++ [x]) ∧ w.grownBy w' (Value.slice A X.length c).ownBlock ∧ (v'.ownBlock = (Value.slice A X.length c).ownBlock ∨ ∃ b, v'.ownBlock = some b ∧ w.heap.size ≤ b) := by
 have HC := Aside0.mk (one_C hv)
 have hnc := (Kd.R_reads' hR).2.1
 have HR := Aside0.mk hR
 have HL := Aside0.mk hl
 have HB := Aside0.mk hb
 clear hR hb hv
 go_enter Try.func31, Try.ntmps31
 go_wp2_with (((with_reducible refine gate_builtin (b := .append) (xs := #[.tmp 23, .tmp 24]) rfl ?_); at_builtin; refine Kd.R_append_rows k59 (w0 := w) base rfl (.tmp 23) (.tmp 24) 23 59 (.agg #[(.int .i64 0), (.int .i64 0)]) 16 rfl Try.underlying23 info59 rfl (by decide) (by omega) (.slice A X.length c) X [x] _ _ _ (fun _ => True) (fun _ => False) rfl rfl ?aO ?aR (fun _ _ h => h) (fun _ h => h.elim) ?aF ?aB ?aS ?aL ?_; (case aR => exact HC.out); (case aB => exact Below.refl _ _); (case aF => exact (fun _ _ => trivial)); (case aO => exact HR.out); (case aS => exact HB.out); (case aL => have := HL.out; omega); intro v2 w2 ho hb hg hat; have HO := Aside0.mk ho; have HG := Aside0.mk hg; have HA := Aside0.mk hat; clear ho hb hg hat))
 all_goals
  go_ret
  exact ⟨_, rfl, HO.out, by cases A <;> exact HG.out, by cases A <;> exact HA.out⟩
theorem own_parts {w : World} {base : Nat} {g n c : Nat} {X : List S59} (hR : k59.R 59 w base (fun _ => True) (.slice (some ⟨g, 0, none⟩) n c) X) : ∃ cur : List Value, base ≤ g ∧ w.heap[g]? = some (.cells cur.toArray 59 (0, 0)) ∧ n = X.length ∧ n ≤ c ∧ c ≤ 9223372036854775807 ∧ cur.length = c * 2 ∧ cur.take (X.length * 2) = flat X := by
 have hn := (Kd.R_reads' hR).1
 obtain ⟨h1, h2⟩ := own_flat hR
 rcases h2 with ⟨h3, _⟩ | ⟨g2, cap, cur, h3, hb, hh, hnc, hcm, hcs, ht⟩
 ·cases h3
 ·injection h3 with a1 a2 a3
  injection a1 with a1
  injection a1 with a1
  subst a1; subst a3
  exact ⟨cur.toList, hb, hh, hn, by omega, hcm, by rw [Array.length_toList]; exact hcs, ht⟩
theorem parts_own {w : World} {base : Nat} {g n c : Nat} {X : List S59} {cur : List Value} (hb : base ≤ g) (hh : w.heap[g]? = some (.cells cur.toArray 59 (0, 0))) (hn : n = X.length) (hnc : n ≤ c) (hcm : c ≤ 9223372036854775807) (hcs : cur.length = c * 2) (ht : cur.take (X.length * 2) = flat X) : k59.R 59 w base (fun _ => True) (.slice (some ⟨g, 0, none⟩) n c) X := by
 subst hn
 exact flat_own ⟨flat_length X, .inr ⟨g, c, cur.toArray, rfl, hb, hh, hnc, hcm, by simpa using hcs, ht⟩⟩
theorem ins_list (X : List S59) (x : S59) (i : Nat) (cur : List Value) (hi : i < X.length) (hc : cur.take (X.length * 2) = flat X) (hl : (X.length + 1) * 2 ≤ cur.length) :
  (splice (splice cur ((i + 1) * 2) (flat (X.drop i))) (i * 2) (flat [x])).take ((X.length + 1) * 2) = flat (X.take i ++ x :: X.drop i) := by
 have e0 : cur.take (i * 2) = flat (X.take i) := by
  rw [← flat_take, ← hc, List.take_take, Nat.min_eq_left (by omega)]
 have l0 : (flat (X.take i)).length = i * 2 := by rw [flat_length, List.length_take, Nat.min_eq_left (by omega)]
 have l1 : (flat [x]).length = 2 := rfl
 have l2 : (flat (X.drop i)).length = (X.length - i) * 2 := by rw [flat_length, List.length_drop]
 have e1 : (splice cur ((i + 1) * 2) (flat (X.drop i))).take (i * 2) = flat (X.take i) := by
  rw [splice, List.take_append_of_le_length (by rw [List.length_take]; omega), List.take_take, Nat.min_eq_left (by omega), e0]
 have e2 : (splice cur ((i + 1) * 2) (flat (X.drop i))).drop (i * 2 + 2) = flat (X.drop i) ++ cur.drop ((i + 1) * 2 + (flat (X.drop i)).length) := by
  rw [splice, show i * 2 + 2 = (i + 1) * 2 by omega]
  exact List.drop_left' (by rw [List.length_take]; omega)
 have e3 : splice (splice cur ((i + 1) * 2) (flat (X.drop i))) (i * 2) (flat [x]) = flat (X.take i) ++ (flat [x] ++ (flat (X.drop i) ++ cur.drop ((i + 1) * 2 + (flat (X.drop i)).length))) := by
  rw [splice, e1, l1, e2]
 rw [e3, ← List.append_assoc, ← List.append_assoc, show X.take i ++ x :: X.drop i = X.take i ++ [x] ++ X.drop i by simp, flat_append, flat_append]
 exact List.take_left' (by rw [List.length_append, List.length_append, l0, l1, l2]; omega)
theorem ins_list2 (X : List S59) (x : S59) (i : Nat) (cur zs : List Value) (hi : i < X.length) (hc : cur = flat (X.take i) ++ zs) (hl : (X.length + 1 - i) * 2 ≤ zs.length) :
  (splice (splice cur (i * 2) (flat [x])) ((i + 1) * 2) (flat (X.drop i))).take ((X.length + 1) * 2) = flat (X.take i ++ x :: X.drop i) := by
 have l0 : (flat (X.take i)).length = i * 2 := by rw [flat_length, List.length_take, Nat.min_eq_left (by omega)]
 have l1 : (flat [x]).length = 2 := rfl
 have l2 : (flat (X.drop i)).length = (X.length - i) * 2 := by rw [flat_length, List.length_drop]
 have e0 : cur.take (i * 2) = flat (X.take i) := by rw [hc]; exact List.take_left' l0
 have e1 : splice cur (i * 2) (flat [x]) = (flat (X.take i) ++ flat [x]) ++ cur.drop (i * 2 + 2) := by rw [splice, e0, l1, List.append_assoc]
 have e2 : (splice cur (i * 2) (flat [x])).take ((i + 1) * 2) = flat (X.take i) ++ flat [x] := by
  rw [e1]; exact List.take_left' (by rw [List.length_append, l0, l1]; omega)
 rw [splice, e2, ← List.append_assoc, show X.take i ++ x :: X.drop i = X.take i ++ [x] ++ X.drop i by simp, flat_append, flat_append]
 exact List.take_left' (by rw [List.length_append, List.length_append, l0, l1, l2]; omega)
theorem grown_drew (W : World) (r : Option Nat) : W.grownBy W.drew r := ⟨rfl, rfl, rfl, Nat.le_refl _, fun _ _ _ => rfl⟩
theorem grown_wide {W W1 : World} (r : Option Nat) (h : W.grownBy W1 none) : W.grownBy W1 r := ⟨h.os, h.tape, h.output, h.size, fun k hk _ => h.block k hk (by simp)⟩
theorem grown_cut {W W1 W2 : World} {g : Nat} {r : Option Nat} (h : W.grownBy W1 r) (k : W1.grownBy W2 (some g)) (hg : W.heap.size ≤ g) : W.grownBy W2 r := ⟨k.os.trans h.os, k.tape.trans h.tape, k.output.trans h.output, Nat.le_trans h.size k.size, fun q hq hn => (k.block q (Nat.lt_of_lt_of_le hq h.size) (fun e => by injection e with e; omega)).trans (h.block q hq hn)⟩
theorem sz59 : (Try.prog.info? 59).map (·.size) = some 2 := by kernel_rfl
theorem szof59 : ∀ w, (Go.sizeOf 59).run Try.prog w = .ok 2 w := fun w => by
 obtain ⟨i0, hi, h⟩ := Option.map_eq_some_iff.1 sz59
 simp [sizeOf, typeInfo, hi, h]
theorem sh_src {w : World} {g : Nat} {cur : List Value} {X : List S59} (i j : Nat) (v : Value) (hh : w.heap[g]? = some (.cells cur.toArray 59 (0, 0))) (ht : cur.take (X.length * 2) = flat X) (hj : (flat (X.drop i))[j]? = some v) : w.cell? ((⟨g, i * 2, none⟩ : Addr).add j) = some v := by
 rw [← flat_drop, List.getElem?_drop, ← ht, List.getElem?_take] at hj
 split at hj
 ·rw [Addr.add_lit]
  simpa [World.cell?, hh] using hj
 ·cases hj
theorem tk_len (X : List S59) (i : Nat) (h : i ≤ X.length) : (flat (X.take i)).length = i * 2 := by rw [flat_length, List.length_take, Nat.min_eq_left h]
theorem gr_src {w : World} {g : Nat} {cur : List Value} {X : List S59} (i j : Nat) (v : Value) (hh : w.heap[g]? = some (.cells cur.toArray 59 (0, 0))) (ht : cur.take (X.length * 2) = flat X) (hi : i ≤ X.length) (hj : (flat (X.take i))[j]? = some v) : w.cell? ((⟨g, 0, none⟩ : Addr).add j) = some v := by
 rw [← flat_take, ← ht, List.take_take, Nat.min_eq_left (by omega), List.getElem?_take] at hj
 split at hj
 ·rw [add_plain]
  simpa [World.cell?, hh] using hj
 ·cases hj
theorem ins_shift (g c i : Nat) (X : List S59) (x : S59) (h : Nat) (w : World) (base : Nat) (hR : k59.R 59 w base (fun _ => True) (.slice (some ⟨g, 0, none⟩) X.length c) X) (hv : w.heap[h]? = some (.cells (fl x).toArray 59 (0, 0))) (hne : h ≠ g) (hl : X.length ≤ 1000000000000) (hi : i < X.length) (hroom : X.length + 1 ≤ c) :
  Calls Try.prog 31 #[.slice (some ⟨g, 0, none⟩) X.length c, .int .i64 i, .slice (some ⟨h, 0, none⟩) 1 1] w fun e w' => ∃ v', e = .returned v' ∧ k59.R 59 w' base (fun _ => True) v' (X.take i ++ x :: X.drop i) ∧ w.grownBy w' (some g) ∧ (v'.ownBlock = some g ∨ ∃ b, v'.ownBlock = some b ∧ w.heap.size ≤ b) := by
 obtain ⟨cur, hb, hh, _, hnc, hcm, hcs, ht⟩ := own_parts hR
 have hov : ∀ lb cb, (callFunc 44 #[.slice (some ⟨h, 0, none⟩) 1 1, .slice (some ⟨g, (i + 1) * 2, none⟩) lb cb]).run Try.prog w = .ok (.value (.bool false)) w := fun lb cb => by
  rw [run_callFunc_extern Try.func44 (by kernel_rfl) (by kernel_rfl) (by kernel_rfl) (e := Extern.SlicesOverlaps.overlaps #[23, 23] #[4]) (by kernel_rfl),
   Lib.run_overlaps_apart w 23 4 59 Try.underlying23 2 szof59 ⟨h, 0, none⟩ ⟨g, (i + 1) * 2, none⟩ 1 1 lb cb hne 59 59 2 (c * 2) (by simp [World.shape?, hv, fl]) (by simp [World.shape?, hh, hcs]) (by omega) (by simp [World.frozen?, hv]) (by simp [World.frozen?, hv])]
  rfl
 have hw1 : wrap64 ((i : Int) + 1) = (i : Int) + 1 := w64 (by omega) (by omega)
 have hw2 : wrap64 ((X.length : Int) + 1) = (X.length : Int) + 1 := w64 (by omega) (by omega)
 have HL := Aside0.mk (And.intro hl (And.intro hb (And.intro hcm (And.intro hcs ht))))
 have HV := Aside0.mk hv
 have HH := Aside0.mk hh
 have b1 : ((i : Int) == (X.length : Int)) = false := by simp; omega
 have b2 : decide ((X.length : Int) + 1 > (c : Int)) = false := by simp; omega
 have b3 : i ≤ X.length := by omega
 have b4 : (i : Int) + 1 ≤ (X.length : Int) + 1 := by omega
 have b5 : (i : Int) ≤ (X.length : Int) + 1 := by omega
 have b6 : ¬ (c = i) := by omega
 have b7 : ¬ (c = i + 1) := by omega
 have t1 : ((i : Int) + 1).toNat = i + 1 := by omega
 have hwi : IntKind.i64.wrap ((i : Int) + 1) = (i : Int) + 1 := by rw [IntKind.wrap_i64]; omega
 have b8 : (0 : Int) ≤ (i : Int) + 1 := by omega
 have t2 : ((X.length : Int) + 1).toNat = X.length + 1 := by omega
 have HN := Aside0.mk hne
 clear hR hl hb hcm hcs ht hv hh hne
 go_enter Try.func31, Try.ntmps31
 go_wp2
 clear hw1 hw2 hov b1 b2 t2
 go_region_law (refine step_copyS rfl (.tmp 73) (.tmp 76) 23 23 rfl 59 2 Try.underlying23 sz59 g ((i + 1) * 2) (X.length + 1 - (i + 1)) (c - (i + 1)) ⟨g, i * 2, none⟩ (X.length + 1 - i) (c - i) (by go_simp) (by go_simp) cur 59 HH.out (flat (X.drop i)) (by rw [flat_length, List.length_drop]; simp only [Nat.min_def]; split <;> omega) (fun j v hj => sh_src i j v HH.out HL.out.2.2.2.2 hj) (by rw [flat_length, List.length_drop]; have := HL.out.2.2.2.1; omega) (flat_one _) ?_; intro w3 n3 HH3 HG3)
 have HV3 := Aside0.mk (((HG3.out).block h (blk_lt HV.out) (fun e => HN.out (Option.some.inj e))).trans HV.out)
 go_wp2_with ((with_reducible refine gate_builtin (b := .copy) (xs := #[.tmp 80, .tmp 81]) rfl ?_); refine wpList_copyS rfl (.tmp 80) (.tmp 81) 23 23 rfl 59 2 Try.underlying23 sz59 g (i * 2) (X.length + 1 - i) (c - i) ⟨h, 0, none⟩ 1 1 rfl rfl (splice cur ((i + 1) * 2) (flat (X.drop i))) 59 HH3.out (flat [x]) (by simp only [Nat.min_def, flat_length]; split <;> first | rfl | omega) (fun j v hj => read_flat (one_C HV3.out) j v hj) (by rw [length_splice _ _ _ (by rw [flat_length, List.length_drop]; have := HL.out.2.2.2.1; omega), flat_length]; have := HL.out.2.2.2.1; simp only [List.length_cons, List.length_nil]; omega) (flat_one _) ?_; intro w4 n4 HH4 HG4)
 go_ret
 refine ⟨_, rfl, parts_own HL.out.2.1 HH4.out (by simp; omega) hroom HL.out.2.2.1 ?_ ?_, (grown_drew _ _).trans ((HG3.out).trans HG4.out), .inl rfl⟩
 ·rw [length_splice _ _ _ ?_, length_splice _ _ _ ?_]
  ·exact HL.out.2.2.2.1
  ·rw [flat_length, List.length_drop]; have := HL.out.2.2.2.1; omega
  ·rw [length_splice _ _ _ (by rw [flat_length, List.length_drop]; have := HL.out.2.2.2.1; omega), flat_length]; have := HL.out.2.2.2.1; simp only [List.length_cons, List.length_nil]; omega
 ·have := ins_list X x i cur hi HL.out.2.2.2.2 (by have := HL.out.2.2.2.1; omega)
  rw [show (X.take i ++ x :: X.drop i).length = X.length + 1 by simp; omega]
  exact this
theorem ins_grow (g c i : Nat) (X : List S59) (x : S59) (h : Nat) (w : World) (base : Nat) (hR : k59.R 59 w base (fun _ => True) (.slice (some ⟨g, 0, none⟩) X.length c) X) (hbs : base ≤ w.heap.size) (hv : w.heap[h]? = some (.cells (fl x).toArray 59 (0, 0))) (hl : X.length ≤ 1000000000000) (hi : i < X.length) (hroom : c < X.length + 1) :
  Calls Try.prog 31 #[.slice (some ⟨g, 0, none⟩) X.length c, .int .i64 i, .slice (some ⟨h, 0, none⟩) 1 1] w fun e w' => ∃ v', e = .returned v' ∧ k59.R 59 w' base (fun _ => True) v' (X.take i ++ x :: X.drop i) ∧ w.grownBy w' (some g) ∧ (v'.ownBlock = some g ∨ ∃ b, v'.ownBlock = some b ∧ w.heap.size ≤ b) := by
 obtain ⟨cur, hb, hh, _, hnc, hcm, hcs, ht⟩ := own_parts hR
 have hw1 : wrap64 ((i : Int) + 1) = (i : Int) + 1 := w64 (by omega) (by omega)
 have hw2 : wrap64 ((X.length : Int) + 1) = (X.length : Int) + 1 := w64 (by omega) (by omega)
 have hw3 : wrap64 ((X.length : Int) + 1 - (i : Int)) = (X.length : Int) + 1 - (i : Int) := w64 (by omega) (by omega)
 have hwi : IntKind.i64.wrap ((i : Int) + 1) = (i : Int) + 1 := by rw [IntKind.wrap_i64]; omega
 have hgl := blk_lt hh
 have hhl := blk_lt hv
 have HL := Aside0.mk (And.intro hl (And.intro hbs (And.intro hcm (And.intro hcs ht))))
 have HB := Aside0.mk (And.intro hgl (And.intro hhl (And.intro hi hroom)))
 have HV := Aside0.mk hv
 have HH := Aside0.mk hh
 have b1 : ((i : Int) == (X.length : Int)) = false := by simp; omega
 have b2 : decide ((X.length : Int) + 1 > (c : Int)) = true := by simp; omega
 have b3 : i ≤ X.length := by omega
 have b3' : i ≤ c := by omega
 have b3q : (i : Int) ≤ (c : Int) := by omega
 have b4 : (i : Int) + 1 ≤ (X.length : Int) + 1 := by omega
 have b5 : (i : Int) ≤ (X.length : Int) + 1 := by omega
 have b6 : ¬ (c = i) := by omega
 have b8 : (0 : Int) ≤ (i : Int) + 1 := by omega
 have t1 : ((i : Int) + 1).toNat = i + 1 := by omega
 have l1 : (flat [x]).length = 2 := rfl
 have L1 := Aside0.mk l1
 have hl2 : (X.length : Int) ≤ 1000000000000 := by omega
 have hl3 : (i : Int) < (X.length : Int) := by omega
 have hl4 : (0 : Int) ≤ (X.length : Int) + 1 - (i : Int) := by omega
 clear hR hb hcm hcs ht hv hh hgl hhl hroom hnc hbs l1
 go_enter Try.func31, Try.ntmps31
 go_wp2_with (first
  | ((with_reducible refine gate_builtin (b := .append) (xs := #[.tmp 34, .tmp 39]) rfl ?_); refine wpList_zerosS rfl (.tmp 34) (.tmp 39) 23 3 59 rfl (.agg #[(.int .i64 0), (.int .i64 0)]) 2 16 Try.underlying23 Try.underlying3 info59 rfl (by decide) ⟨g, 0, none⟩ i c ((X.length : Int) + 1 - (i : Int)) (X.length + 1 - i) (X.length + 1) (by have := HB.out; omega) rfl rfl (by have := HB.out; omega) (flat (X.take i)) (by rw [flat_length, List.length_take, Nat.min_eq_left (by have := HB.out; omega)]) (fun j v hj => gr_src i j v HH.out HL.out.2.2.2.2 (by have := HB.out; omega) hj) (by have := HB.out; omega) (by have := HB.out; omega) (by have := HL.out; have := HB.out; omega) (by decide) ?_; intro w1 c1 zs H1 HZ G1; have d1 : ¬ (c1 = i) := (by have := HZ.out; have := HB.out; omega); have d2 : ¬ (c1 = i + 1) := (by have := HZ.out; have := HB.out; omega); have HV1 := Aside0.mk (((G1.out).block h HB.out.2.1 (by simp)).trans HV.out); have HH1 := Aside0.mk (((G1.out).block g HB.out.1 (by simp)).trans HH.out))
  | ((with_reducible refine gate_builtin (b := .copy) (xs := #[.tmp 43, .tmp 44]) rfl ?_); refine wpList_copyS rfl (.tmp 43) (.tmp 44) 23 23 rfl 59 2 Try.underlying23 sz59 w.heap.size (i * 2) (X.length + 1 - i) (c1 - i) ⟨h, 0, none⟩ 1 1 rfl rfl (flat (X.take i) ++ zs) 59 H1.out (flat [x]) (by simp only [Nat.min_def, flat_length]; have := HB.out; split <;> first | rfl | omega) (fun j v hj => read_flat (one_C HV1.out) j v hj) (by rw [List.length_append, tk_len X i (by have := HB.out; omega), HZ.out.2.2, L1.out]; have := HZ.out; have := HB.out; omega) (flat_one _) ?_; intro w2 n2 H2 G2; have HH2 := Aside0.mk (((G2.out).block g (blk_lt HH1.out) (fun e => by injection e with e; have := HB.out; omega)).trans HH1.out)))
 go_region_law (refine step_copyS rfl (.tmp 50) (.tmp 53) 23 23 rfl 59 2 Try.underlying23 sz59 w.heap.size ((i + 1) * 2) (X.length + 1 - (i + 1)) (c1 - (i + 1)) ⟨g, i * 2, none⟩ (X.length - i) (c - i) (by go_simp) (by go_simp) (splice (flat (X.take i) ++ zs) (i * 2) (flat [x])) 59 H2.out (flat (X.drop i)) (by rw [flat_length, List.length_drop]; simp only [Nat.min_def]; split <;> omega) (fun j v hj => sh_src (w := w2.drew) i j v HH2.out HL.out.2.2.2.2 hj) (by rw [length_splice _ _ _ (by rw [List.length_append, tk_len X i (by have := HB.out; omega), HZ.out.2.2, L1.out]; have := HZ.out; have := HB.out; omega), List.length_append, tk_len X i (by have := HB.out; omega), flat_length, List.length_drop, HZ.out.2.2]; have := HZ.out; have := HB.out; omega) (flat_one _) ?_; intro w3 n3 H3 G3)
 go_wp2
 go_ret
 have z2 := HZ.out
 have z3 := HB.out
 have z4 : (flat (X.take i) ++ zs).length = c1 * 2 := by rw [List.length_append, tk_len X i (by omega), z2.2.2]; omega
 have z5 : (splice (flat (X.take i) ++ zs) (i * 2) (flat [x])).length = c1 * 2 := by rw [length_splice _ _ _ (by rw [z4, L1.out]; omega), z4]
 refine ⟨_, rfl, parts_own HL.out.2.1 H3.out (by simp; omega) z2.1 z2.2.1 ?_ ?_, ?_, .inr ⟨_, rfl, Nat.le_refl _⟩⟩
 ·rw [length_splice _ _ _ (by rw [z5, flat_length, List.length_drop]; omega), z5]
 ·have := ins_list2 X x i _ zs z3.2.2.1 rfl (by rw [z2.2.2]; omega)
  rw [show (X.take i ++ x :: X.drop i).length = X.length + 1 by simp; omega]
  exact this
 ·exact grown_cut (grown_cut (grown_wide _ G1.out) G2.out (Nat.le_refl _)) ((grown_drew w2 _).trans G3.out) (Nat.le_refl _)
theorem ins_any (A : Option Addr) (c i : Nat) (X : List S59) (x : S59) (h : Nat) (w : World) (base : Nat) (hR : k59.R 59 w base (fun _ => True) (.slice A X.length c) X) (hbs : base ≤ w.heap.size) (hv : w.heap[h]? = some (.cells (fl x).toArray 59 (0, 0))) (hne : some h ≠ (Value.slice A X.length c).ownBlock) (hl : X.length ≤ 1000000000000) (hi : i ≤ X.length) :
  Calls Try.prog 31 #[.slice A X.length c, .int .i64 i, .slice (some ⟨h, 0, none⟩) 1 1] w fun e w' => ∃ v', e = .returned v' ∧ k59.R 59 w' base (fun _ => True) v' (X.take i ++ x :: X.drop i) ∧ w.grownBy w' (Value.slice A X.length c).ownBlock ∧ (v'.ownBlock = (Value.slice A X.length c).ownBlock ∨ ∃ b, v'.ownBlock = some b ∧ w.heap.size ≤ b) := by
 by_cases he : i = X.length
 ·subst he
  refine (ins_end A c X x h w base hR hbs hv hl).mono fun e w' hq => ?_
  rw [List.take_length, List.drop_length]
  exact hq
 ·obtain ⟨g, cap, hv2, _, _, _⟩ := Kd.R_form hR (by omega)
  injection hv2 with a1 _ a3
  subst a1; subst a3
  rcases Nat.lt_or_ge c (X.length + 1) with hc | hc
  ·exact ins_grow g c i X x h w base hR hbs hv hl (by omega) hc
  ·exact ins_shift g c i X x h w base hR hv (fun e => hne (by rw [e]; rfl)) hl (by omega) hc
theorem wpList_clear1 {P : Program} {w : World} {ops : Array Oper} {rest : List Oper} {o : Oper} {a : Act} {Q : Exit → Act → World → Prop} (hgd : o.guard = none) (s : Operand) (t e : TypeId) (z : Value) (zs : List Value)
  (ho : o.op = .call { callee := .builtin .clear, args := #[s], argTypes := #[t] }) (ht : P.underlying t = some (.slice e)) (hv : ∀ w, (zeroValue e).run P w = .ok z w) (hzs : (Builtin.zeroCells z.cells 1).toList = zs)
  (g off c : Nat) (hs : a.eval s = .slice (some ⟨g, off, none⟩) 1 c) (cur : List Value) (t' : TypeId) (hg : w.heap[g]? = some (.cells cur.toArray t' (0, 0))) (hfit : off + zs.length ≤ cur.length) (h1 : ∀ v ∈ zs, v.oneCell' = true)
  (h : ∀ w', Aside0 (w'.heap[g]? = some (.cells (splice cur off zs).toArray t' (0, 0))) → Aside0 (w.grownBy w' (some g)) → wpList P ops Q rest (a.put o.dst (.tuple #[])) w') : wpList P ops Q (o :: rest) a w := by
 refine wpList_plain hgd fun K hK => ?_
 have hst := run_storeCells_at P g off t' zs 0 cur.toArray w hg (by simpa using hfit) h1
 have hrun : (Builtin.clear_ #[t] o.type #[.slice (some ⟨g, off, none⟩) 1 c]).run P w = .ok (.tuple #[]) (w.setRow g (splice cur off zs).toArray) := by
  simp only [Nat.add_zero] at hst
  simp [Builtin.clear_, run_underlying ht, hv, hzs, hst, splice]
 unfold Oper.wp
 simp [execOp, ho, resolve, invoke, builtin, hs, hrun, Result.andThen]
 exact hK _ _ (h _ ⟨by simpa using setRow_heap w g _ _ t' _ hg⟩ ⟨grown_setRow _ _⟩)
theorem zv59 : ∀ w, (zeroValue 59).run Try.prog w = .ok (.agg #[(.int .i64 0), (.int .i64 0)]) w := fun w => by
 obtain ⟨i0, hi, h⟩ := Option.map_eq_some_iff.1 info59
 simp only [Prod.mk.injEq] at h
 simp [zeroValue, typeInfo, hi, h.1]
theorem zc59 : (Builtin.zeroCells (Value.agg #[(.int .i64 0), (.int .i64 0)]).cells 1).toList = flat [z59] := by kernel_rfl
theorem del_any (g c k : Nat) (X : List S59) (w : World) (base : Nat) (hR : k59.R 59 w base (fun _ => True) (.slice (some ⟨g, 0, none⟩) X.length c) X) (hbs : base ≤ w.heap.size) (hl : X.length ≤ 1000000000000) (hk : k < X.length) :
  Calls Try.prog 35 #[.slice (some ⟨g, 0, none⟩) X.length c, .int .i64 k, .int .i64 ((k : Int) + 1)] w fun e w' => e = .returned (.slice (some ⟨g, 0, none⟩) (X.length - 1) c) ∧ k59.R 59 w' base (fun _ => True) (.slice (some ⟨g, 0, none⟩) (X.length - 1) c) (X.eraseIdx k) ∧ w.grownBy w' (some g) := by
 have hnc := (Kd.R_reads' hR).2.1
 have hlen : (X.eraseIdx k).length = X.length - 1 := List.length_eraseIdx_of_lt hk
 have HR := Aside0.mk hR
 have HL := Aside0.mk (And.intro hl (And.intro hk (And.intro hbs hlen)))
 have hl2 : (X.length : Int) ≤ 1000000000000 := by omega
 have hl3 : (k : Int) < (X.length : Int) := by omega
 have b1 : ((k : Int) == (k : Int) + 1) = false := by simp; omega
 have b2 : (0 : Int) ≤ (k : Int) + 1 := by omega
 have b3 : (k : Int) + 1 ≤ (X.length : Int) := by omega
 have b4 : (k : Int) ≤ (k : Int) + 1 := by omega
 have b5 : k ≤ k + 1 := by omega
 have b6 : k + 1 ≤ X.length := by omega
 have b7 : ((X.length - 1 : Nat) : Int) ≤ (X.length : Int) := by omega
 have b8 : X.length - 1 ≤ X.length := by omega
 have b9 : ¬ (c = X.length - 1) := by omega
 have b10 : X.length ≤ c := hnc
 have b11 : k ≤ X.length := by omega
 have b12 : (X.length : Int) ≤ (c : Int) := by omega
 have b13 : (k : Int) ≤ (c : Int) := by omega
 have b14 : k ≤ c := by omega
 have t1 : ((k : Int) + 1).toNat = k + 1 := by omega
 have t2 : X.length - (X.length - 1) = 1 := by omega
 clear hR hbs hlen
 by_cases hq : c = k + 1
 ·subst hq
  go_enter Try.func35, Try.ntmps35
  go_wp2
  go_region_law (refine Kd.R_delete_step k59 (w0 := w) base rfl (.tmp 22) (.tmp 25) 23 59 rfl Try.underlying23 sz59 (g := g) (n := X.length) (c := (k + 1)) (k := k) (m := X.length - (k + 1)) (c2 := (k + 1) - (k + 1)) (A := some ⟨g, 0, none⟩) (xs := X) (ok := fun _ => True) (by go_simp) (by go_simp) (by rw [if_pos rfl]) rfl (Kd.R_drew HR.out) HL.out.2.1 (below_drew (Below.refl _ _)) HL.out.2.2.1 ?_; intro w1 h1 h2 h3; have H1 := Aside0.mk h1; have H3 := Aside0.mk h3; clear h1 h2 h3)
  obtain ⟨cur, hb, hh, hn1, hn2, hcm, hcs, ht⟩ := own_parts H1.out
  have HH := Aside0.mk hh
  have HT := Aside0.mk (And.intro hb (And.intro hcm (And.intro hcs ht)))
  clear hb hh hn1 hn2 hcm hcs ht
  go_wp2_with ((with_reducible refine gate_builtin (b := .clear) (xs := #[.tmp 31]) rfl ?_); refine wpList_clear1 rfl (.tmp 31) 23 59 _ (flat [z59]) rfl Try.underlying23 zv59 zc59 g ((X.length - 1) * 2) ((k + 1) - (X.length - 1)) rfl cur 59 HH.out (by rw [HT.out.2.2.1, flat_length]; have := HL.out.2.1; simp only [List.length_cons, List.length_nil]; omega) (flat_one _) ?_; intro w2 H2 G2)
  go_ret
  refine ⟨rfl, parts_own HT.out.1 H2.out HL.out.2.2.2.symm (by omega) HT.out.2.1 ?_ ?_, (grown_drew w _).trans (H3.out.trans G2.out)⟩
  ·rw [length_splice _ _ _ ?_]
   ·exact HT.out.2.2.1
   ·rw [HT.out.2.2.1, flat_length]; have := HL.out.2.1; simp only [List.length_cons, List.length_nil]; omega
  ·rw [HL.out.2.2.2, splice, List.take_append_of_le_length (by rw [List.length_take, HT.out.2.2.1]; omega), List.take_take, Nat.min_self]
   have := HT.out.2.2.2
   rw [HL.out.2.2.2] at this
   exact this
 ·go_enter Try.func35, Try.ntmps35
  go_wp2
  go_region_law (refine Kd.R_delete_step k59 (w0 := w) base rfl (.tmp 22) (.tmp 25) 23 59 rfl Try.underlying23 sz59 (g := g) (n := X.length) (c := c) (k := k) (m := X.length - (k + 1)) (c2 := c - (k + 1)) (A := some ⟨g, (k + 1) * 2, none⟩) (xs := X) (ok := fun _ => True) (by go_simp) (by go_simp) (by rw [if_neg hq]; simp [Addr.add_lit]; rfl) rfl (Kd.R_drew HR.out) HL.out.2.1 (below_drew (Below.refl _ _)) HL.out.2.2.1 ?_; intro w1 h1 h2 h3; have H1 := Aside0.mk h1; have H3 := Aside0.mk h3; clear h1 h2 h3)
  obtain ⟨cur, hb, hh, hn1, hn2, hcm, hcs, ht⟩ := own_parts H1.out
  have HH := Aside0.mk hh
  have HT := Aside0.mk (And.intro hb (And.intro hcm (And.intro hcs ht)))
  clear hb hh hn1 hn2 hcm hcs ht
  go_wp2_with ((with_reducible refine gate_builtin (b := .clear) (xs := #[.tmp 31]) rfl ?_); refine wpList_clear1 rfl (.tmp 31) 23 59 _ (flat [z59]) rfl Try.underlying23 zv59 zc59 g ((X.length - 1) * 2) (c - (X.length - 1)) rfl cur 59 HH.out (by rw [HT.out.2.2.1, flat_length]; have := HL.out.2.1; simp only [List.length_cons, List.length_nil]; omega) (flat_one _) ?_; intro w2 H2 G2)
  go_ret
  refine ⟨rfl, parts_own HT.out.1 H2.out HL.out.2.2.2.symm (by omega) HT.out.2.1 ?_ ?_, (grown_drew w _).trans (H3.out.trans G2.out)⟩
  ·rw [length_splice _ _ _ ?_]
   ·exact HT.out.2.2.1
   ·rw [HT.out.2.2.1, flat_length]; have := HL.out.2.1; simp only [List.length_cons, List.length_nil]; omega
  ·rw [HL.out.2.2.2, splice, List.take_append_of_le_length (by rw [List.length_take, HT.out.2.2.1]; omega), List.take_take, Nat.min_self]
   have := HT.out.2.2.2
   rw [HL.out.2.2.2] at this
   exact this
theorem bsF_range (id : Int) (Y : List S59) : ∀ (k : Nat) (i j : Int), i ≤ j → i ≤ bsF id Y k i j ∧ bsF id Y k i j ≤ j := by
 intro k
 induction k with
 | zero => intro i j h; exact ⟨Int.le_refl _, h⟩
 | succ k ih =>
  intro i j h
  simp only [bsF]
  split
  ·split
   ·have := ih ((i + j) / 2 + 1) j (by omega)
    exact ⟨by omega, this.2⟩
   ·have := ih i ((i + j) / 2) (by omega)
    exact ⟨this.1, by omega⟩
  ·exact ⟨Int.le_refl _, h⟩
theorem bsAt_range (Y : List S59) (id : Int) : 0 ≤ bsAt Y id ∧ bsAt Y id ≤ Y.length := bsF_range id Y _ _ _ (by omega)
theorem lit1_event {P : Program} {ops : Array Oper} {rest : List Oper} {o : Oper} {a : Act} {Q : Exit → Act → World → Prop} {W : World} (hgd : o.guard = none) {N : Tmp} (_hd : o.dst = some N) {cs : Array Value} {t : TypeId} {n : Nat}
  (hrun : (execOp a.eval o).run P W = .ok (.value (.slice (some ⟨W.heap.size, 0, none⟩) n n)) (W.alloc (.cells cs t (0, 0))))
  (h : ∀ g, g = W.heap.size → ∀ w1, w1.heap[g]? = some (.cells cs t (0, 0)) → Below W.heap.size W w1 → wpList P ops Q rest (a.put o.dst (.slice (some ⟨g, 0, none⟩) n n)) w1) : wpList P ops Q (o :: rest) a W :=
 Kd.event_run hgd hrun (h _ rfl _ (blk_new W _) (below_alloc (Below.refl _ _) _))
theorem ins_ab (A : Option Addr) (c i : Nat) (X : List S59) (id ep : Int) (h : Nat) (w : World) (base : Nat) (hR : k59.R 59 w base (fun _ => True) (.slice A X.length c) X) (hbs : base ≤ w.heap.size) (hv : w.heap[h]? = some (.cells #[.int .i64 id, .int .i64 ep] 59 (0, 0))) (hne : some h ≠ (Value.slice A X.length c).ownBlock) (hl : X.length ≤ 1000000000000) (hi : i ≤ X.length) :
  Calls Try.prog 31 #[.slice A X.length c, .int .i64 i, .slice (some ⟨h, 0, none⟩) 1 1] w fun e w' => ∃ v', e = .returned v' ∧ k59.R 59 w' base (fun _ => True) v' (X.take i ++ ⟨id, ep⟩ :: X.drop i) ∧ w.grownBy w' (Value.slice A X.length c).ownBlock ∧ (v'.ownBlock = (Value.slice A X.length c).ownBlock ∨ ∃ b, v'.ownBlock = some b ∧ w.heap.size ≤ b) :=
 ins_any A c i X ⟨id, ep⟩ h w base hR hbs hv hne hl hi
theorem clone_f {Y : List S59} (h : Y.length ≤ 1000000000000) : slices_CloneE.f Y = some Y := if_pos h
def isAt (Y : List S59) (id : Int) : Bool := decide (bsAt Y id < Y.length) && (bcmp (rd_T59 Y (bsAt Y id)).f0 id == 0)
def withL (Y : List S59) (id ep : Int) : List S59 := if isAt Y id = true then Y.set (bsAt Y id).toNat ⟨(rd_T59 Y (bsAt Y id)).f0, ep⟩ else Y.take (bsAt Y id).toNat ++ ⟨id, ep⟩ :: Y.drop (bsAt Y id).toNat
structure WiSt (w0 w : World) (g3 g6 : Nat) (n : Int) (a u : Value) (Y : List S59) : Prop where
 bl : Below w0.heap.size w0 w
 b3 : w.heap[g3]? = some (.cells #[.int .i64 n, a] 25 (0, 0))
 b6 : w.heap[g6]? = some (.cells #[.int .i64 0, .slice none 0 0] 25 (0, 0))
 row : k59.R 59 w w0.heap.size (fun _ => True) u Y
 n3 : w0.heap.size ≤ g3
 n6 : w0.heap.size ≤ g6
 d : g3 ≠ g6
theorem WiSt.of {w0 w w' : World} {g3 g6 : Nat} {n : Int} {a u5 : Value} {Y : List S59} (hb : Below w0.heap.size w0 w) (b3 : w.heap[g3]? = some (.cells #[.int .i64 n, a] 25 (0, 0))) (b6 : w.heap[g6]? = some (.cells #[.int .i64 0, .slice none 0 0] 25 (0, 0))) (n3 : w0.heap.size ≤ g3) (n6 : w0.heap.size ≤ g6) (d : g3 ≠ g6) (ho : k59.R 59 w' w.heap.size (fun _ => True) u5 Y) (h : Below w.heap.size w w') : WiSt w0 w' g3 g6 n a u5 Y :=
 ⟨below_step hb h, blk_below b3 h, blk_below b6 h, Kd.R_lower ho (below_size hb), n3, n6, d⟩
theorem WiSt.below {w0 w w' : World} {g3 g6 : Nat} {n : Int} {a u : Value} {Y : List S59} (h : WiSt w0 w g3 g6 n a u Y) (hb : Below w.heap.size w w') : WiSt w0 w' g3 g6 n a u Y :=
 ⟨below_step h.bl hb, blk_below h.b3 hb, blk_below h.b6 hb, Kd.R_below h.row hb, h.n3, h.n6, h.d⟩
theorem WiSt.set1 {w0 w : World} {g3 g6 : Nat} {n : Int} {a u : Value} {Y : List S59} (h : WiSt w0 w g3 g6 n a u Y) : WiSt w0 (w.setCell ⟨g3, 1, none⟩ u) g3 g6 n u u Y :=
 ⟨below_set h.bl h.n3, blk_put h.b3 1 _ rfl, blk_far (p := ⟨g3, 1, none⟩) h.b6 h.d.symm _, Kd.R_mono (Kd.R_set h.row h.b3 (by decide) 1 _) (fun _ _ => trivial), h.n3, h.n6, h.d⟩
theorem WiSt.app {w0 w w' : World} {g3 g6 : Nat} {n : Int} {a u u2 : Value} {Y Y2 : List S59} (h : WiSt w0 w g3 g6 n a u Y) (hr : k59.R 59 w' w0.heap.size (fun _ => True) u2 Y2) (hg : w.grownBy w' u.ownBlock) : WiSt w0 w' g3 g6 n a u2 Y2 :=
 ⟨pw_below_grown h.bl u.ownBlock (below_size h.bl) hg (fun k hk => Kd.R_base h.row k hk), blk_grown h.b3 hg (Kd.R_ne h.row h.b3 (by decide)), blk_grown h.b6 hg (Kd.R_ne h.row h.b6 (by decide)), hr, h.n3, h.n6, h.d⟩
theorem flat_set (X : List S59) (k : Nat) (y : S59) (h : k < X.length) (h0 : y.f0 = (X[k]).f0) : flat (X.set k y) = (flat X).set (k * 2 + 1) (.int .i64 y.f1) := by
 induction X generalizing k with
 | nil => simp at h
 | cons x r ih =>
  cases k with
  | zero =>
   simp only [List.getElem_cons_zero] at h0
   simp [flat, fl, h0]
  | succ k =>
   have := ih k (by simpa using h) (by simpa using h0)
   simp only [flat, List.flatMap_cons, fl, List.cons_append, List.nil_append, List.set_cons_succ] at this ⊢
   rw [this, show (k + 1) * 2 = k * 2 + 1 + 1 by omega]
   simp
theorem own_put1 {w : World} {base : Nat} {g c : Nat} {X : List S59} {k : Nat} (hR : k59.R 59 w base (fun _ => True) (.slice (some ⟨g, 0, none⟩) X.length c) X) (hk : k < X.length) (y : S59) (h0 : y.f0 = (X[k]).f0) :
  w.cell? ⟨g, k * 2 + 1, none⟩ = some (.int .i64 (X[k]).f1) ∧ w.frozen? ⟨g, k * 2 + 1, none⟩ = false ∧ k59.R 59 (w.setCell ⟨g, k * 2 + 1, none⟩ (.int .i64 y.f1)) base (fun _ => True) (.slice (some ⟨g, 0, none⟩) X.length c) (X.set k y) ∧ w.grownBy (w.setCell ⟨g, k * 2 + 1, none⟩ (.int .i64 y.f1)) (some g) := by
 obtain ⟨cur, hb, hh, _, hnc, hcm, hcs, ht⟩ := own_parts hR
 refine ⟨?_, blk_frozen hh _, ?_, ?_⟩
 ·have h1 : (flat X)[k * 2 + 1]? = some (.int .i64 (X[k]).f1) := by
   have := flat_drop X k
   have h2 : (flat X)[k * 2 + 1]? = ((flat X).drop (k * 2))[1]? := by rw [List.getElem?_drop]
   rw [h2, this, List.drop_eq_getElem_cons hk]
   rfl
  rw [← ht, List.getElem?_take] at h1
  split at h1
  ·simpa [World.cell?, hh] using h1
  ·cases h1
 ·have e : (w.setCell ⟨g, k * 2 + 1, none⟩ (.int .i64 y.f1)).heap[g]? = some (.cells (cur.set (k * 2 + 1) (.int .i64 y.f1)).toArray 59 (0, 0)) := blk_put hh _ _ (by simp)
  refine parts_own hb e (by rw [List.length_set]) hnc hcm (by rw [List.length_set]; exact hcs) ?_
  rw [List.length_set, List.take_set, ht, flat_set X k y hk h0]
 ·exact ⟨rfl, rfl, rfl, by simp, fun q _ hq => Below.heap_setCell w ⟨g, k * 2 + 1, none⟩ _ q (fun e => hq (by rw [e]))⟩
theorem wi_bad (n : Int) (A : Option Addr) (c : Nat) (Y : List S59) (id ep : Int) (w : World) (hr : k59.C w A Y.length Y) (hc : Y.length ≤ c) (K : Nat) (hK : beacon_Check.f K n Y = some 1) :
  Calls Try.prog 14 #[.agg #[.int .i64 n, .slice A Y.length c], .int .i64 id, .int .i64 ep] w fun e w' => ∃ v1_ : Value, e = .returned (.tuple #[.agg #[.int .i64 0, v1_], .int .i64 1]) ∧ k59.R 59 w' w.heap.size (fun _ => True) v1_ [] ∧ Below w.heap.size w w' := by
 have hu25 := Try.underlying25
 have HR := Aside0.mk hr
 have HC := Aside0.mk hc
 have HK := Aside0.mk hK
 clear hr hc hK
 go_enter Try.func14, Try.ntmps14
 go_wp2_with (first
  | ((with_reducible refine gate_dst (N := 3) rfl ?_); refine box_event ?hg (N := 3) ?hd (cs := #[.int .i64 n, .slice A Y.length c]) (t := 25) ?hr ?_; (case hd => rfl); (case hg => rfl); (case hr => first | (go_simp; done) | (go_simp; rfl)); intro g3 hg w3 hbox hb; have HB3 := Aside0.mk hb; have G3 := Aside0.mk (Nat.le_of_eq hg.symm); have B3 := Aside0.mk hbox; clear hb hbox hg)
  | ((with_reducible refine gate_dst (N := 6) rfl ?_); refine box_event ?hg (N := 6) ?hd (cs := #[.int .i64 0, .slice none 0 0]) (t := 25) ?hr ?_; (case hd => rfl); (case hg => rfl); (case hr => first | (go_simp; done) | (go_simp; rfl)); intro g6 hg w6 hbox hb; have HB6 := Aside0.mk (below_step HB3.out hb); have G6 := Aside0.mk (show w.heap.size ≤ g6 by rw [hg]; exact below_size HB3.out); have D6 := Aside0.mk (show g3 ≠ g6 by rw [hg]; exact Nat.ne_of_lt (blk_lt B3.out)); have B36 := Aside0.mk (blk_below B3.out hb); have B66 := Aside0.mk hbox; clear hb hbox hg; have u0 := (blk_cell B36.out 0).trans rfl; have u1 := (blk_cell B36.out 1).trans rfl)
  | (go_at_call 22; (with_reducible refine (beacon_Check.calls K n A c Y 1 _ (Kd.C_below HR.out HB6.out) HC.out HK.out).mono ?_); rintro x_ ws ⟨rfl, hb⟩; have HB7 := Aside0.mk (below_step HB6.out hb); have B37 := Aside0.mk (blk_below B36.out hb); have B67 := Aside0.mk (blk_below B66.out hb); clear hb; have v0 := (blk_cell B37.out 0).trans rfl; have v1 := (blk_cell B37.out 1).trans rfl; have vf0 := blk_frozen B37.out 0; have vf1 := blk_frozen B37.out 1; have y0 := (blk_cell B67.out 0).trans rfl; have y1 := (blk_cell B67.out 1).trans rfl; have yf0 := blk_frozen B67.out 0; have yf1 := blk_frozen B67.out 1))
 refine bodyPost_ret (results_ct rfl _ _ g6 25 #[.int .i64 0, .slice none 0 0] (0, 0) _ rfl (blk_put (blk_put (B67.out) 0 (.int .i64 0) (cs' := #[.int .i64 0, .slice none 0 0]) rfl) 1 (.slice none 0 0) (cs' := #[.int .i64 0, .slice none 0 0]) rfl) Try.underlying25 rfl (by kernel_rfl)) rfl ?_
 exact ⟨_, rfl, Kd.R_nil _ _ _ _ _, below_set (below_set HB7.out G6.out) G6.out⟩
theorem wi_no (n : Int) (A : Option Addr) (c : Nat) (Y : List S59) (id ep : Int) (w : World) (hr : k59.C w A Y.length Y) (hc : Y.length ≤ c) (K : Nat) (hK : beacon_Check.f K n Y = some 0) (hq : id < 0 ∨ (¬ id < 0 ∧ id ≥ 64)) :
  Calls Try.prog 14 #[.agg #[.int .i64 n, .slice A Y.length c], .int .i64 id, .int .i64 ep] w fun e w' => ∃ v1_ : Value, e = .returned (.tuple #[.agg #[.int .i64 0, v1_], .int .i64 1]) ∧ k59.R 59 w' w.heap.size (fun _ => True) v1_ [] ∧ Below w.heap.size w w' := by
 have hu25 := Try.underlying25
 have HR := Aside0.mk hr
 have HC := Aside0.mk hc
 have HK := Aside0.mk hK
 clear hr hc hK
 rcases hq with h1 | ⟨h1, h2⟩
 ·have d1 : decide (id < 0) = true := decide_eq_true h1
  clear h1
  go_enter Try.func14, Try.ntmps14
  go_wp2_with (first
   | ((with_reducible refine gate_dst (N := 3) rfl ?_); refine box_event ?hg (N := 3) ?hd (cs := #[.int .i64 n, .slice A Y.length c]) (t := 25) ?hr ?_; (case hd => rfl); (case hg => rfl); (case hr => first | (go_simp; done) | (go_simp; rfl)); intro g3 hg w3 hbox hb; have HB3 := Aside0.mk hb; have G3 := Aside0.mk (Nat.le_of_eq hg.symm); have B3 := Aside0.mk hbox; clear hb hbox hg)
   | ((with_reducible refine gate_dst (N := 6) rfl ?_); refine box_event ?hg (N := 6) ?hd (cs := #[.int .i64 0, .slice none 0 0]) (t := 25) ?hr ?_; (case hd => rfl); (case hg => rfl); (case hr => first | (go_simp; done) | (go_simp; rfl)); intro g6 hg w6 hbox hb; have HB6 := Aside0.mk (below_step HB3.out hb); have G6 := Aside0.mk (show w.heap.size ≤ g6 by rw [hg]; exact below_size HB3.out); have D6 := Aside0.mk (show g3 ≠ g6 by rw [hg]; exact Nat.ne_of_lt (blk_lt B3.out)); have B36 := Aside0.mk (blk_below B3.out hb); have B66 := Aside0.mk hbox; clear hb hbox hg; have u0 := (blk_cell B36.out 0).trans rfl; have u1 := (blk_cell B36.out 1).trans rfl)
   | (go_at_call 22; (with_reducible refine (beacon_Check.calls K n A c Y 0 _ (Kd.C_below HR.out HB6.out) HC.out HK.out).mono ?_); rintro x_ ws ⟨rfl, hb⟩; have HB7 := Aside0.mk (below_step HB6.out hb); have B37 := Aside0.mk (blk_below B36.out hb); have B67 := Aside0.mk (blk_below B66.out hb); clear hb; have v0 := (blk_cell B37.out 0).trans rfl; have v1 := (blk_cell B37.out 1).trans rfl; have vf0 := blk_frozen B37.out 0; have vf1 := blk_frozen B37.out 1; have y0 := (blk_cell B67.out 0).trans rfl; have y1 := (blk_cell B67.out 1).trans rfl; have yf0 := blk_frozen B67.out 0; have yf1 := blk_frozen B67.out 1))
  refine bodyPost_ret (results_ct rfl _ _ g6 25 #[.int .i64 0, .slice none 0 0] (0, 0) _ rfl (blk_put (blk_put (B67.out) 0 (.int .i64 0) (cs' := #[.int .i64 0, .slice none 0 0]) rfl) 1 (.slice none 0 0) (cs' := #[.int .i64 0, .slice none 0 0]) rfl) Try.underlying25 rfl (by kernel_rfl)) rfl ?_
  exact ⟨_, rfl, Kd.R_nil _ _ _ _ _, below_set (below_set HB7.out G6.out) G6.out⟩
 ·have d1 : decide (id < 0) = false := decide_eq_false h1
  have d2 : decide (id ≥ 64) = true := decide_eq_true h2
  clear h1 h2
  go_enter Try.func14, Try.ntmps14
  go_wp2_with (first
   | ((with_reducible refine gate_dst (N := 3) rfl ?_); refine box_event ?hg (N := 3) ?hd (cs := #[.int .i64 n, .slice A Y.length c]) (t := 25) ?hr ?_; (case hd => rfl); (case hg => rfl); (case hr => first | (go_simp; done) | (go_simp; rfl)); intro g3 hg w3 hbox hb; have HB3 := Aside0.mk hb; have G3 := Aside0.mk (Nat.le_of_eq hg.symm); have B3 := Aside0.mk hbox; clear hb hbox hg)
   | ((with_reducible refine gate_dst (N := 6) rfl ?_); refine box_event ?hg (N := 6) ?hd (cs := #[.int .i64 0, .slice none 0 0]) (t := 25) ?hr ?_; (case hd => rfl); (case hg => rfl); (case hr => first | (go_simp; done) | (go_simp; rfl)); intro g6 hg w6 hbox hb; have HB6 := Aside0.mk (below_step HB3.out hb); have G6 := Aside0.mk (show w.heap.size ≤ g6 by rw [hg]; exact below_size HB3.out); have D6 := Aside0.mk (show g3 ≠ g6 by rw [hg]; exact Nat.ne_of_lt (blk_lt B3.out)); have B36 := Aside0.mk (blk_below B3.out hb); have B66 := Aside0.mk hbox; clear hb hbox hg; have u0 := (blk_cell B36.out 0).trans rfl; have u1 := (blk_cell B36.out 1).trans rfl)
   | (go_at_call 22; (with_reducible refine (beacon_Check.calls K n A c Y 0 _ (Kd.C_below HR.out HB6.out) HC.out HK.out).mono ?_); rintro x_ ws ⟨rfl, hb⟩; have HB7 := Aside0.mk (below_step HB6.out hb); have B37 := Aside0.mk (blk_below B36.out hb); have B67 := Aside0.mk (blk_below B66.out hb); clear hb; have v0 := (blk_cell B37.out 0).trans rfl; have v1 := (blk_cell B37.out 1).trans rfl; have vf0 := blk_frozen B37.out 0; have vf1 := blk_frozen B37.out 1; have y0 := (blk_cell B67.out 0).trans rfl; have y1 := (blk_cell B67.out 1).trans rfl; have yf0 := blk_frozen B67.out 0; have yf1 := blk_frozen B67.out 1))
  refine bodyPost_ret (results_ct rfl _ _ g6 25 #[.int .i64 0, .slice none 0 0] (0, 0) _ rfl (blk_put (blk_put (B67.out) 0 (.int .i64 0) (cs' := #[.int .i64 0, .slice none 0 0]) rfl) 1 (.slice none 0 0) (cs' := #[.int .i64 0, .slice none 0 0]) rfl) Try.underlying25 rfl (by kernel_rfl)) rfl ?_
  exact ⟨_, rfl, Kd.R_nil _ _ _ _ _, below_set (below_set HB7.out G6.out) G6.out⟩
theorem wi_no2 (n : Int) (A : Option Addr) (c : Nat) (Y : List S59) (id ep : Int) (w : World) (hr : k59.C w A Y.length Y) (hc : Y.length ≤ c) (K : Nat) (hK : beacon_Check.f K n Y = some 0) (h1 : ¬ id < 0) (h2 : ¬ id ≥ 64) (hE : beacon_epoch.f ep = some false) :
  Calls Try.prog 14 #[.agg #[.int .i64 n, .slice A Y.length c], .int .i64 id, .int .i64 ep] w fun e w' => ∃ v1_ : Value, e = .returned (.tuple #[.agg #[.int .i64 0, v1_], .int .i64 1]) ∧ k59.R 59 w' w.heap.size (fun _ => True) v1_ [] ∧ Below w.heap.size w w' := by
 have hu25 := Try.underlying25
 have HR := Aside0.mk hr
 have HC := Aside0.mk hc
 have HK := Aside0.mk hK
 have HE := Aside0.mk hE
 have d1 : decide (id < 0) = false := decide_eq_false h1
 have d2 : decide (id ≥ 64) = false := decide_eq_false h2
 clear hr hc hK h1 h2 hE
 go_enter Try.func14, Try.ntmps14
 go_wp2_with (first
  | ((with_reducible refine gate_dst (N := 3) rfl ?_); refine box_event ?hg (N := 3) ?hd (cs := #[.int .i64 n, .slice A Y.length c]) (t := 25) ?hr ?_; (case hd => rfl); (case hg => rfl); (case hr => first | (go_simp; done) | (go_simp; rfl)); intro g3 hg w3 hbox hb; have HB3 := Aside0.mk hb; have G3 := Aside0.mk (Nat.le_of_eq hg.symm); have B3 := Aside0.mk hbox; clear hb hbox hg)
  | ((with_reducible refine gate_dst (N := 6) rfl ?_); refine box_event ?hg (N := 6) ?hd (cs := #[.int .i64 0, .slice none 0 0]) (t := 25) ?hr ?_; (case hd => rfl); (case hg => rfl); (case hr => first | (go_simp; done) | (go_simp; rfl)); intro g6 hg w6 hbox hb; have HB6 := Aside0.mk (below_step HB3.out hb); have G6 := Aside0.mk (show w.heap.size ≤ g6 by rw [hg]; exact below_size HB3.out); have D6 := Aside0.mk (show g3 ≠ g6 by rw [hg]; exact Nat.ne_of_lt (blk_lt B3.out)); have B36 := Aside0.mk (blk_below B3.out hb); have B66 := Aside0.mk hbox; clear hb hbox hg; have u0 := (blk_cell B36.out 0).trans rfl; have u1 := (blk_cell B36.out 1).trans rfl)
  | (go_at_call 22; (with_reducible refine (beacon_Check.calls K n A c Y 0 _ (Kd.C_below HR.out HB6.out) HC.out HK.out).mono ?_); rintro x_ ws ⟨rfl, hb⟩; have HB7 := Aside0.mk (below_step HB6.out hb); have B37 := Aside0.mk (blk_below B36.out hb); have B67 := Aside0.mk (blk_below B66.out hb); clear hb; have v0 := (blk_cell B37.out 0).trans rfl; have v1 := (blk_cell B37.out 1).trans rfl; have vf0 := blk_frozen B37.out 0; have vf1 := blk_frozen B37.out 1; have y0 := (blk_cell B67.out 0).trans rfl; have y1 := (blk_cell B67.out 1).trans rfl; have yf0 := blk_frozen B67.out 0; have yf1 := blk_frozen B67.out 1)
  | (go_at_call 28; (with_reducible refine (beacon_epoch.calls ep _ _ HE.out).mono ?_); rintro x_ ws2 ⟨rfl, hd⟩; obtain ⟨nd, rfl⟩ := hd.out; clear hd))
 refine bodyPost_ret (results_ct rfl _ _ g6 25 #[.int .i64 0, .slice none 0 0] (0, 0) _ rfl (blk_put (blk_put ((B67.out : ws.heap[g6]? = _)) 0 (.int .i64 0) (cs' := #[.int .i64 0, .slice none 0 0]) rfl) 1 (.slice none 0 0) (cs' := #[.int .i64 0, .slice none 0 0]) rfl) Try.underlying25 rfl (by kernel_rfl)) rfl ?_
 exact ⟨_, rfl, Kd.R_nil _ _ _ _ _, below_set (below_set (pw_below_drewN HB7.out nd) G6.out) G6.out⟩
theorem R_some {w : World} {base : Nat} {ok : Nat → Prop} {v : Value} {X : List S59} (h : k59.R 59 w base ok v X) : ∃ A m c, v = .slice A m c := by
 obtain ⟨A, c, e, _⟩ := Kd.R_reads h
 exact ⟨A, _, c, e⟩
theorem wi_set (n : Int) (A : Option Addr) (c : Nat) (Y : List S59) (id ep : Int) (w : World) (hr : k59.C w A Y.length Y) (hc : Y.length ≤ c) (hl : Y.length ≤ 1000000000000) (K : Nat) (hK : beacon_Check.f K n Y = some 0) (h1 : ¬ id < 0) (h2 : ¬ id ≥ 64) (hE : beacon_epoch.f ep = some true) (k : Nat) (hP : beacon_place.f n Y id = some ((k : Int), true)) (hk : k < Y.length) :
  Calls Try.prog 14 #[.agg #[.int .i64 n, .slice A Y.length c], .int .i64 id, .int .i64 ep] w fun e w' => ∃ v1_ : Value, e = .returned (.tuple #[.agg #[.int .i64 n, v1_], .int .i64 0]) ∧ k59.R 59 w' w.heap.size (fun _ => True) v1_ (Y.set k ⟨(Y[k]).f0, ep⟩) ∧ Below w.heap.size w w' := by
 have hu25 := Try.underlying25
 have HR := Aside0.mk hr
 have HC := Aside0.mk hc
 have HK := Aside0.mk hK
 have HE := Aside0.mk hE
 have HCL := Aside0.mk hl
 have HP := Aside0.mk hP
 have HK2 := Aside0.mk hk
 have d1 : decide (id < 0) = false := decide_eq_false h1
 have d2 : decide (id ≥ 64) = false := decide_eq_false h2
 have p1 : (k : Int) < (Y.length : Int) := by omega
 clear hr hc hK h1 h2 hE hl hP
 go_enter Try.func14, Try.ntmps14
 go_wp2_with (first
  | ((with_reducible refine gate_dst (N := 3) rfl ?_); refine box_event ?hg (N := 3) ?hd (cs := #[.int .i64 n, .slice A Y.length c]) (t := 25) ?hr ?_; (case hd => rfl); (case hg => rfl); (case hr => first | (go_simp; done) | (go_simp; rfl)); intro g3 hg w3 hbox hb; have HB3 := Aside0.mk hb; have G3 := Aside0.mk (Nat.le_of_eq hg.symm); have B3 := Aside0.mk hbox; clear hb hbox hg)
  | ((with_reducible refine gate_dst (N := 6) rfl ?_); refine box_event ?hg (N := 6) ?hd (cs := #[.int .i64 0, .slice none 0 0]) (t := 25) ?hr ?_; (case hd => rfl); (case hg => rfl); (case hr => first | (go_simp; done) | (go_simp; rfl)); intro g6 hg w6 hbox hb; have HB6 := Aside0.mk (below_step HB3.out hb); have G6 := Aside0.mk (show w.heap.size ≤ g6 by rw [hg]; exact below_size HB3.out); have D6 := Aside0.mk (show g3 ≠ g6 by rw [hg]; exact Nat.ne_of_lt (blk_lt B3.out)); have B36 := Aside0.mk (blk_below B3.out hb); have B66 := Aside0.mk hbox; clear hb hbox hg; have u0 := (blk_cell B36.out 0).trans rfl; have u1 := (blk_cell B36.out 1).trans rfl)
  | (go_at_call 22; (with_reducible refine (beacon_Check.calls K n A c Y 0 _ (Kd.C_below HR.out HB6.out) HC.out HK.out).mono ?_); rintro x_ ws ⟨rfl, hb⟩; have HB7 := Aside0.mk (below_step HB6.out hb); have B37 := Aside0.mk (blk_below B36.out hb); have B67 := Aside0.mk (blk_below B66.out hb); clear hb; have v0 := (blk_cell B37.out 0).trans rfl; have v1 := (blk_cell B37.out 1).trans rfl; have vf0 := blk_frozen B37.out 0; have vf1 := blk_frozen B37.out 1; have y0 := (blk_cell B67.out 0).trans rfl; have y1 := (blk_cell B67.out 1).trans rfl; have yf0 := blk_frozen B67.out 0; have yf1 := blk_frozen B67.out 1)
  | (go_at_call 28; (with_reducible refine (beacon_epoch.calls ep _ _ HE.out).mono ?_); rintro x_ ws2 ⟨rfl, hd⟩; obtain ⟨nd, rfl⟩ := hd.out; clear hd)
  | (go_at_call 29; (with_reducible refine (slices_CloneE.calls A c Y Y _ (Kd.C_below HR.out (pw_below_drewN HB7.out nd)) (clone_f HCL.out)).mono ?_); rintro x_ w8 ⟨u5, rfl, ho, hb⟩; obtain ⟨g5, c5, rfl, _, _, _⟩ := Kd.R_form ho (Nat.lt_of_le_of_lt (Nat.zero_le k) HK2.out); have ST := Aside0.mk (WiSt.of (pw_below_drewN HB7.out nd) (blk_drewN B37.out nd) (blk_drewN B67.out nd) G3.out G6.out D6.out ho hb (u5 := .slice (some ⟨g5, 0, none⟩) Y.length c5)); clear hb ho; have v0 := (blk_cell ST.out.b3 0).trans rfl; have v1 := (blk_cell ST.out.b3 1).trans rfl; have vf1 := blk_frozen ST.out.b3 1; have ST1 := Aside0.mk ST.out.set1)
  | (go_at_call 30; (with_reducible refine (beacon_place.calls n (some ⟨g5, 0, none⟩) c5 Y id k true _ (Kd.R_reads' ST1.out.row).2.2 (Kd.R_reads' ST1.out.row).2.1 HP.out).mono ?_); rintro x_ w9 ⟨rfl, hb⟩; have ST2 := Aside0.mk (ST1.out.below hb); clear hb; obtain ⟨q0, q1, hq2, hq3⟩ := own_put1 ST2.out.row HK2.out ⟨(Y[k]'HK2.out).f0, ep⟩ rfl; have ST3 := Aside0.mk (ST2.out.app hq2 hq3); clear hq2 hq3; have x0 := (blk_cell ST2.out.b3 0).trans rfl; have x1 := (blk_cell ST2.out.b3 1).trans rfl; have y0 := (blk_cell ST2.out.b6 0).trans rfl; have y1 := (blk_cell ST2.out.b6 1).trans rfl; have yf0 := blk_frozen ST2.out.b6 0; have yf1 := blk_frozen ST2.out.b6 1; have n5 : ¬ (g3 = g5) := fun e => Kd.R_ne ST2.out.row ST2.out.b3 (by decide) (congrArg some e); have n65 : ¬ (g6 = g5) := fun e => Kd.R_ne ST2.out.row ST2.out.b6 (by decide) (congrArg some e)))
 refine bodyPost_ret (results_ct rfl _ _ g6 25 #[.int .i64 n, .slice (some ⟨g5, 0, none⟩) Y.length c5] (0, 0) _ rfl (blk_put (blk_put ST3.out.b6 0 (.int .i64 n) (cs' := #[.int .i64 n, .slice none 0 0]) rfl) 1 (.slice (some ⟨g5, 0, none⟩) Y.length c5) (cs' := #[.int .i64 n, .slice (some ⟨g5, 0, none⟩) Y.length c5]) rfl) Try.underlying25 rfl (by kernel_rfl)) rfl ?_
 exact ⟨_, rfl, Kd.R_mono (Kd.R_far (p := ⟨g6, 1, none⟩) (Kd.R_far (p := ⟨g6, 0, none⟩) (Kd.R_types ST3.out.row ST3.out.b6 (by decide)) (fun _ hk => hk.2) _) (fun _ hk => hk.2) _) (fun _ _ => trivial), below_set (below_set ST3.out.bl ST3.out.n6) ST3.out.n6⟩
theorem wi_ins (n : Int) (A : Option Addr) (c : Nat) (Y : List S59) (id ep : Int) (w : World) (hr : k59.C w A Y.length Y) (hc : Y.length ≤ c) (hl : Y.length ≤ 1000000000000) (K : Nat) (hK : beacon_Check.f K n Y = some 0) (h1 : ¬ id < 0) (h2 : ¬ id ≥ 64) (hE : beacon_epoch.f ep = some true) (k : Nat) (hP : beacon_place.f n Y id = some ((k : Int), false)) (hk : k ≤ Y.length) :
  Calls Try.prog 14 #[.agg #[.int .i64 n, .slice A Y.length c], .int .i64 id, .int .i64 ep] w fun e w' => ∃ v1_ : Value, e = .returned (.tuple #[.agg #[.int .i64 n, v1_], .int .i64 0]) ∧ k59.R 59 w' w.heap.size (fun _ => True) v1_ (Y.take k ++ ⟨id, ep⟩ :: Y.drop k) ∧ Below w.heap.size w w' := by
 have hu25 := Try.underlying25
 have HR := Aside0.mk hr
 have HC := Aside0.mk hc
 have HK := Aside0.mk hK
 have HE := Aside0.mk hE
 have HCL := Aside0.mk hl
 have HP := Aside0.mk hP
 have HK2 := Aside0.mk hk
 have d1 : decide (id < 0) = false := decide_eq_false h1
 have d2 : decide (id ≥ 64) = false := decide_eq_false h2
 clear hr hc hK h1 h2 hE hl hP hk
 go_enter Try.func14, Try.ntmps14
 go_wp2_with (first
  | ((with_reducible refine gate_dst (N := 3) rfl ?_); refine box_event ?hg (N := 3) ?hd (cs := #[.int .i64 n, .slice A Y.length c]) (t := 25) ?hr ?_; (case hd => rfl); (case hg => rfl); (case hr => first | (go_simp; done) | (go_simp; rfl)); intro g3 hg w3 hbox hb; have HB3 := Aside0.mk hb; have G3 := Aside0.mk (Nat.le_of_eq hg.symm); have B3 := Aside0.mk hbox; clear hb hbox hg)
  | ((with_reducible refine gate_dst (N := 6) rfl ?_); refine box_event ?hg (N := 6) ?hd (cs := #[.int .i64 0, .slice none 0 0]) (t := 25) ?hr ?_; (case hd => rfl); (case hg => rfl); (case hr => first | (go_simp; done) | (go_simp; rfl)); intro g6 hg w6 hbox hb; have HB6 := Aside0.mk (below_step HB3.out hb); have G6 := Aside0.mk (show w.heap.size ≤ g6 by rw [hg]; exact below_size HB3.out); have D6 := Aside0.mk (show g3 ≠ g6 by rw [hg]; exact Nat.ne_of_lt (blk_lt B3.out)); have B36 := Aside0.mk (blk_below B3.out hb); have B66 := Aside0.mk hbox; clear hb hbox hg; have u0 := (blk_cell B36.out 0).trans rfl; have u1 := (blk_cell B36.out 1).trans rfl)
  | (go_at_call 22; (with_reducible refine (beacon_Check.calls K n A c Y 0 _ (Kd.C_below HR.out HB6.out) HC.out HK.out).mono ?_); rintro x_ ws ⟨rfl, hb⟩; have HB7 := Aside0.mk (below_step HB6.out hb); have B37 := Aside0.mk (blk_below B36.out hb); have B67 := Aside0.mk (blk_below B66.out hb); clear hb; have v0 := (blk_cell B37.out 0).trans rfl; have v1 := (blk_cell B37.out 1).trans rfl; have vf0 := blk_frozen B37.out 0; have vf1 := blk_frozen B37.out 1; have y0 := (blk_cell B67.out 0).trans rfl; have y1 := (blk_cell B67.out 1).trans rfl; have yf0 := blk_frozen B67.out 0; have yf1 := blk_frozen B67.out 1)
  | (go_at_call 28; (with_reducible refine (beacon_epoch.calls ep _ _ HE.out).mono ?_); rintro x_ ws2 ⟨rfl, hd⟩; obtain ⟨nd, rfl⟩ := hd.out; clear hd)
  | (go_at_call 29; (with_reducible refine (slices_CloneE.calls A c Y Y _ (Kd.C_below HR.out (pw_below_drewN HB7.out nd)) (clone_f HCL.out)).mono ?_); rintro x_ w8 ⟨u5, rfl, ho, hb⟩; obtain ⟨A5, c5, rfl, _, _⟩ := Kd.R_reads ho; have ST := Aside0.mk (WiSt.of (pw_below_drewN HB7.out nd) (blk_drewN B37.out nd) (blk_drewN B67.out nd) G3.out G6.out D6.out ho hb (u5 := .slice A5 Y.length c5)); clear hb ho; have v0 := (blk_cell ST.out.b3 0).trans rfl; have v1 := (blk_cell ST.out.b3 1).trans rfl; have vf1 := blk_frozen ST.out.b3 1; have ST1 := Aside0.mk ST.out.set1)
  | (go_at_call 30; (with_reducible refine (beacon_place.calls n A5 c5 Y id k false _ (Kd.R_reads' ST1.out.row).2.2 (Kd.R_reads' ST1.out.row).2.1 HP.out).mono ?_); rintro x_ w9 ⟨rfl, hb⟩; have ST2 := Aside0.mk (ST1.out.below hb); clear hb; have x0 := (blk_cell ST2.out.b3 0).trans rfl; have x1 := (blk_cell ST2.out.b3 1).trans rfl)
  | ((with_reducible refine gate_dst (N := 52) rfl ?_); refine lit1_event ?hg (N := 52) ?hd (cs := #[.int .i64 id, .int .i64 ep]) (t := 59) (n := 1) ?hr ?_; (case hd => rfl); (case hg => rfl); (case hr => first | (go_simp; done) | (go_simp; rfl)); intro g52 hg w52 hbox hb; have NE52 := Aside0.mk (show some g52 ≠ (Value.slice A5 Y.length c5).ownBlock by rw [hg]; exact Kd.R_ne_new ST2.out.row 0); have B52 := Aside0.mk hbox; have ST3 := Aside0.mk (ST2.out.below hb); clear hb hbox hg)
  | (go_at_call 31; (with_reducible refine (ins_ab A5 c5 k Y id ep g52 w52 w.heap.size ST3.out.row (below_size ST3.out.bl) B52.out NE52.out HCL.out HK2.out).mono ?_); rintro x_ w10 ⟨u6, rfl, ho, hg, _⟩; obtain ⟨A6, m6, c6, rfl⟩ := R_some ho; have ST4 := Aside0.mk (ST3.out.app ho hg); clear ho hg; have x0 := (blk_cell ST4.out.b3 0).trans rfl; have x1 := (blk_cell ST4.out.b3 1).trans rfl; have xf1 := blk_frozen ST4.out.b3 1; have y0 := (blk_cell ST4.out.b6 0).trans rfl; have y1 := (blk_cell ST4.out.b6 1).trans rfl; have yf0 := blk_frozen ST4.out.b6 0; have yf1 := blk_frozen ST4.out.b6 1; have n63 : ¬ (g6 = g3) := fun e => ST4.out.d e.symm; have ST5 := Aside0.mk ST4.out.set1))
 refine bodyPost_ret (results_ct rfl _ _ g6 25 #[.int .i64 n, (.slice A6 m6 c6)] (0, 0) _ rfl (blk_put (blk_put ST5.out.b6 0 (.int .i64 n) (cs' := #[.int .i64 n, .slice none 0 0]) rfl) 1 (.slice A6 m6 c6) (cs' := #[.int .i64 n, (.slice A6 m6 c6)]) rfl) Try.underlying25 rfl (by kernel_rfl)) rfl ?_
 exact ⟨_, rfl, Kd.R_mono (Kd.R_far (p := ⟨g6, 1, none⟩) (Kd.R_far (p := ⟨g6, 0, none⟩) (Kd.R_types ST5.out.row ST5.out.b6 (by decide)) (fun _ hk => hk.2) _) (fun _ hk => hk.2) _) (fun _ _ => trivial), below_set (below_set ST5.out.bl ST5.out.n6) ST5.out.n6⟩
def beacon_With.f (n : Int) (Y : List S59) (id ep : Int) : Option (Int × List S59 × Int) := if Y.length ≤ 1000000000000 then (if rbB n Y = true ∧ 0 ≤ id ∧ id < 64 ∧ 0 ≤ ep ∧ ep ≤ 4294967295 then some (n, withL Y id ep, 0) else some (0, [], 1)) else none
open Classical in
theorem beacon_With.calls (a0_0 : Int) (A0_1 : Option Addr) (c0_1 : Nat) (l0_1 : List S59) (a1 a2 r1 : Int) (r2 : List S59) (r3 : Int) (w : World) (hr0_1 : Kd.C k59 w A0_1 l0_1.length l0_1) (hc0_1 : l0_1.length ≤ c0_1) (h : beacon_With.f a0_0 l0_1 a1 a2 = some (r1, r2, r3)) :
  Calls Try.prog 14 #[.agg #[.int .i64 a0_0, .slice A0_1 l0_1.length c0_1], .int .i64 a1, .int .i64 a2] w fun e w' => ∃ v1_ : Value, e = .returned (.tuple #[.agg #[.int .i64 r1, v1_], .int .i64 r3]) ∧ Kd.R k59 59 w' w.heap.size (fun _ => True) v1_ r2 ∧ Below w.heap.size w w' := by
 unfold beacon_With.f at h
 split at h
 ·rename_i hl
  obtain ⟨K, hK⟩ := bncheck_ev a0_0 l0_1 hl
  have hK0 := hK K (Nat.le_refl _)
  by_cases hR : RBn a0_0 l0_1
  ·rw [if_pos hR] at hK0
   split at h
   ·rename_i hc
    obtain ⟨_, h1, h2, h3, h4⟩ := hc
    simp only [Option.some.injEq, Prod.mk.injEq] at h
    obtain ⟨rfl, rfl, rfl⟩ := h
    have hE : beacon_epoch.f a2 = some true := (bepoch_eq a2).trans (congrArg some (decide_eq_true ⟨h3, h4⟩))
    obtain ⟨p0, p1⟩ := bsAt_range l0_1 a1
    obtain ⟨k, hk⟩ := Int.eq_ofNat_of_zero_le p0
    have hP : beacon_place.f a0_0 l0_1 a1 = some ((k : Int), isAt l0_1 a1) := by
     unfold beacon_place.f isAt
     rw [if_pos hl, hk]
    by_cases hq : isAt l0_1 a1 = true
    ·rw [hq] at hP
     have hk2 : k < l0_1.length := by
      unfold isAt at hq
      simp only [Bool.and_eq_true, decide_eq_true_eq] at hq
      omega
     have e : withL l0_1 a1 a2 = l0_1.set k ⟨(l0_1[k]).f0, a2⟩ := by
      unfold withL
      rw [if_pos hq, hk, Int.toNat_natCast]
      unfold rd_T59
      rw [Int.toNat_natCast, List.getD_eq_getElem?_getD, List.getElem?_eq_getElem hk2]
      rfl
     rw [e]
     exact wi_set a0_0 A0_1 c0_1 l0_1 a1 a2 w hr0_1 hc0_1 hl K hK0 (by omega) (by omega) hE k hP hk2
    ·rw [show isAt l0_1 a1 = false by simpa using hq] at hP
     have e : withL l0_1 a1 a2 = l0_1.take k ++ ⟨a1, a2⟩ :: l0_1.drop k := by
      unfold withL
      rw [if_neg hq, hk, Int.toNat_natCast]
     rw [e]
     exact wi_ins a0_0 A0_1 c0_1 l0_1 a1 a2 w hr0_1 hc0_1 hl K hK0 (by omega) (by omega) hE k hP (by omega)
   ·rename_i hc
    simp only [Option.some.injEq, Prod.mk.injEq] at h
    obtain ⟨rfl, rfl, rfl⟩ := h
    by_cases h1 : a1 < 0
    ·exact wi_no a0_0 A0_1 c0_1 l0_1 a1 a2 w hr0_1 hc0_1 K hK0 (.inl h1)
    ·by_cases h2 : a1 ≥ 64
     ·exact wi_no a0_0 A0_1 c0_1 l0_1 a1 a2 w hr0_1 hc0_1 K hK0 (.inr ⟨h1, h2⟩)
     ·have hE : beacon_epoch.f a2 = some false := (bepoch_eq a2).trans (congrArg some (decide_eq_false (fun hh => hc ⟨(rbB_iff _ _).2 hR, by omega, by omega, hh.1, hh.2⟩)))
      exact wi_no2 a0_0 A0_1 c0_1 l0_1 a1 a2 w hr0_1 hc0_1 K hK0 h1 h2 hE
  ·rw [if_neg hR] at hK0
   rw [if_neg (fun hc => hR ((rbB_iff _ _).1 hc.1))] at h
   simp only [Option.some.injEq, Prod.mk.injEq] at h
   obtain ⟨rfl, rfl, rfl⟩ := h
   exact wi_bad a0_0 A0_1 c0_1 l0_1 a1 a2 w hr0_1 hc0_1 K hK0
 ·exact absurd h (by simp)
theorem wo_bad (n : Int) (A : Option Addr) (c : Nat) (Y : List S59) (id : Int) (w : World) (hr : k59.C w A Y.length Y) (hc : Y.length ≤ c) (K : Nat) (hK : beacon_Check.f K n Y = some 1) :
  Calls Try.prog 20 #[.agg #[.int .i64 n, .slice A Y.length c], .int .i64 id] w fun e w' => ∃ v1_ : Value, e = .returned (.tuple #[.agg #[.int .i64 0, v1_], .int .i64 1]) ∧ k59.R 59 w' w.heap.size (fun _ => True) v1_ [] ∧ Below w.heap.size w w' := by
 have hu25 := Try.underlying25
 have HR := Aside0.mk hr
 have HC := Aside0.mk hc
 have HK := Aside0.mk hK
 clear hr hc hK
 go_enter Try.func20, Try.ntmps20
 go_wp2_with (first
  | ((with_reducible refine gate_dst (N := 2) rfl ?_); refine box_event ?hg (N := 2) ?hd (cs := #[.int .i64 n, .slice A Y.length c]) (t := 25) ?hr ?_; (case hd => rfl); (case hg => rfl); (case hr => first | (go_simp; done) | (go_simp; rfl)); intro g3 hg w3 hbox hb; have HB3 := Aside0.mk hb; have G3 := Aside0.mk (Nat.le_of_eq hg.symm); have B3 := Aside0.mk hbox; clear hb hbox hg)
  | ((with_reducible refine gate_dst (N := 4) rfl ?_); refine box_event ?hg (N := 4) ?hd (cs := #[.int .i64 0, .slice none 0 0]) (t := 25) ?hr ?_; (case hd => rfl); (case hg => rfl); (case hr => first | (go_simp; done) | (go_simp; rfl)); intro g6 hg w6 hbox hb; have HB6 := Aside0.mk (below_step HB3.out hb); have G6 := Aside0.mk (show w.heap.size ≤ g6 by rw [hg]; exact below_size HB3.out); have D6 := Aside0.mk (show g3 ≠ g6 by rw [hg]; exact Nat.ne_of_lt (blk_lt B3.out)); have B36 := Aside0.mk (blk_below B3.out hb); have B66 := Aside0.mk hbox; clear hb hbox hg; have u0 := (blk_cell B36.out 0).trans rfl; have u1 := (blk_cell B36.out 1).trans rfl)
  | (go_at_call 22; (with_reducible refine (beacon_Check.calls K n A c Y 1 _ (Kd.C_below HR.out HB6.out) HC.out HK.out).mono ?_); rintro x_ ws ⟨rfl, hb⟩; have HB7 := Aside0.mk (below_step HB6.out hb); have B37 := Aside0.mk (blk_below B36.out hb); have B67 := Aside0.mk (blk_below B66.out hb); clear hb; have v0 := (blk_cell B37.out 0).trans rfl; have v1 := (blk_cell B37.out 1).trans rfl; have vf0 := blk_frozen B37.out 0; have vf1 := blk_frozen B37.out 1; have y0 := (blk_cell B67.out 0).trans rfl; have y1 := (blk_cell B67.out 1).trans rfl; have yf0 := blk_frozen B67.out 0; have yf1 := blk_frozen B67.out 1))
 refine bodyPost_ret (results_ct rfl _ _ g6 25 #[.int .i64 0, .slice none 0 0] (0, 0) _ rfl (blk_put (blk_put (B67.out) 0 (.int .i64 0) (cs' := #[.int .i64 0, .slice none 0 0]) rfl) 1 (.slice none 0 0) (cs' := #[.int .i64 0, .slice none 0 0]) rfl) Try.underlying25 rfl (by kernel_rfl)) rfl ?_
 exact ⟨_, rfl, Kd.R_nil _ _ _ _ _, below_set (below_set HB7.out G6.out) G6.out⟩
theorem wo_no (n : Int) (A : Option Addr) (c : Nat) (Y : List S59) (id : Int) (w : World) (hr : k59.C w A Y.length Y) (hc : Y.length ≤ c) (K : Nat) (hK : beacon_Check.f K n Y = some 0) (k : Nat) (hP : beacon_place.f n Y id = some ((k : Int), false)) :
  Calls Try.prog 20 #[.agg #[.int .i64 n, .slice A Y.length c], .int .i64 id] w fun e w' => ∃ v1_ : Value, e = .returned (.tuple #[.agg #[.int .i64 0, v1_], .int .i64 7]) ∧ k59.R 59 w' w.heap.size (fun _ => True) v1_ [] ∧ Below w.heap.size w w' := by
 have hu25 := Try.underlying25
 have HR := Aside0.mk hr
 have HC := Aside0.mk hc
 have HK := Aside0.mk hK
 have HP := Aside0.mk hP
 clear hr hc hK hP
 go_enter Try.func20, Try.ntmps20
 go_wp2_with (first
  | ((with_reducible refine gate_dst (N := 2) rfl ?_); refine box_event ?hg (N := 2) ?hd (cs := #[.int .i64 n, .slice A Y.length c]) (t := 25) ?hr ?_; (case hd => rfl); (case hg => rfl); (case hr => first | (go_simp; done) | (go_simp; rfl)); intro g3 hg w3 hbox hb; have HB3 := Aside0.mk hb; have G3 := Aside0.mk (Nat.le_of_eq hg.symm); have B3 := Aside0.mk hbox; clear hb hbox hg)
  | ((with_reducible refine gate_dst (N := 4) rfl ?_); refine box_event ?hg (N := 4) ?hd (cs := #[.int .i64 0, .slice none 0 0]) (t := 25) ?hr ?_; (case hd => rfl); (case hg => rfl); (case hr => first | (go_simp; done) | (go_simp; rfl)); intro g6 hg w6 hbox hb; have HB6 := Aside0.mk (below_step HB3.out hb); have G6 := Aside0.mk (show w.heap.size ≤ g6 by rw [hg]; exact below_size HB3.out); have D6 := Aside0.mk (show g3 ≠ g6 by rw [hg]; exact Nat.ne_of_lt (blk_lt B3.out)); have B36 := Aside0.mk (blk_below B3.out hb); have B66 := Aside0.mk hbox; clear hb hbox hg; have u0 := (blk_cell B36.out 0).trans rfl; have u1 := (blk_cell B36.out 1).trans rfl)
  | (go_at_call 22; (with_reducible refine (beacon_Check.calls K n A c Y 0 _ (Kd.C_below HR.out HB6.out) HC.out HK.out).mono ?_); rintro x_ ws ⟨rfl, hb⟩; have HB7 := Aside0.mk (below_step HB6.out hb); have B37 := Aside0.mk (blk_below B36.out hb); have B67 := Aside0.mk (blk_below B66.out hb); clear hb; have v0 := (blk_cell B37.out 0).trans rfl; have v1 := (blk_cell B37.out 1).trans rfl; have vf0 := blk_frozen B37.out 0; have vf1 := blk_frozen B37.out 1; have y0 := (blk_cell B67.out 0).trans rfl; have y1 := (blk_cell B67.out 1).trans rfl; have yf0 := blk_frozen B67.out 0; have yf1 := blk_frozen B67.out 1)
  | (go_at_call 30; (with_reducible refine (beacon_place.calls n A c Y id k false _ (Kd.C_below HR.out HB7.out) HC.out HP.out).mono ?_); rintro x_ w9 ⟨rfl, hb⟩; have HB9 := Aside0.mk (below_step HB7.out hb); have B39 := Aside0.mk (blk_below B37.out hb); have B69 := Aside0.mk (blk_below B67.out hb); clear hb; have w0 := (blk_cell B39.out 0).trans rfl; have w1 := (blk_cell B39.out 1).trans rfl; have y0 := (blk_cell B69.out 0).trans rfl; have y1 := (blk_cell B69.out 1).trans rfl; have yf0 := blk_frozen B69.out 0; have yf1 := blk_frozen B69.out 1))
 refine bodyPost_ret (results_ct rfl _ _ g6 25 #[.int .i64 0, .slice none 0 0] (0, 0) _ rfl (blk_put (blk_put (B69.out) 0 (.int .i64 0) (cs' := #[.int .i64 0, .slice none 0 0]) rfl) 1 (.slice none 0 0) (cs' := #[.int .i64 0, .slice none 0 0]) rfl) Try.underlying25 rfl (by kernel_rfl)) rfl ?_
 exact ⟨_, rfl, Kd.R_nil _ _ _ _ _, below_set (below_set HB9.out G6.out) G6.out⟩
theorem wo_yes (n : Int) (A : Option Addr) (c : Nat) (Y : List S59) (id : Int) (w : World) (hr : k59.C w A Y.length Y) (hc : Y.length ≤ c) (hl : Y.length ≤ 1000000000000) (K : Nat) (hK : beacon_Check.f K n Y = some 0) (k : Nat) (hP : beacon_place.f n Y id = some ((k : Int), true)) (hk : k < Y.length) :
  Calls Try.prog 20 #[.agg #[.int .i64 n, .slice A Y.length c], .int .i64 id] w fun e w' => ∃ v1_ : Value, e = .returned (.tuple #[.agg #[.int .i64 n, v1_], .int .i64 0]) ∧ k59.R 59 w' w.heap.size (fun _ => True) v1_ (Y.eraseIdx k) ∧ Below w.heap.size w w' := by
 have hu25 := Try.underlying25
 have HR := Aside0.mk hr
 have HC := Aside0.mk hc
 have HK := Aside0.mk hK
 have HP := Aside0.mk hP
 have HCL := Aside0.mk hl
 have HK2 := Aside0.mk hk
 have p1 : (k : Int) < (Y.length : Int) := by omega
 have p2 : (Y.length : Int) ≤ 1000000000000 := by omega
 clear hr hc hK hP hl
 go_enter Try.func20, Try.ntmps20
 go_wp2_with (first
  | ((with_reducible refine gate_dst (N := 2) rfl ?_); refine box_event ?hg (N := 2) ?hd (cs := #[.int .i64 n, .slice A Y.length c]) (t := 25) ?hr ?_; (case hd => rfl); (case hg => rfl); (case hr => first | (go_simp; done) | (go_simp; rfl)); intro g3 hg w3 hbox hb; have HB3 := Aside0.mk hb; have G3 := Aside0.mk (Nat.le_of_eq hg.symm); have B3 := Aside0.mk hbox; clear hb hbox hg)
  | ((with_reducible refine gate_dst (N := 4) rfl ?_); refine box_event ?hg (N := 4) ?hd (cs := #[.int .i64 0, .slice none 0 0]) (t := 25) ?hr ?_; (case hd => rfl); (case hg => rfl); (case hr => first | (go_simp; done) | (go_simp; rfl)); intro g6 hg w6 hbox hb; have HB6 := Aside0.mk (below_step HB3.out hb); have G6 := Aside0.mk (show w.heap.size ≤ g6 by rw [hg]; exact below_size HB3.out); have D6 := Aside0.mk (show g3 ≠ g6 by rw [hg]; exact Nat.ne_of_lt (blk_lt B3.out)); have B36 := Aside0.mk (blk_below B3.out hb); have B66 := Aside0.mk hbox; clear hb hbox hg; have u0 := (blk_cell B36.out 0).trans rfl; have u1 := (blk_cell B36.out 1).trans rfl)
  | (go_at_call 22; (with_reducible refine (beacon_Check.calls K n A c Y 0 _ (Kd.C_below HR.out HB6.out) HC.out HK.out).mono ?_); rintro x_ ws ⟨rfl, hb⟩; have HB7 := Aside0.mk (below_step HB6.out hb); have B37 := Aside0.mk (blk_below B36.out hb); have B67 := Aside0.mk (blk_below B66.out hb); clear hb; have v0 := (blk_cell B37.out 0).trans rfl; have v1 := (blk_cell B37.out 1).trans rfl; have vf0 := blk_frozen B37.out 0; have vf1 := blk_frozen B37.out 1; have y0 := (blk_cell B67.out 0).trans rfl; have y1 := (blk_cell B67.out 1).trans rfl; have yf0 := blk_frozen B67.out 0; have yf1 := blk_frozen B67.out 1)
  | (go_at_call 30; (with_reducible refine (beacon_place.calls n A c Y id k true _ (Kd.C_below HR.out HB7.out) HC.out HP.out).mono ?_); rintro x_ w9 ⟨rfl, hb⟩; have HB9 := Aside0.mk (below_step HB7.out hb); have B39 := Aside0.mk (blk_below B37.out hb); have B69 := Aside0.mk (blk_below B67.out hb); clear hb; have w0 := (blk_cell B39.out 0).trans rfl; have w1 := (blk_cell B39.out 1).trans rfl; have y0 := (blk_cell B69.out 0).trans rfl; have y1 := (blk_cell B69.out 1).trans rfl; have yf0 := blk_frozen B69.out 0; have yf1 := blk_frozen B69.out 1)
  | (go_at_call 29; (with_reducible refine (slices_CloneE.calls A c Y Y _ (Kd.C_below HR.out HB9.out) (clone_f HCL.out)).mono ?_); rintro x_ w8 ⟨u5, rfl, ho, hb⟩; obtain ⟨g5, c5, rfl, _, _, _⟩ := Kd.R_form ho (Nat.lt_of_le_of_lt (Nat.zero_le k) HK2.out); have ST := Aside0.mk (WiSt.of HB9.out B39.out B69.out G3.out G6.out D6.out ho hb (u5 := .slice (some ⟨g5, 0, none⟩) Y.length c5)); clear hb ho)
  | (go_at_call 35; (with_reducible refine (del_any g5 c5 k Y w8 w.heap.size ST.out.row (below_size ST.out.bl) HCL.out HK2.out).mono ?_); rintro x_ w10 ⟨rfl, ho, hg⟩; have ST4 := Aside0.mk (ST.out.app ho hg); clear ho hg; have x0 := (blk_cell ST4.out.b3 0).trans rfl; have x1 := (blk_cell ST4.out.b3 1).trans rfl; have xf1 := blk_frozen ST4.out.b3 1; have y0 := (blk_cell ST4.out.b6 0).trans rfl; have y1 := (blk_cell ST4.out.b6 1).trans rfl; have yf0 := blk_frozen ST4.out.b6 0; have yf1 := blk_frozen ST4.out.b6 1; have n63 : ¬ (g6 = g3) := fun e => ST4.out.d e.symm; have ST5 := Aside0.mk ST4.out.set1))
 refine bodyPost_ret (results_ct rfl _ _ g6 25 #[.int .i64 n, .slice (some ⟨g5, 0, none⟩) (Y.length - 1) c5] (0, 0) _ rfl (blk_put (blk_put ST5.out.b6 0 (.int .i64 n) (cs' := #[.int .i64 n, .slice none 0 0]) rfl) 1 (.slice (some ⟨g5, 0, none⟩) (Y.length - 1) c5) (cs' := #[.int .i64 n, .slice (some ⟨g5, 0, none⟩) (Y.length - 1) c5]) rfl) Try.underlying25 rfl (by kernel_rfl)) rfl ?_
 exact ⟨_, rfl, Kd.R_mono (Kd.R_far (p := ⟨g6, 1, none⟩) (Kd.R_far (p := ⟨g6, 0, none⟩) (Kd.R_types ST5.out.row ST5.out.b6 (by decide)) (fun _ hk => hk.2) _) (fun _ hk => hk.2) _) (fun _ _ => trivial), below_set (below_set ST5.out.bl ST5.out.n6) ST5.out.n6⟩
def withoutL (Y : List S59) (id : Int) : List S59 := Y.eraseIdx (bsAt Y id).toNat
def beacon_Without.f (n : Int) (Y : List S59) (id : Int) : Option (Int × List S59 × Int) := if Y.length ≤ 1000000000000 then (if rbB n Y = true then (if isAt Y id = true then some (n, withoutL Y id, 0) else some (0, [], 7)) else some (0, [], 1)) else none
theorem beacon_Without.calls (a0_0 : Int) (A0_1 : Option Addr) (c0_1 : Nat) (l0_1 : List S59) (a1 r1 : Int) (r2 : List S59) (r3 : Int) (w : World) (hr0_1 : Kd.C k59 w A0_1 l0_1.length l0_1) (hc0_1 : l0_1.length ≤ c0_1) (h : beacon_Without.f a0_0 l0_1 a1 = some (r1, r2, r3)) :
  Calls Try.prog 20 #[.agg #[.int .i64 a0_0, .slice A0_1 l0_1.length c0_1], .int .i64 a1] w fun e w' => ∃ v1_ : Value, e = .returned (.tuple #[.agg #[.int .i64 r1, v1_], .int .i64 r3]) ∧ Kd.R k59 59 w' w.heap.size (fun _ => True) v1_ r2 ∧ Below w.heap.size w w' := by
 unfold beacon_Without.f at h
 split at h
 ·rename_i hl
  obtain ⟨K, hK⟩ := bncheck_ev a0_0 l0_1 hl
  have hK0 := hK K (Nat.le_refl _)
  by_cases hR : RBn a0_0 l0_1
  ·rw [if_pos hR] at hK0
   rw [if_pos ((rbB_iff _ _).2 hR)] at h
   obtain ⟨p0, p1⟩ := bsAt_range l0_1 a1
   obtain ⟨k, hk⟩ := Int.eq_ofNat_of_zero_le p0
   have hP : beacon_place.f a0_0 l0_1 a1 = some ((k : Int), isAt l0_1 a1) := by
    unfold beacon_place.f isAt
    rw [if_pos hl, hk]
   by_cases hq : isAt l0_1 a1 = true
   ·rw [hq] at hP
    rw [if_pos hq] at h
    simp only [Option.some.injEq, Prod.mk.injEq] at h
    obtain ⟨rfl, rfl, rfl⟩ := h
    have hk2 : k < l0_1.length := by
     unfold isAt at hq
     simp only [Bool.and_eq_true, decide_eq_true_eq] at hq
     omega
    have e : withoutL l0_1 a1 = l0_1.eraseIdx k := by unfold withoutL; rw [hk, Int.toNat_natCast]
    rw [e]
    exact wo_yes a0_0 A0_1 c0_1 l0_1 a1 w hr0_1 hc0_1 hl K hK0 k hP hk2
   ·rw [show isAt l0_1 a1 = false by simpa using hq] at hP
    rw [if_neg hq] at h
    simp only [Option.some.injEq, Prod.mk.injEq] at h
    obtain ⟨rfl, rfl, rfl⟩ := h
    exact wo_no a0_0 A0_1 c0_1 l0_1 a1 w hr0_1 hc0_1 K hK0 k hP
  ·rw [if_neg hR] at hK0
   rw [if_neg (fun hc => hR ((rbB_iff _ _).1 hc))] at h
   simp only [Option.some.injEq, Prod.mk.injEq] at h
   obtain ⟨rfl, rfl, rfl⟩ := h
   exact wo_bad a0_0 A0_1 c0_1 l0_1 a1 w hr0_1 hc0_1 K hK0
 ·exact absurd h (by simp)
end Go.Proofs.Ytaiklcpmlkpfjaa.P
