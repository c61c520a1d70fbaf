/- The statement SenderDoes, proved of the given program; it has no conditions. (Of many texts laid together) -/
import Derived.Deep.CutBlock
import Derived.Laws.CopyOwn
import Derived.Test.YtclbempnhelmoaaXSenderDoesWWords
import Derived.Test.YtclbempnhelmoaaXSenderDoesWMore
import Derived.ProofKit
import Derived.OpenShut
import Derived.ChangeSame
import Derived.ChangeOld
import Derived.Deep.Slices
import Derived.Deep.Fields
import Derived.Test.YtclbempnhelmoaaRows
import Derived.WalkKit
import Derived.ShutString
import Derived.Below
import Derived.SizedLaws
import Derived.Test.YtclbempnhelmoaaXSenderDoesa
import Derived.Test.YtclbempnhelmoaaXSenderDoesb
import Derived.Test.YtclbempnhelmoaaXSenderDoesc
import Derived.Test.YtclbempnhelmoaaXSenderDoesd
set_option linter.unusedVariables false
set_option linter.unusedSimpArgs false
set_option maxHeartbeats 8000000
set_option maxRecDepth 100000
namespace Go.Proofs.Ytclbempnhelmoaa.P
open Go.RowKit YtclbempnhelmoaaW.PrintWords YtclbempnhelmoaaW.PrintLast YtclbempnhelmoaaW.PrintMore
open Classical
theorem none_below {w w' : World} (h : w.grownBy w' (Value.slice none 0 0).ownBlock) : Below w.heap.size w w' := ⟨h.os, h.tape, h.output, h.size, fun k hk => h.block k hk (by simp [Value.ownBlock])⟩
def bumpI (C : List Int) (i : Nat) : List Int := (C.take i).map (fun c => c + 1) ++ C.drop i
theorem bumpI_len (C : List Int) (i : Nat) : (bumpI C i).length = C.length := by
 unfold bumpI
 rw [List.length_append, List.length_map, List.length_take, List.length_drop]
 omega
theorem bumpI_rd (C : List Int) (i : Int) (h0 : 0 ≤ i) (h : i < C.length) : rd (bumpI C i.toNat) i = rd C i := by
 have hi : i.toNat < C.length := by omega
 have hl : ((C.take i.toNat).map fun c => c + 1).length = i.toNat := by rw [List.length_map, List.length_take]; omega
 unfold rd bumpI
 rw [List.getD_eq_getElem?_getD, List.getD_eq_getElem?_getD, List.getElem?_append_right (by omega), hl, Nat.sub_self, List.getElem?_drop]
 rfl
theorem bumpI_set (C : List Int) (i : Int) (h0 : 0 ≤ i) (h : i < C.length) : (bumpI C i.toNat).set i.toNat (rd C i + 1) = bumpI C (i.toNat + 1) := by
 have hi : i.toNat < C.length := by omega
 have hl : ((C.take i.toNat).map fun c => c + 1).length = i.toNat := by rw [List.length_map, List.length_take]; omega
 have hr : rd C i = C[i.toNat] := by
  unfold rd
  rw [List.getD_eq_getElem?_getD, List.getElem?_eq_getElem hi]
  rfl
 unfold bumpI
 rw [List.set_append_right _ _ (by omega), hl, Nat.sub_self, List.drop_eq_getElem_cons hi, List.set_cons_zero, List.take_succ_eq_append_getElem hi, List.map_append, List.append_assoc, hr]
 rfl
theorem bumpI_all (C : List Int) (i : Nat) (h : i = C.length) : bumpI C i = C.map (fun c => c + 1) := by
 subst h
 unfold bumpI
 rw [List.take_length, List.drop_length, List.append_nil]
theorem Rx.setC {w0 w : World} {G : Nat → Prop} {x : Nat} {wn tr nx : Int} {W : List S34} {O : List S48} {C : List Int} {vW vO : Value} {gC n cC : Nat} (h : Rx w0 w G x wn tr W O C nx vW vO (.slice (some ⟨gC, 0, none⟩) n cC)) (i v : Int) :
  Rx w0 (w.setCell ⟨gC, i.toNat, none⟩ (.int .i64 v)) G x wn tr W O (C.set i.toNat v) nx vW vO (.slice (some ⟨gC, 0, none⟩) n cC) ∧ SX w G (Wx x vW vO (.slice (some ⟨gC, 0, none⟩) n cC)) (w.setCell ⟨gC, i.toNat, none⟩ (.int .i64 v)) G (Wx x vW vO (.slice (some ⟨gC, 0, none⟩) n cC)) := by
 have hc := h.rC.1 gC (by simp [Value.ownBlock])
 have hx : x ≠ gC := fun e => hc.2.1 e.symm
 refine ⟨⟨h.bl.setCell (Kd.R_base h.rC gC (by simp [Value.ownBlock])) _, (Below.heap_setCell w ⟨gC, i.toNat, none⟩ _ x hx).trans h.blk, h.new, fun k hk => Nat.lt_of_lt_of_le (h.lt k hk) (set_size _ _ _), h.gx, ?_, ?_, ?_⟩, SX.set w G _ i.toNat _ (.inr (.inr (.inr (by simp [Value.ownBlock]))))⟩
 ·exact Kd.R_far (p := ⟨gC, i.toNat, none⟩) h.rW (fun k hk e => hk.2.2.2 (by have e2 : k = gC := e; rw [e2]; simp [Value.ownBlock])) _
 ·exact Kd.R_far (p := ⟨gC, i.toNat, none⟩) h.rO (fun k hk e => hk.2.2.2 (by have e2 : k = gC := e; rw [e2]; simp [Value.ownBlock])) _
 ·exact Kd.R_putn h.rC i v
def rag.T4 : Bool × List (List Nat × List Nat) := (true, [([], []), ([0], [0]), ([1], [1]), ([2], [2]), ([], []), ([3, 4], [3, 4]), ([5], [5]), ([], []), ([7], [7]), ([8], [8]), ([9], [9]), ([6, 10], [6, 10])])
def rag.B4 : List Nat := [0, 1, 3, 7, 0, 31, 63, 0, 128, 384, 896, 2047]
theorem rag.tab4 : rtab .any (opsOf Try.f20 4) = rag.T4 := by kernel_rfl
theorem rag.bits4 : waitsOk rag.T4.2 rag.B4 = true := by kernel_rfl
def rag.T9 : Bool × List (List Nat × List Nat) := (true, [([], []), ([0], [0]), ([1], [1]), ([2], [2]), ([], []), ([], []), ([5], [5]), ([6], [6]), ([7], [7]), ([], []), ([8, 9], [8, 9]), ([10], [10]), ([11], [11]), ([3, 4, 0, 1, 2, 3, 4, 5, 6, 7, 8, 9, 10, 11, 12], [3, 4]), ([13, 12, 0, 1, 2, 3, 4, 5, 6, 7, 8, 9, 10, 11, 12], [12, 13])])
def rag.B9 : List Nat := [0, 1, 3, 7, 0, 0, 32, 96, 224, 0, 992, 2016, 4064, 8191, 16383]
theorem rag.tab9 : rtab .any (opsOf Try.f20 9) = rag.T9 := by kernel_rfl
theorem rag.bits9 : waitsOk rag.T9.2 rag.B9 = true := by kernel_rfl
theorem ragain_bad {w0 w : World} {G : Nat → Prop} {x : Nat} {wn tr nx : Int} {W : List S34} {O : List S48} {C : List Int} {vW vO vC : Value} (h : Rx w0 w G x wn tr W O C nx vW vO vC) (hl : C.length ≤ 1000000) (hq : ∃ i : Nat, i < C.length ∧ rd C i ≥ tr) :
  Calls Try.prog 20 #[.pointer (some ⟨x, 0, none⟩)] w fun e w' => e = .returned (.tuple #[.slice none 0 0, .bool false]) ∧ Below w.heap.size w w' := by
 obtain ⟨AC, cC, rfl, hlc, hC⟩ := Kd.R_reads h.rC
 obtain ⟨n, hn⟩ : ∃ n, n = C.length := ⟨_, rfl⟩
 rw [← hn] at h hC
 have HS := Aside0.mk h
 have HC := Aside0.mk hC
 have HL := Aside0.mk hl
 have HN := Aside0.mk hn
 have HQ := Aside0.mk hq
 clear h hC hl hn hlc hq
 go_enter Try.func20, Try.ntmps20
 go_wp2
 go_loopg [4] n (fun kq v4 wr => ∃ i : Int, v4 = .int .i64 i ∧ Aside0 (0 ≤ i) ∧ Aside0 (i + kq = n) ∧ Aside0 (∃ j : Nat, i ≤ j ∧ j < C.length ∧ rd C j ≥ tr) ∧ Aside0 (Below w.heap.size w wr))
 case atStart => exact ⟨0, rfl, ⟨by omega⟩, ⟨by omega⟩, ⟨by obtain ⟨j, h1, h2⟩ := HQ.out; exact ⟨j, by omega, h1, h2⟩⟩, ⟨Below.refl _ _⟩⟩
 case round =>
  clear HQ
  obtain ⟨i, rfl, I0, II, IQ, IB⟩ := hrel
  cases gk with
  | zero =>
   exfalso
   obtain ⟨j, h1, h2, _⟩ := IQ.out
   have := II.out
   have := HN.out
   omega
  | succ k1 =>
   have hlt := (show i < (n : Int) by have := II.out; omega)
   have h0 := I0.out
   have hd : decide (i < (n : Int)) = true := decide_eq_true hlt
   have hw : wrap64 (i + 1) = i + 1 := w64 (by omega) (by have := HL.out; have := HN.out; omega)
   obtain ⟨ad, e_, y0'⟩ := Kd.at_int HC.out i h0 hlt
   cases e_
   have y0 := cell_below' IB.out y0'
   have x4 : wr.cell? ⟨x, 4, none⟩ = some (.slice (some ad) n cC) := (blk_cell (HS.out.below IB.out).blk 4).trans rfl
   have x1 : wr.cell? ⟨x, 1, none⟩ = some (.int .i64 tr) := (blk_cell (HS.out.below IB.out).blk 1).trans rfl
   have h0t := eq_true h0
   have hltt := eq_true hlt
   clear y0'
   by_cases hq : rd C i ≥ tr
   ·have bq : decide (rd C i ≥ tr) = true := decide_eq_true hq
    clear hq
    go_upto_region 4 with (fail)
    refine start_ (n := 12) (S := fun w' => w'.cell? ⟨x, 4, none⟩ = some (.slice (some ad) n cC) ∧ w'.cell? ⟨x, 1, none⟩ = some (.int .i64 tr) ∧ w'.cell? (ad.add i.toNat) = some (.int .i64 (rd C i))) (ds := []) #[false, false, false, false, false, false, false, false, false, false, false, false] (by kernel_rfl) rfl rfl ⟨x4, x1, y0⟩ (fun hHeld => ?_); refine with_tabW rag.tab4 rag.bits4 (fun HT_ HW_ => ?_)
    refine pureA (i := 0) (N := some 16) HT_ ?_
    refine pureA (i := 1) (N := some 17) HT_ ?_
    refine pureA (i := 2) (N := some 18) HT_ ?_
    refine pureA (i := 4) (N := some 20) HT_ ?_
    refine pureA (i := 7) (N := some 23) HT_ ?_
    refine pureA (i := 8) (N := some 24) HT_ ?_
    refine pureA (i := 9) (N := some 25) HT_ ?_
    refine takeA (i := 3) (N := some 19) HT_ HW_ hHeld ?_
    refine pureA (i := 5) (N := some 21) HT_ ?_
    refine takeA (i := 6) (N := some 22) HT_ HW_ hHeld ?_
    refine takeA (i := 10) (N := some 26) HT_ HW_ hHeld ?_
    refine pureA (i := 11) (N := some 27) HT_ ?_
    refine done_ (done_of HT_.out (by kernel_rfl)) ?_
    go_wp2
    go_ret2
    exact ⟨rfl, below_step IB.out (below_drew (Below.refl _ _))⟩
   ·have bq : decide (rd C i ≥ tr) = false := decide_eq_false hq
    have HQ := Aside0.mk hq
    clear hq
    go_upto_region 4 with (fail)
    refine start_ (n := 12) (S := fun w' => w'.cell? ⟨x, 4, none⟩ = some (.slice (some ad) n cC) ∧ w'.cell? ⟨x, 1, none⟩ = some (.int .i64 tr) ∧ w'.cell? (ad.add i.toNat) = some (.int .i64 (rd C i))) (ds := []) #[false, false, false, false, false, false, false, false, false, false, false, false] (by kernel_rfl) rfl rfl ⟨x4, x1, y0⟩ (fun hHeld => ?_); refine with_tabW rag.tab4 rag.bits4 (fun HT_ HW_ => ?_)
    refine pureA (i := 0) (N := some 16) HT_ ?_
    refine pureA (i := 1) (N := some 17) HT_ ?_
    refine pureA (i := 2) (N := some 18) HT_ ?_
    refine pureA (i := 4) (N := some 20) HT_ ?_
    refine pureA (i := 7) (N := some 23) HT_ ?_
    refine pureA (i := 8) (N := some 24) HT_ ?_
    refine pureA (i := 9) (N := some 25) HT_ ?_
    refine takeA (i := 3) (N := some 19) HT_ HW_ hHeld ?_
    refine pureA (i := 5) (N := some 21) HT_ ?_
    refine takeA (i := 6) (N := some 22) HT_ HW_ hHeld ?_
    refine takeA (i := 10) (N := some 26) HT_ HW_ hHeld ?_
    refine pureA (i := 11) (N := some 27) HT_ ?_
    refine done_ (done_of HT_.out (by kernel_rfl)) ?_
    go_wp2
    go_roundg k1
    case measure => have := II.out; omega
    case rel => exact ⟨i + 1, by first | rfl | simp [hw], ⟨by have := I0.out; omega⟩, ⟨by have := II.out; omega⟩, ⟨by
     obtain ⟨j, h1, h2, h3⟩ := IQ.out
     rcases Int.lt_or_eq_of_le h1 with e | e
     ·exact ⟨j, by omega, h2, h3⟩
     ·exact absurd h3 (by have h9 := HQ.out; rw [e] at h9; omega)⟩, ⟨below_step IB.out (below_drew (Below.refl _ _))⟩⟩
theorem ragain_ok {w0 w : World} {G : Nat → Prop} {x : Nat} {wn tr nx : Int} {W : List S34} {O : List S48} {C : List Int} {vW vO vC : Value} (h : Rx w0 w G x wn tr W O C nx vW vO vC) (hl : C.length ≤ 1000000) (hb : ∀ c ∈ C, 0 ≤ c ∧ c ≤ 1000000) (hq : ∀ i : Nat, i < C.length → ¬ rd C i ≥ tr) (hlo : O.length ≤ 1000000) :
  Calls Try.prog 20 #[.pointer (some ⟨x, 0, none⟩)] w fun e w' => ∃ v, e = .returned (.tuple #[v, .bool true]) ∧ k48.R 48 w' w0.heap.size (fun _ => True) v O ∧ Rx w0 w' G x wn tr W O (C.map (fun c => c + 1)) nx vW vO vC ∧ SX w G (Wx x vW vO vC) w' G (Wx x vW vO vC) := by
 obtain ⟨AC, cC, rfl, hlc, hC⟩ := Kd.R_reads h.rC
 obtain ⟨AO, cO, rfl, _, _⟩ := Kd.R_reads h.rO
 obtain ⟨n, hn⟩ : ∃ n, n = C.length := ⟨_, rfl⟩
 obtain ⟨nO, hnO⟩ : ∃ nO, nO = O.length := ⟨_, rfl⟩
 rw [← hn] at h hC ⊢
 rw [← hnO] at h ⊢
 have HS := Aside0.mk h
 have HC := Aside0.mk hC
 have HL := Aside0.mk hl
 have HN := Aside0.mk hn
 have HNO := Aside0.mk hnO
 have HQ := Aside0.mk hq
 have HB := Aside0.mk hb
 have HLO := Aside0.mk hlo
 clear h hC hl hn hlc hq hb hlo hnO
 go_enter Try.func20, Try.ntmps20
 go_wp2
 go_loopg [4] n (fun kq v4 wr => ∃ i : Int, v4 = .int .i64 i ∧ Aside0 (0 ≤ i) ∧ Aside0 (i + kq = n) ∧ Aside0 (Below w.heap.size w wr))
 case atStart => exact ⟨0, rfl, ⟨by omega⟩, ⟨by omega⟩, ⟨Below.refl _ _⟩⟩
 case round =>
  obtain ⟨i, rfl, I0, II, IB⟩ := hrel
  cases gk with
  | zero =>
   have hnl : decide (i < (n : Int)) = false := decide_eq_false (by have := II.out; omega)
   obtain ⟨wz, rfl⟩ : ∃ wz, wz = wr := ⟨_, rfl⟩
   have zx4 : wz.cell? ⟨x, 4, none⟩ = some (.slice AC n cC) := (blk_cell (HS.out.below IB.out).blk 4).trans rfl
   go_wp2
   clear zx4
   go_loopg [5] n (fun kq v5 wr => ∃ i : Int, v5 = .int .i64 i ∧ Aside0 (0 ≤ i) ∧ Aside0 (i + kq = n) ∧ Aside0 (Rx w0 wr G x wn tr W O (bumpI C i.toNat) nx vW (.slice AO nO cO) (.slice AC n cC)) ∧ Aside0 (SX w G (Wx x vW (.slice AO nO cO) (.slice AC n cC)) wr G (Wx x vW (.slice AO nO cO) (.slice AC n cC))))
   case atStart => exact ⟨0, rfl, ⟨by omega⟩, ⟨by omega⟩, ⟨HS.out.below IB.out⟩, ⟨SX.of_below _ _ IB.out⟩⟩
   case round =>
   obtain ⟨i, rfl, J0, JI, RR, RX⟩ := hrel
   cases gk with
   | zero =>
    have hnl2 : decide (i < (n : Int)) = false := decide_eq_false (by have := JI.out; omega)
    have hall : bumpI C i.toNat = C.map (fun c => c + 1) := bumpI_all C _ (by have := JI.out; have := HN.out; omega)
    have x4 : wr.cell? ⟨x, 4, none⟩ = some (.slice AC n cC) := (blk_cell RR.out.blk 4).trans rfl
    have x3 : wr.cell? ⟨x, 3, none⟩ = some (.slice AO nO cO) := (blk_cell RR.out.blk 3).trans rfl
    have HALL := Aside0.mk hall
    clear hall
    go_wp2_with ((with_reducible refine gate_builtin (b := .append) (xs := #[.tmp 51, .tmp 55]) rfl ?_); at_builtin; refine Kd.R_append_rows k48 (w0 := wr) w0.heap.size rfl (.tmp 51) (.tmp 55) 28 48 (.agg #[(.int .i64 0), (.slice none 0 0)]) 32 rfl Try.underlying28 info48 rfl (by decide) (by omega) (.slice none 0 0) ([] : List S48) O _ _ _ (fun _ => True) (fun k => G k ∧ k ≠ x ∧ some k ≠ vW.ownBlock ∧ some k ≠ (Value.slice AC n cC).ownBlock) rfl rfl ?aO ?aR (fun _ _ h => h) ?aP ?aF ?aB ?aS ?aL ?_; (case aR => exact R_readsD RR.out.rO); (case aB => exact Below.refl _ _); (case aF => exact (fun _ _ => trivial)); (case aP => exact (fun k hk => ⟨trivial, by simp [Value.ownBlock]⟩)); (case aO => exact Kd.R_nil _ _ _ _ _); (case aS => exact below_size RR.out.bl); (case aL => have := HLO.out; have := HNO.out; simp only [List.length_nil]; omega); intro v2 w6 ho hb hg hat; rw [List.nil_append] at ho; have HO6 := Aside0.mk ho; have HG6 := Aside0.mk (none_below hg); clear ho hb hg hat)
    go_ret2
    have hz := RR.out.below HG6.out
    rw [HALL.out] at hz
    exact ⟨_, rfl, HO6.out, hz, RX.out.below HG6.out⟩
   | succ k2 =>
    have hlt := (show i < (n : Int) by have := JI.out; omega)
    have h0 := J0.out
    have hd : decide (i < (n : Int)) = true := decide_eq_true hlt
    have hw : wrap64 (i + 1) = i + 1 := w64 (by omega) (by have := HL.out; have := HN.out; omega)
    have HIL := Aside0.mk (show i < (C.length : Int) by have := HN.out; omega)
    obtain ⟨gC, cap, evC, _, _⟩ := Kd.R_form RR.out.rC (by rw [bumpI_len]; have := HN.out; omega)
    injection evC with ea en ec
    subst ea
    have x4 : wr.cell? ⟨x, 4, none⟩ = some (.slice (some ⟨gC, 0, none⟩) n cC) := (blk_cell RR.out.blk 4).trans rfl
    have hcell := Kd.R_celln (0 : Int) RR.out.rC i h0 hlt
    have hbr := bumpI_rd C i h0 HIL.out
    have y0 : wr.cell? ⟨gC, i.toNat, none⟩ = some (.int .i64 (rd C i)) := by
     rw [← hbr]
     exact hcell.1
    have zf := hcell.2
    have zf2 : wr.drew.frozen? ⟨gC, i.toNat, none⟩ = false := (Kd.R_celln (0 : Int) (RR.out.below (below_drew (Below.refl _ _))).rC i h0 hlt).2
    have hm : rd C i ∈ C := rd_mem C i h0 HIL.out
    have hwc : wrap64 (rd C i + 1) = rd C i + 1 := w64 (by have := HB.out _ hm; omega) (by have := HB.out _ hm; omega)
    have h0t := eq_true h0
    have hltt := eq_true hlt
    clear hcell hbr hm
    go_upto_region 9 with (fail)
    refine start_ (n := 15) (S := fun w' => w'.cell? ⟨x, 4, none⟩ = some (.slice (some ⟨gC, 0, none⟩) n cC) ∧ w'.cell? ⟨gC, i.toNat, none⟩ = some (.int .i64 (rd C i))) (ds := [14]) #[false, false, false, false, false, false, false, false, false, false, false, false, false, false, false] (by kernel_rfl) rfl rfl ⟨x4, y0⟩ (fun hHeld => ?_); refine with_tabW rag.tab9 rag.bits9 (fun HT_ HW_ => ?_)
    refine pureA (i := 0) (N := some 37) HT_ ?_
    refine pureA (i := 1) (N := some 38) HT_ ?_
    refine pureA (i := 2) (N := some 39) HT_ ?_
    refine pureA (i := 4) (N := some 41) HT_ ?_
    refine pureA (i := 5) (N := some 42) HT_ ?_
    refine pureA (i := 6) (N := some 43) HT_ ?_
    refine pureA (i := 7) (N := some 44) HT_ ?_
    refine pureA (i := 9) (N := some 46) HT_ ?_
    refine takeA (i := 3) (N := some 40) HT_ HW_ hHeld ?_
    refine takeA (i := 8) (N := some 45) HT_ HW_ hHeld ?_
    refine pureA (i := 10) (N := some 47) HT_ ?_
    refine takeA (i := 11) (N := some 48) HT_ HW_ hHeld ?_
    refine pureA (i := 12) (N := some 49) HT_ ?_
    refine pureA (i := 13) (N := some 50) HT_ ?_
    refine last_ (i := 14) (N := none) #[true, true, true, true, true, true, true, true, true, true, true, true, true, true, true] rfl rfl (one_of HT_.out (by kernel_rfl)) (by decide) (fun K hK => ?_)
    refine skip_ (w1 := ?_) (by rfl) rfl ?_ ?_
    rotate_left
    ·go_simp
     rfl
    refine hK.out _ _ ?_
    clear hK K
    refine done_ (done_of HT_.out (by kernel_rfl)) ?_
    go_wp2
    go_roundg k2
    case measure => have := JI.out; omega
    case rel =>
     have hd1 := RR.out.below (below_drew (Below.refl _ _))
     obtain ⟨s1, s2⟩ := hd1.setC i (rd C i + 1)
     rw [bumpI_set C i J0.out HIL.out] at s1
     exact ⟨i + 1, by first | rfl | simp [hw], ⟨by have := J0.out; omega⟩, ⟨by have := JI.out; omega⟩, ⟨by rw [show (i + 1).toNat = i.toNat + 1 by have := J0.out; omega]; first | exact s1 | (rw [hwc]; exact s1)⟩, ⟨by first | exact (RX.out.below (below_drew (Below.refl _ _))).trans s2 | (rw [hwc]; exact (RX.out.below (below_drew (Below.refl _ _))).trans s2)⟩⟩
  | succ k1 =>
   have hlt := (show i < (n : Int) by have := II.out; omega)
   have h0 := I0.out
   have hd : decide (i < (n : Int)) = true := decide_eq_true hlt
   have hw : wrap64 (i + 1) = i + 1 := w64 (by omega) (by have := HL.out; have := HN.out; omega)
   obtain ⟨ad, e_, y0'⟩ := Kd.at_int HC.out i h0 hlt
   cases e_
   have y0 := cell_below' IB.out y0'
   have x4 : wr.cell? ⟨x, 4, none⟩ = some (.slice (some ad) n cC) := (blk_cell (HS.out.below IB.out).blk 4).trans rfl
   have x1 : wr.cell? ⟨x, 1, none⟩ = some (.int .i64 tr) := (blk_cell (HS.out.below IB.out).blk 1).trans rfl
   have h0t := eq_true h0
   have hltt := eq_true hlt
   have bq : decide (rd C i ≥ tr) = false := decide_eq_false (by
    have h9 := HQ.out i.toNat (by have := HN.out; omega)
    rw [show ((i.toNat : Nat) : Int) = i by omega] at h9
    omega)
   clear y0'
   go_upto_region 4 with (fail)
   refine start_ (n := 12) (S := fun w' => w'.cell? ⟨x, 4, none⟩ = some (.slice (some ad) n cC) ∧ w'.cell? ⟨x, 1, none⟩ = some (.int .i64 tr) ∧ w'.cell? (ad.add i.toNat) = some (.int .i64 (rd C i))) (ds := []) #[false, false, false, false, false, false, false, false, false, false, false, false] (by kernel_rfl) rfl rfl ⟨x4, x1, y0⟩ (fun hHeld => ?_); refine with_tabW rag.tab4 rag.bits4 (fun HT_ HW_ => ?_)
   refine pureA (i := 0) (N := some 16) HT_ ?_
   refine pureA (i := 1) (N := some 17) HT_ ?_
   refine pureA (i := 2) (N := some 18) HT_ ?_
   refine pureA (i := 4) (N := some 20) HT_ ?_
   refine pureA (i := 7) (N := some 23) HT_ ?_
   refine pureA (i := 8) (N := some 24) HT_ ?_
   refine pureA (i := 9) (N := some 25) HT_ ?_
   refine takeA (i := 3) (N := some 19) HT_ HW_ hHeld ?_
   refine pureA (i := 5) (N := some 21) HT_ ?_
   refine takeA (i := 6) (N := some 22) HT_ HW_ hHeld ?_
   refine takeA (i := 10) (N := some 26) HT_ HW_ hHeld ?_
   refine pureA (i := 11) (N := some 27) HT_ ?_
   refine done_ (done_of HT_.out (by kernel_rfl)) ?_
   go_wp2
   go_roundg k1
   case measure => have := II.out; omega
   case rel => exact ⟨i + 1, by first | rfl | simp [hw], ⟨by have := I0.out; omega⟩, ⟨by have := II.out; omega⟩, ⟨below_step IB.out (below_drew (Below.refl _ _))⟩⟩
def firstX (O : List S48) (nx : Int) : Int := match O with | [] => nx | b :: _ => b.f0
theorem rfirst_x {w0 w : World} {G : Nat → Prop} {x : Nat} {wn tr nx : Int} {W : List S34} {O : List S48} {C : List Int} {vW vO vC : Value} (h : Rx w0 w G x wn tr W O C nx vW vO vC) :
  Calls Try.prog 41 #[.pointer (some ⟨x, 0, none⟩)] w fun e w' => e = .returned (.int .i64 (firstX O nx)) ∧ w = w' := by
 obtain ⟨A, c, rfl, hlc, hC⟩ := Kd.R_reads h.rO
 have hn : w.cell? ⟨x, 5, none⟩ = some (.int .i64 nx) := (blk_cell h.blk 5).trans rfl
 have hx : w.cell? ⟨x, 3, none⟩ = some (.slice A O.length c) := (blk_cell h.blk 3).trans rfl
 cases O with
 | nil =>
  clear h hlc hC
  replace hx : w.cell? ⟨x, 3, none⟩ = some (.slice A 0 c) := hx
  go_enter Try.func41, Try.ntmps41
  go_wp2
  go_ret
  exact ⟨rfl, rfl⟩
 | cons o r =>
  obtain ⟨n, hn2⟩ : ∃ n, n = (o :: r).length := ⟨_, rfl⟩
  have hpos : (0 : Int) < (n : Int) := by rw [hn2]; simp <;> omega
  obtain ⟨ad, A1, c1, e_, hx0, _, _, _⟩ := at_T48 hC 0 (by omega) (by rw [← hn2]; exact hpos)
  cases e_
  have e0 : ad.add ((0 : Int).toNat * 2) = ad := by
   show ad.add 0 = ad
   cases ad
   simp [Addr.add]
  rw [e0] at hx0
  rw [← hn2] at hx
  have b0 : decide ((n : Int) > 0) = true := decide_eq_true hpos
  have hp := eq_true hpos
  clear h hlc hC hn2 e0
  go_enter Try.func41, Try.ntmps41
  go_wp2
  go_ret
  exact ⟨rfl, rfl⟩
structure Rs (w0 w : World) (G R : Nat → Prop) (x : Nat) (wn tr : Int) (s : AS) : Prop where
 ex : ∃ vW vO vC, Rx w0 w G x wn tr s.W (s.D.map Prod.fst) (s.D.map Prod.snd) s.nx vW vO vC ∧ R = Wx x vW vO vC
section
variable {w0 w w' : World} {G R : Nat → Prop} {x : Nat} {wn tr : Int} {s : AS} {n : Nat}
theorem Rs.below (h : Rs w0 w G R x wn tr s) (hb : Below w.heap.size w w') : Rs w0 w' G R x wn tr s := by
 obtain ⟨vW, vO, vC, h1, h2⟩ := h
 exact ⟨vW, vO, vC, h1.below hb, h2⟩
theorem Rs.lt (h : Rs w0 w G R x wn tr s) : ∀ k, G k → k < w.heap.size := by
 obtain ⟨vW, vO, vC, h1, h2⟩ := h
 exact h1.lt
theorem Rs.rf (h : Rs w0 w G R x wn tr s) : ∀ k, R k → G k := by
 obtain ⟨vW, vO, vC, h1, rfl⟩ := h
 exact h1.wr
theorem Rs.bl (h : Rs w0 w G R x wn tr s) : Below w0.heap.size w0 w := by
 obtain ⟨vW, vO, vC, h1, h2⟩ := h
 exact h1.bl
theorem Rs.other (h : Rs w0 w G R x wn tr s) {F R1 F' R1' : Nat → Prop} (hs : SX w F R1 w' F' R1') (hr : ∀ k, R1 k → F k) (hd : ∀ k, G k → ¬ F k) (hb : Below w0.heap.size w0 w') : Rs w0 w' G R x wn tr s ∧ ∀ k, G k → ¬ F' k := by
 obtain ⟨vW, vO, vC, h1, h2⟩ := h
 refine ⟨⟨vW, vO, vC, (h1.other hs (fun k hk hR => hd k hk (hr k hR)) hb).1, h2⟩, fun k hk hF => ?_⟩
 rcases hs.fp k hF with e | e
 ·exact hd k hk e
 ·have := h1.lt k hk
  omega
theorem Sn.other {F Q : Nat → Prop} {g : Nat} (h : Sn w0 w F Q g wn tr s) {G R1 G' R1' : Nat → Prop} (hs : SX w G R1 w' G' R1') (hr : ∀ k, R1 k → G k) (hd : ∀ k, G k → ¬ F k) (hb : Below w0.heap.size w0 w') : Sn w0 w' F Q g wn tr s ∧ ∀ k, G' k → ¬ F k := by
 obtain ⟨O, vw, vo, h1, h2, h3⟩ := h
 refine ⟨⟨O, vw, vo, h1.keep (fun k hk => hs.fr k (h1.lt k hk) (fun hR => hd k (hr k hR) hk)) hs.sz hb, h2, h3⟩, fun k hG hk => ?_⟩
 rcases hs.fp k hG with e | e
 ·exact hd k e hk
 ·have := h1.lt k hk
  omega
theorem rpush_a (h : Rs w0 w G R x wn tr s) (o : S34) :
  Calls Try.prog 18 #[.pointer (some ⟨x, 0, none⟩), objV o] w fun e w' => ∃ G' R', e = .returned (.int .i64 (pushE o s)) ∧ Rs w0 w' G' R' x wn tr (pushA o s) ∧ SX w G R w' G' R' := by
 obtain ⟨vW, vO, vC, hd, rfl⟩ := h
 obtain ⟨K, hK⟩ := ror_eq o.f0 o.f1 o.f2.f0 o.f2.f1 o.f2.f2 o.f2.f3 o.f2.f4 o.f2.f5 o.f3.f0 o.f3.f1 o.f3.f2 o.f4
 have hk := hK K (Nat.le_refl _)
 unfold pushE pushA
 by_cases ho : OR o
 ·rw [decide_eq_true (show RO o.f0 o.f1 o.f2.f0 o.f2.f1 o.f2.f2 o.f2.f3 o.f2.f4 o.f2.f5 o.f3.f0 o.f3.f1 o.f3.f2 o.f4 from ho)] at hk
  rw [if_pos ho]
  by_cases hl : s.W.length < 1024
  ·rw [if_pos hl, if_pos ⟨ho, hl⟩]
   refine (rpush_ok hd hl K _ _ _ _ _ _ _ _ _ _ _ _ hk).mono ?_
   rintro e w' ⟨rfl, G', v2, hs, hx⟩
   exact ⟨G', _, rfl, ⟨v2, vO, vC, hs, rfl⟩, hx⟩
  ·rw [if_neg hl, if_neg (fun e => hl e.2)]
   refine (rpush_full hd hl K _ _ _ _ _ _ _ _ _ _ _ _ hk).mono ?_
   rintro e w' ⟨rfl, hb⟩
   exact ⟨G, _, rfl, ⟨vW, vO, vC, hd.below hb, rfl⟩, SX.of_below _ _ hb⟩
 ·rw [decide_eq_false (show ¬ RO o.f0 o.f1 o.f2.f0 o.f2.f1 o.f2.f2 o.f2.f3 o.f2.f4 o.f2.f5 o.f3.f0 o.f3.f1 o.f3.f2 o.f4 from ho)] at hk
  rw [if_neg ho, if_neg (fun e => ho e.1)]
  refine (rpush_bad hd K _ _ _ _ _ _ _ _ _ _ _ _ hk).mono ?_
  rintro e w' ⟨rfl, hb⟩
  exact ⟨G, _, rfl, ⟨vW, vO, vC, hd.below hb, rfl⟩, SX.of_below _ _ hb⟩
theorem rd_snd (D : List (S48 × Int)) (i : Nat) (h : i < (D.map Prod.snd).length) : rd (D.map Prod.snd) (i : Int) = (D[i]'(by rw [List.length_map] at h; exact h)).2 := by
 unfold rd
 rw [Int.toNat_natCast, List.getD_eq_getElem?_getD, List.getElem?_eq_getElem h]
 simp
theorem ragain_a (h : Rs w0 w G R x wn tr s) (hk : OkA tr n s) (hn : n ≤ 900000) (ht : tr ≤ 100) :
  Calls Try.prog 20 #[.pointer (some ⟨x, 0, none⟩)] w fun e w' => ∃ v, e = .returned (.tuple #[v, .bool (decide (¬ fullA tr s))]) ∧ Rs w0 w' G R x wn tr (againA tr s) ∧ SX w G R w' G R ∧ k48.R 48 w' w0.heap.size (fun _ => True) v (againL tr s) := by
 obtain ⟨vW, vO, vC, hd, rfl⟩ := h
 obtain ⟨k1, k2, k3, k4, k5⟩ := hk
 have hl : (s.D.map Prod.snd).length ≤ 1000000 := by rw [List.length_map]; omega
 unfold againA againL
 by_cases hq : fullA tr s
 ·rw [if_pos hq, if_pos hq, decide_eq_false (fun e => e hq)]
  obtain ⟨d, hd1, hd2⟩ := hq
  obtain ⟨i, hi, rfl⟩ := List.mem_iff_getElem.1 hd1
  refine (ragain_bad hd hl ⟨i, by rw [List.length_map]; exact hi, by rw [rd_snd _ _ (by rw [List.length_map]; exact hi)]; exact hd2⟩).mono ?_
  rintro e w' ⟨rfl, hb⟩
  exact ⟨_, rfl, ⟨vW, vO, vC, hd.below hb, rfl⟩, SX.of_below _ _ hb, Kd.R_nil _ _ _ _ _⟩
 ·rw [if_neg hq, if_neg hq, decide_eq_true hq]
  refine (ragain_ok hd hl (fun c hc => ?_) (fun i hi hge => hq ⟨_, List.getElem_mem (by rw [List.length_map] at hi; exact hi), by rw [← rd_snd _ _ hi]; exact hge⟩) (by rw [List.length_map]; omega)).mono ?_
  ·obtain ⟨d, hd1, rfl⟩ := List.mem_map.1 hc
   have := k4 d hd1
   omega
  ·rintro e w' ⟨v, rfl, hr, hs, hx⟩
   refine ⟨v, rfl, ⟨vW, vO, vC, ?_, rfl⟩, hx, hr⟩
   show Rx w0 w' G x wn tr s.W ((s.D.map (fun d => (d.1, d.2 + 1))).map Prod.fst) ((s.D.map (fun d => (d.1, d.2 + 1))).map Prod.snd) s.nx vW vO vC
   rw [List.map_map, List.map_map]
   rw [List.map_map] at hs
   exact hs
end
section
variable {w0 w w' : World} {G : Nat → Prop} {x : Nat} {wn tr nx : Int} {W : List S34} {O : List S48} {C : List Int} {vW vO vC : Value}
theorem Rx.grown (h : Rx w0 w G x wn tr W O C nx vW vO vC) {row : Option Nat} (hg : w.grownBy w' row) (hr : ∀ k, row = some k → w0.heap.size ≤ k ∧ ¬ G k) : Rx w0 w' G x wn tr W O C nx vW vO vC :=
 h.keep (fun k hk => hg.block k (h.lt k hk) (fun e => (hr k e.symm).2 hk)) hg.size (pw_below_grown h.bl row (below_size h.bl) hg (fun k hk => (hr k hk).1))
theorem Rx.putO (h : Rx w0 w G x wn tr W O C nx vW vO vC) {v2 : Value} {O2 : List S48} (hr : k48.R 48 w' w0.heap.size (fun k => (G k ∨ w.heap.size ≤ k) ∧ k ≠ x ∧ some k ≠ vW.ownBlock ∧ some k ≠ vC.ownBlock) v2 O2) (hg : w.grownBy w' vO.ownBlock) (hat : v2.ownBlock = vO.ownBlock ∨ ∃ b, v2.ownBlock = some b ∧ w.heap.size ≤ b) :
  Rx w0 (w'.setCell ⟨x, 3, none⟩ v2) (fun k => (G k ∨ w.heap.size ≤ k) ∧ k < w'.heap.size) x wn tr W O2 C nx vW v2 vC ∧ SX w G (Wx x vW vO vC) (w'.setCell ⟨x, 3, none⟩ v2) (fun k => (G k ∨ w.heap.size ≤ k) ∧ k < w'.heap.size) (Wx x vW v2 vC) := by
 have hw0 := below_size h.bl
 have hbase : ∀ k, vO.ownBlock = some k → w0.heap.size ≤ k := fun k hk => Kd.R_base h.rO k hk
 have hgw : some x ≠ vO.ownBlock := fun e => (h.rO.1 x e.symm).2.1 rfl
 have hx := (hg.block x (blk_lt h.blk) hgw).trans h.blk
 have hsz : w'.heap.size ≤ (w'.setCell ⟨x, 3, none⟩ v2).heap.size := set_size _ _ _
 have new : ∀ k, k < w.heap.size → some k ≠ vO.ownBlock → some k ≠ v2.ownBlock := fun k hk hn e => by
  rcases hat with e2 | ⟨b, e2, hbl⟩
  ·exact hn (e.trans e2)
  ·have := Option.some.inj (e.trans e2)
   omega
 refine ⟨⟨(pw_below_grown h.bl _ hw0 hg hbase).setCell h.new _, blk_put hx 3 v2 rfl, h.new, fun k hk => Nat.lt_of_lt_of_le hk.2 hsz, ⟨.inl h.gx, blk_lt hx⟩, ?_, ?_, ?_⟩, ⟨Nat.le_trans hg.size hsz, fun k hk hR => (Below.heap_setCell w' ⟨x, 3, none⟩ v2 k (fun e => hR (.inl e))).trans (hg.block k hk (fun e => hR (.inr (.inr (.inl e))))), fun k hk => hk.1, fun k hk => ?_⟩⟩
 ·exact Kd.R_mono (Kd.R_far (p := ⟨x, 3, none⟩) (Kd.R_grown (Kd.R_mono (Kd.R_bound h.rW) (ok' := fun k => (G k ∧ k ≠ x ∧ some k ≠ vO.ownBlock ∧ some k ≠ vC.ownBlock) ∧ k < w.heap.size) (fun k hk => ⟨hk.1, hk.2.2.1⟩)) hg (fun k hk => hk.1.2.2.1)) (fun k hk e => hk.1.2.1 e) v2) (fun k hk => ⟨⟨.inl hk.1.1, Nat.lt_of_lt_of_le hk.2 hg.size⟩, hk.1.2.1, new k hk.2 hk.1.2.2.1, hk.1.2.2.2⟩)
 ·exact Kd.R_mono (Kd.R_far (p := ⟨x, 3, none⟩) (Kd.R_bound hr) (fun k hk e => hk.1.2.1 e) v2) (fun k hk => ⟨⟨hk.1.1, hk.2.2.1⟩, hk.1.2⟩)
 ·exact Kd.R_mono (Kd.R_far (p := ⟨x, 3, none⟩) (Kd.R_grown (Kd.R_mono (Kd.R_bound h.rC) (ok' := fun k => (G k ∧ k ≠ x ∧ some k ≠ vW.ownBlock ∧ some k ≠ vO.ownBlock) ∧ k < w.heap.size) (fun k hk => ⟨hk.1, hk.2.2.1⟩)) hg (fun k hk => hk.1.2.2.2)) (fun k hk e => hk.1.2.1 e) v2) (fun k hk => ⟨⟨.inl hk.1.1, Nat.lt_of_lt_of_le hk.2 hg.size⟩, hk.1.2.1, hk.1.2.2.1, new k hk.2 hk.1.2.2.2⟩)
 ·rcases hk with e | e | e | e
  ·exact .inl (.inl e)
  ·exact .inl (.inr (.inl e))
  ·rcases hat with e2 | ⟨b, e2, hbl⟩
   ·exact .inl (.inr (.inr (.inl (e.trans e2))))
   ·have := Option.some.inj (e.trans e2)
    exact .inr (this ▸ hbl)
  ·exact .inl (.inr (.inr (.inr e)))
theorem Rx.putC (h : Rx w0 w G x wn tr W O C nx vW vO vC) {v2 : Value} {C2 : List Int} (hr : (Kd.int .i64).R 3 w' w0.heap.size (fun k => (G k ∨ w.heap.size ≤ k) ∧ k ≠ x ∧ some k ≠ vW.ownBlock ∧ some k ≠ vO.ownBlock) v2 C2) (hg : w.grownBy w' vC.ownBlock) (hat : v2.ownBlock = vC.ownBlock ∨ ∃ b, v2.ownBlock = some b ∧ w.heap.size ≤ b) :
  Rx w0 (w'.setCell ⟨x, 4, none⟩ v2) (fun k => (G k ∨ w.heap.size ≤ k) ∧ k < w'.heap.size) x wn tr W O C2 nx vW vO v2 ∧ SX w G (Wx x vW vO vC) (w'.setCell ⟨x, 4, none⟩ v2) (fun k => (G k ∨ w.heap.size ≤ k) ∧ k < w'.heap.size) (Wx x vW vO v2) := by
 have hw0 := below_size h.bl
 have hbase : ∀ k, vC.ownBlock = some k → w0.heap.size ≤ k := fun k hk => Kd.R_base h.rC k hk
 have hgw : some x ≠ vC.ownBlock := fun e => (h.rC.1 x e.symm).2.1 rfl
 have hx := (hg.block x (blk_lt h.blk) hgw).trans h.blk
 have hsz : w'.heap.size ≤ (w'.setCell ⟨x, 4, none⟩ v2).heap.size := set_size _ _ _
 have new : ∀ k, k < w.heap.size → some k ≠ vC.ownBlock → some k ≠ v2.ownBlock := fun k hk hn e => by
  rcases hat with e2 | ⟨b, e2, hbl⟩
  ·exact hn (e.trans e2)
  ·have := Option.some.inj (e.trans e2)
   omega
 refine ⟨⟨(pw_below_grown h.bl _ hw0 hg hbase).setCell h.new _, blk_put hx 4 v2 rfl, h.new, fun k hk => Nat.lt_of_lt_of_le hk.2 hsz, ⟨.inl h.gx, blk_lt hx⟩, ?_, ?_, ?_⟩, ⟨Nat.le_trans hg.size hsz, fun k hk hR => (Below.heap_setCell w' ⟨x, 4, none⟩ v2 k (fun e => hR (.inl e))).trans (hg.block k hk (fun e => hR (.inr (.inr (.inr e))))), fun k hk => hk.1, fun k hk => ?_⟩⟩
 ·exact Kd.R_mono (Kd.R_far (p := ⟨x, 4, none⟩) (Kd.R_grown (Kd.R_mono (Kd.R_bound h.rW) (ok' := fun k => (G k ∧ k ≠ x ∧ some k ≠ vO.ownBlock ∧ some k ≠ vC.ownBlock) ∧ k < w.heap.size) (fun k hk => ⟨hk.1, hk.2.2.1⟩)) hg (fun k hk => hk.1.2.2.2)) (fun k hk e => hk.1.2.1 e) v2) (fun k hk => ⟨⟨.inl hk.1.1, Nat.lt_of_lt_of_le hk.2 hg.size⟩, hk.1.2.1, hk.1.2.2.1, new k hk.2 hk.1.2.2.2⟩)
 ·exact Kd.R_mono (Kd.R_far (p := ⟨x, 4, none⟩) (Kd.R_grown (Kd.R_mono (Kd.R_bound h.rO) (ok' := fun k => (G k ∧ k ≠ x ∧ some k ≠ vW.ownBlock ∧ some k ≠ vC.ownBlock) ∧ k < w.heap.size) (fun k hk => ⟨hk.1, hk.2.2.1⟩)) hg (fun k hk => hk.1.2.2.2)) (fun k hk e => hk.1.2.1 e) v2) (fun k hk => ⟨⟨.inl hk.1.1, Nat.lt_of_lt_of_le hk.2 hg.size⟩, hk.1.2.1, hk.1.2.2.1, new k hk.2 hk.1.2.2.2⟩)
 ·exact Kd.R_mono (Kd.R_far (p := ⟨x, 4, none⟩) (Kd.R_bound hr) (fun k hk e => hk.1.2.1 e) v2) (fun k hk => ⟨⟨hk.1.1, hk.2.2.1⟩, hk.1.2⟩)
 ·rcases hk with e | e | e | e
  ·exact .inl (.inl e)
  ·exact .inl (.inr (.inl e))
  ·exact .inl (.inr (.inr (.inl e)))
  ·rcases hat with e2 | ⟨b, e2, hbl⟩
   ·exact .inl (.inr (.inr (.inr (e.trans e2))))
   ·have := Option.some.inj (e.trans e2)
    exact .inr (this ▸ hbl)
theorem Rx.freshO (h : Rx w0 w G x wn tr W O C nx vW vO vC) : ∀ k, w.heap.size ≤ k → (G k ∨ w.heap.size ≤ k) ∧ k ≠ x ∧ some k ≠ vW.ownBlock ∧ some k ≠ vC.ownBlock := fun k hk =>
 ⟨.inr hk, fun e => by have := blk_lt h.blk; omega, fun e => by have := Kd.R_lt h.rW k e.symm; omega, fun e => by have := Kd.R_lt h.rC k e.symm; omega⟩
theorem Rx.freshC (h : Rx w0 w G x wn tr W O C nx vW vO vC) : ∀ k, w.heap.size ≤ k → (G k ∨ w.heap.size ≤ k) ∧ k ≠ x ∧ some k ≠ vW.ownBlock ∧ some k ≠ vO.ownBlock := fun k hk =>
 ⟨.inr hk, fun e => by have := blk_lt h.blk; omega, fun e => by have := Kd.R_lt h.rW k e.symm; omega, fun e => by have := Kd.R_lt h.rO k e.symm; omega⟩
theorem Rx.setN (h : Rx w0 w G x wn tr W O C nx vW vO vC) (n2 : Int) : Rx w0 (w.setCell ⟨x, 5, none⟩ (.int .i64 n2)) G x wn tr W O C n2 vW vO vC :=
 ⟨h.bl.setCell h.new _, blk_put h.blk 5 _ rfl, h.new, fun k hk => Nat.lt_of_lt_of_le (h.lt k hk) (set_size _ _ _), h.gx, Kd.R_far (p := ⟨x, 5, none⟩) h.rW (fun k hk e => hk.2.1 e) _, Kd.R_far (p := ⟨x, 5, none⟩) h.rO (fun k hk e => hk.2.1 e) _, Kd.R_far (p := ⟨x, 5, none⟩) h.rC (fun k hk e => hk.2.1 e) _⟩
theorem Rx.setW (h : Rx w0 w G x wn tr W O C nx vW vO vC) {N : Nat → Prop} {v2 : Value} {W2 : List S34} (hN : ∀ k, N k → ¬ G k ∧ k < w.heap.size) (hr : k34.R 34 w w0.heap.size N v2 W2) :
  Rx w0 (w.setCell ⟨x, 2, none⟩ v2) (fun k => G k ∨ N k) x wn tr W2 O C nx v2 vO vC := by
 refine ⟨h.bl.setCell h.new _, blk_put h.blk 2 v2 rfl, h.new, fun k hk => ?_, .inl h.gx, ?_, ?_, ?_⟩
 ·rcases hk with hk | hk
  ·exact Nat.lt_of_lt_of_le (h.lt k hk) (set_size _ _ _)
  ·exact Nat.lt_of_lt_of_le (hN k hk).2 (set_size _ _ _)
 ·refine Kd.R_mono (Kd.R_far (p := ⟨x, 2, none⟩) hr (fun k hk e => (hN k hk).1 (by have : k = x := e; subst this; exact h.gx)) _) (fun k hk => ⟨.inr hk, fun e => (hN k hk).1 (e ▸ h.gx), fun e => (hN k hk).1 (h.rO.1 k e.symm).1, fun e => (hN k hk).1 (h.rC.1 k e.symm).1⟩)
 ·exact Kd.R_mono (Kd.R_far (p := ⟨x, 2, none⟩) h.rO (fun k hk e => hk.2.1 e) _) (fun k hk => ⟨.inl hk.1, hk.2.1, fun e => (hN k (hr.1 k e.symm)).1 hk.1, hk.2.2.2⟩)
 ·exact Kd.R_mono (Kd.R_far (p := ⟨x, 2, none⟩) h.rC (fun k hk e => hk.2.1 e) _) (fun k hk => ⟨.inl hk.1, hk.2.1, fun e => (hN k (hr.1 k e.symm)).1 hk.1, hk.2.2.2⟩)
end
structure ReX (w0 w w1 : World) (G : Nat → Prop) (x : Nat) (wn tr : Int) (W : List S34) (vW vO vC : Value) (wr : World) (G' : Nat → Prop) (O2 : List S48) (C2 : List Int) (nx2 : Int) (vO2 vC2 : Value) (X : List S48) (v6 : Value) : Prop where
 rx : Rx w0 wr G' x wn tr W O2 C2 nx2 vW vO2 vC2
 sx : SX w1 (fun k => G k ∨ (w.heap.size ≤ k ∧ k < w1.heap.size)) (Wx x vW vO vC) wr G' (Wx x vW vO2 vC2)
 sub : ∀ k, (G k ∨ (w.heap.size ≤ k ∧ k < w1.heap.size)) → G' k
 out : k48.R 48 wr w0.heap.size (fun k => w.heap.size ≤ k ∧ ¬ Wx x vW vO2 vC2 k) v6 X
 own : ∀ k, v6.ownBlock = some k → w1.heap.size ≤ k ∧ ¬ G' k
section
variable {w0 w w1 wr w' wc : World} {G G' : Nat → Prop} {x : Nat} {wn tr nx2 : Int} {W W2 : List S34} {O2 B X X2 : List S48} {C2 : List Int} {vW vO vC vO2 vC2 v6 v2 v3 va : Value}
theorem ReX.notW (hf : SeF w0 w w1 (Wx x vW vO vC)) (h : ReX w0 w w1 G x wn tr W vW vO vC wr G' O2 C2 nx2 vO2 vC2 X v6) : ∀ k, (w.heap.size ≤ k ∧ k < w1.heap.size) → G' k ∧ ¬ Wx x vW vO2 vC2 k := fun k hk => ⟨h.sub k (.inr hk), fun hR => by
 rcases h.sx.wr k hR with e | e
 ·have := hf.lt k e; omega
 ·omega⟩
theorem ReX.below (h : ReX w0 w w1 G x wn tr W vW vO vC wr G' O2 C2 nx2 vO2 vC2 X v6) (hb : Below wr.heap.size wr w') : ReX w0 w w1 G x wn tr W vW vO vC w' G' O2 C2 nx2 vO2 vC2 X v6 :=
 ⟨h.rx.below hb, h.sx.below hb, h.sub, Kd.R_below h.out hb, h.own⟩
theorem ReX.drew (h : ReX w0 w w1 G x wn tr W vW vO vC wr G' O2 C2 nx2 vO2 vC2 X v6) : ReX w0 w w1 G x wn tr W vW vO vC wr.drew G' O2 C2 nx2 vO2 vC2 X v6 := h.below (below_drew (Below.refl _ _))
theorem ReX.szw (hf : SeF w0 w w1 (Wx x vW vO vC)) (h : ReX w0 w w1 G x wn tr W vW vO vC wr G' O2 C2 nx2 vO2 vC2 X v6) : w.heap.size ≤ wr.heap.size := Nat.le_trans hf.h1 h.sx.sz
theorem ReX.freshX (hf : SeF w0 w w1 (Wx x vW vO vC)) (h : ReX w0 w w1 G x wn tr W vW vO vC wr G' O2 C2 nx2 vO2 vC2 X v6) : ∀ k, wr.heap.size ≤ k → w.heap.size ≤ k ∧ ¬ Wx x vW vO2 vC2 k := fun k hk =>
 ⟨Nat.le_trans (h.szw hf) hk, fun hR => by have := h.rx.lt k (h.rx.wr k hR); omega⟩
theorem ReX.outp (hf : SeF w0 w w1 (Wx x vW vO vC)) (h : ReX w0 w w1 G x wn tr W vW vO vC wr G' O2 C2 nx2 vO2 vC2 X v6) (hr : k48.R 48 w' w0.heap.size (fun k => w.heap.size ≤ k ∧ ¬ Wx x vW vO2 vC2 k) v2 X2) (hg : wr.grownBy w' v6.ownBlock) (hat : v2.ownBlock = v6.ownBlock ∨ ∃ b, v2.ownBlock = some b ∧ wr.heap.size ≤ b) :
  ReX w0 w w1 G x wn tr W vW vO vC w' G' O2 C2 nx2 vO2 vC2 X2 v2 := by
 have h01 := hf.h0
 have h12 := hf.h1
 refine ⟨h.rx.grown hg (fun k hk => ⟨by have := (h.own k hk).1; omega, (h.own k hk).2⟩), ⟨Nat.le_trans h.sx.sz hg.size, fun k hk hR => ?_, h.sx.fp, h.sx.wr⟩, h.sub, hr, fun k hk => ?_⟩
 ·exact (hg.block k (Nat.lt_of_lt_of_le hk h.sx.sz) (fun e => by have := (h.own k e.symm).1; omega)).trans (h.sx.fr k hk hR)
 ·rcases hat with e | ⟨b, e, hbl⟩
  ·exact h.own k (e ▸ hk)
  ·obtain rfl := Option.some.inj (e.symm.trans hk)
   exact ⟨Nat.le_trans h.sx.sz hbl, fun hF => by have := h.rx.lt _ hF; omega⟩
theorem ReX.putO (hf : SeF w0 w w1 (Wx x vW vO vC)) (h : ReX w0 w w1 G x wn tr W vW vO vC wr G' O2 C2 nx2 vO2 vC2 X v6) {O3 : List S48}
  (hr : k48.R 48 w' w0.heap.size (fun k => (G' k ∨ wr.heap.size ≤ k) ∧ k ≠ x ∧ some k ≠ vW.ownBlock ∧ some k ≠ vC2.ownBlock) v2 O3) (hg : wr.grownBy w' vO2.ownBlock) (hat : v2.ownBlock = vO2.ownBlock ∨ ∃ b, v2.ownBlock = some b ∧ wr.heap.size ≤ b) :
  ReX w0 w w1 G x wn tr W vW vO vC (w'.setCell ⟨x, 3, none⟩ v2) (fun k => (G' k ∨ wr.heap.size ≤ k) ∧ k < w'.heap.size) O3 C2 nx2 v2 vC2 X v6 := by
 obtain ⟨g1, g2⟩ := h.rx.putO hr hg hat
 refine ⟨g1, h.sx.trans g2, fun k hk => ⟨.inl (h.sub k hk), Nat.lt_of_lt_of_le (h.rx.lt k (h.sub k hk)) hg.size⟩, ?_, fun k hk => ⟨(h.own k hk).1, fun hF => ?_⟩⟩
 ·refine Kd.R_mono (Kd.R_far (p := ⟨x, 3, none⟩) (Kd.R_grown (Kd.R_mono (Kd.R_bound h.out) (ok' := fun k => (w.heap.size ≤ k ∧ ¬ Wx x vW vO2 vC2 k) ∧ k < wr.heap.size) (fun k hk => ⟨hk.1, hk.2.2.1⟩)) hg (fun k hk e => hk.1.2 (.inr (.inr (.inl e))))) (fun k hk e => hk.1.2 (.inl e)) v2) (fun k hk => ⟨hk.1.1, fun hR => ?_⟩)
  rcases g2.wr k hR with e | e
  ·exact hk.1.2 e
  ·have := hk.2; omega
 ·have hkl := Kd.R_lt h.out k hk
  rcases hF.1 with e | e
  ·exact (h.own k hk).2 e
  ·omega
theorem ReX.putC (hf : SeF w0 w w1 (Wx x vW vO vC)) (h : ReX w0 w w1 G x wn tr W vW vO vC wr G' O2 C2 nx2 vO2 vC2 X v6) {C3 : List Int}
  (hr : (Kd.int .i64).R 3 w' w0.heap.size (fun k => (G' k ∨ wr.heap.size ≤ k) ∧ k ≠ x ∧ some k ≠ vW.ownBlock ∧ some k ≠ vO2.ownBlock) v2 C3) (hg : wr.grownBy w' vC2.ownBlock) (hat : v2.ownBlock = vC2.ownBlock ∨ ∃ b, v2.ownBlock = some b ∧ wr.heap.size ≤ b) :
  ReX w0 w w1 G x wn tr W vW vO vC (w'.setCell ⟨x, 4, none⟩ v2) (fun k => (G' k ∨ wr.heap.size ≤ k) ∧ k < w'.heap.size) O2 C3 nx2 vO2 v2 X v6 := by
 obtain ⟨g1, g2⟩ := h.rx.putC hr hg hat
 refine ⟨g1, h.sx.trans g2, fun k hk => ⟨.inl (h.sub k hk), Nat.lt_of_lt_of_le (h.rx.lt k (h.sub k hk)) hg.size⟩, ?_, fun k hk => ⟨(h.own k hk).1, fun hF => ?_⟩⟩
 ·refine Kd.R_mono (Kd.R_far (p := ⟨x, 4, none⟩) (Kd.R_grown (Kd.R_mono (Kd.R_bound h.out) (ok' := fun k => (w.heap.size ≤ k ∧ ¬ Wx x vW vO2 vC2 k) ∧ k < wr.heap.size) (fun k hk => ⟨hk.1, hk.2.2.1⟩)) hg (fun k hk e => hk.1.2 (.inr (.inr (.inr e))))) (fun k hk e => hk.1.2 (.inl e)) v2) (fun k hk => ⟨hk.1.1, fun hR => ?_⟩)
  rcases g2.wr k hR with e | e
  ·exact hk.1.2 e
  ·have := hk.2; omega
 ·have hkl := Kd.R_lt h.out k hk
  rcases hF.1 with e | e
  ·exact (h.own k hk).2 e
  ·omega
theorem SX.cell {w : World} {G R : Nat → Prop} {x j : Nat} (v : Value) (hx : R x) : SX w G R (w.setCell ⟨x, j, none⟩ v) G R :=
 ⟨set_size _ _ _, fun k _ hR => Below.heap_setCell w ⟨x, j, none⟩ v k (fun e => hR (by have e2 : k = x := e; exact e2 ▸ hx)), fun _ h => .inl h, fun _ h => .inl h⟩
theorem ReX.setN (h : ReX w0 w w1 G x wn tr W vW vO vC wr G' O2 C2 nx2 vO2 vC2 X v6) (n2 : Int) : ReX w0 w w1 G x wn tr W vW vO vC (wr.setCell ⟨x, 5, none⟩ (.int .i64 n2)) G' O2 C2 n2 vO2 vC2 X v6 :=
 ⟨h.rx.setN n2, h.sx.trans (SX.cell _ (.inl rfl)), h.sub, Kd.R_far (p := ⟨x, 5, none⟩) h.out (fun k hk e => hk.2 (.inl e)) _, h.own⟩
theorem ReX.start {nx : Int} {O : List S48} {C : List Int} (h : Rx w0 w G x wn tr W O C nx vW vO vC) (hb : Below w.heap.size w w1) (ha : k48.R 48 w1 w.heap.size (fun _ => True) va B) :
  ReX w0 w w1 G x wn tr W vW vO vC w1 (fun k => G k ∨ (w.heap.size ≤ k ∧ k < w1.heap.size)) O C nx vO vC [] (.slice none 0 0) ∧ k48.R 48 w1 w0.heap.size (fun k => w.heap.size ≤ k ∧ k < w1.heap.size) va B := by
 have hb' := h.below hb
 refine ⟨⟨⟨hb'.bl, hb'.blk, hb'.new, fun k hk => hk.elim (fun e => Nat.lt_of_lt_of_le (h.lt k e) hb.size) (fun e => e.2), .inl h.gx, Kd.R_mono hb'.rW (fun k hk => ⟨.inl hk.1, hk.2⟩), Kd.R_mono hb'.rO (fun k hk => ⟨.inl hk.1, hk.2⟩), Kd.R_mono hb'.rC (fun k hk => ⟨.inl hk.1, hk.2⟩)⟩, SX.refl _ _ _, fun k hk => hk, Kd.R_nil _ _ _ _ _, fun k hk => by simp [Value.ownBlock] at hk⟩, Kd.R_lower (Kd.R_mono (Kd.R_bound ha) (fun k hk => ⟨hk.2.1, hk.2.2.1⟩)) (below_size h.bl)⟩
theorem ReX.inn (hf : SeF w0 w w1 (Wx x vW vO vC)) (h : ReX w0 w w1 G x wn tr W vW vO vC wr G' O2 C2 nx2 vO2 vC2 X v6) {v : Value} {Y : List S34} (ha : k34.R 34 w1 w0.heap.size (fun k => w.heap.size ≤ k ∧ k < w1.heap.size) v Y) : k34.R 34 wr w0.heap.size (fun k => w.heap.size ≤ k ∧ k < w1.heap.size) v Y :=
 Kd.R_step ha (fun k hk _ => h.sx.fr k hk.2 (fun hR => by have := hf.lt k hR; omega))
theorem ReX.fin (hf : SeF w0 w w1 (Wx x vW vO vC)) (h : ReX w0 w w1 G x wn tr W vW vO vC wr G' O2 C2 nx2 vO2 vC2 X v6) (hb : Below wr.heap.size wr wc) (hr : k34.R 34 wc wr.heap.size (fun _ => True) v3 W2) (h1 : Below w.heap.size w w1) :
  ∃ G'', Rx w0 (wc.setCell ⟨x, 2, none⟩ v3) G'' x wn tr W2 O2 C2 nx2 v3 vO2 vC2 ∧ SX w G (Wx x vW vO vC) (wc.setCell ⟨x, 2, none⟩ v3) G'' (Wx x v3 vO2 vC2) ∧ k48.R 48 (wc.setCell ⟨x, 2, none⟩ v3) w0.heap.size (fun _ => True) v6 X := by
 have h01 := hf.h0
 have h12 := hf.h1
 have hsz := h.sx.sz
 have hc := h.below hb
 have hN : ∀ k, (wr.heap.size ≤ k ∧ k < wc.heap.size) → ¬ G' k ∧ k < wc.heap.size := fun k hk => ⟨fun e => by have := h.rx.lt k e; omega, hk.2⟩
 have hr' : k34.R 34 wc w0.heap.size (fun k => wr.heap.size ≤ k ∧ k < wc.heap.size) v3 W2 := Kd.R_lower (Kd.R_mono (Kd.R_bound hr) (fun k hk => ⟨hk.2.1, hk.2.2.1⟩)) (below_size h.rx.bl)
 have h3 : ∀ k, v3.ownBlock = some k → wr.heap.size ≤ k := fun k hk => (hr'.1 k hk).1
 refine ⟨_, hc.rx.setW hN hr', ?_, Kd.R_mono (Kd.R_far (p := ⟨x, 2, none⟩) hc.out (fun k hk e => hk.2 (.inl e)) _) (fun _ _ => trivial)⟩
 have s0 : SX w G (Wx x vW vO vC) w1 (fun k => G k ∨ (w.heap.size ≤ k ∧ k < w1.heap.size)) (Wx x vW vO vC) := ⟨h1.size, fun k hk _ => h1.block k hk, fun k hk => hk.imp id (fun e => e.1), fun k hk => .inl hk⟩
 refine s0.trans (h.sx.trans ⟨Nat.le_trans hb.size (set_size _ _ _), fun k hk hR => (Below.heap_setCell wc ⟨x, 2, none⟩ v3 k (fun e => hR (.inl e))).trans (hb.block k hk), fun k hk => hk.imp id (fun e => e.1), fun k hk => ?_⟩)
 rcases hk with e | e | e | e
 ·exact .inl (.inl e)
 ·exact .inr (h3 k e.symm)
 ·exact .inl (.inr (.inr (.inl e)))
 ·exact .inl (.inr (.inr (.inr e)))
end
end Go.Proofs.Ytclbempnhelmoaa.P
namespace Go.Proofs.Ytclbempnhelmoaa.P
open Go.RowKit YtclbempnhelmoaaW.PrintWords YtclbempnhelmoaaW.PrintLast YtclbempnhelmoaaW.PrintMore
def rhs.T5 : Bool × List (List Nat × List Nat) := (true, [([], []), ([0], [0]), ([1], [1]), ([2], [2]), ([3, 2], [2, 3]), ([2, 4], [2, 4]), ([5, 2], [5]), ([6], [6]), ([7, 6], [6, 7]), ([8, 6, 6], [6, 8]), ([9], [9]), ([10, 9], [9, 10]), ([9, 11, 6], [6, 9, 11]), ([12, 9, 6], [6, 12]), ([13], [13]), ([14, 13], [13, 14]), ([13], [13]), ([16, 13], [13, 16]), ([17, 13, 13], [13, 17]), ([15, 18, 13], [13, 15, 18]), ([19, 13], [13, 19]), ([20, 13], [13, 20]), ([13, 21, 6], [6, 13, 21]), ([6, 22], [6, 22]), ([23, 18, 0, 1, 2, 3, 4, 5, 6, 7, 8, 9, 10, 11, 12, 13, 14, 15, 16, 17, 18, 19, 20, 21, 22, 23], [23])])
def rhs.B5 : List Nat := [0, 1, 3, 7, 15, 31, 63, 127, 255, 511, 1023, 2047, 4095, 8191, 16383, 32767, 16383, 81919, 212991, 524287, 1048575, 2097151, 4194303, 8388607, 16777215]
theorem rhs.tab5 : rtab .any (opsOf Try.f46 5) = rhs.T5 := by kernel_rfl
theorem rhs.bits5 : waitsOk rhs.T5.2 rhs.B5 = true := by kernel_rfl
theorem rhas_w (a0 a1 a2 a3 : Int) (m : Nat) (hm3 : a3 = (m : Int)) (n f1 f2 : Int) (r : Bool) (hs : SA ⟨a0, a1, a2, a3⟩) (hf1 : thalwegref03_Far.f n a2 = some f1) (hf2 : thalwegref03_Far.f a2 n = some f2) (hrel : f1 = (65536 - f2) % 65536 ∧ 0 ≤ f2 ∧ f2 < 65536) (hr : r = (decide (32768 ≤ f2) || (decide (1 ≤ f2) && decide (f2 ≤ 16) && m.testBit (f2 - 1).toNat))) (w : World) :
  Calls Try.prog 46 #[.agg #[.int .i64 a0, .int .i64 a1, .int .i64 a2, .int .i64 a3], .int .i64 n] w fun e w' => e = .returned (.bool r) ∧ Below w.heap.size w w' := by
 have HO := Aside0.mk (show thalwegref07_One.f a0 a1 a2 a3 = some true by rw [one_eq ⟨a0, a1, a2, a3⟩, decide_eq_true hs])
 have HF1 := Aside0.mk hf1
 have HF2 := Aside0.mk hf2
 have HR := Aside0.mk hr
 have HL := Aside0.mk hrel
 have HM := Aside0.mk (show m < 65536 by have h : a3 ≤ 65535 := hs.2.2.2.2; omega)
 have HM3 := Aside0.mk hm3
 clear hs hf1 hf2 hr hrel hm3
 go_enter Try.func46, Try.ntmps46
 go_upto_region 5 with (first
  | ((with_reducible refine gate_dst (N := 2) rfl ?_); refine box_event ?hg (N := 2) ?hd (cs := #[.int .i64 a0, .int .i64 a1, .int .i64 a2, .int .i64 a3]) (t := 36) ?hr ?_; (case hd => rfl); (case hg => rfl); (case hr => first | (go_simp; done) | (go_simp; rfl) | rfl | kernel_rfl); intro gA hgA w2 hbox hb; have BA2 := Aside0.mk hbox; have BB2 := Aside0.mk hb; have x0 := (blk_cell BA2.out 0).trans rfl; have x1 := (blk_cell BA2.out 1).trans rfl; have x2 := (blk_cell BA2.out 2).trans rfl; have x3 := (blk_cell BA2.out 3).trans rfl; clear hb hbox hgA)
  | (go_at_call 45; (with_reducible refine (thalwegref07_One.calls a0 a1 a2 a3 true _ HO.out).mono ?_); rintro x_ w3 ⟨rfl, hb⟩; have BB3 := Aside0.mk (below_step BB2.out hb); have BA3 := Aside0.mk (blk_below BA2.out hb); clear x0 x1 x2 x3; have y2 : w3.cell? ⟨gA, 2, none⟩ = some (.int .i64 a2) := (blk_cell BA3.out 2).trans rfl; clear hb)
  | (go_at_call 42; (with_reducible refine (thalwegref03_Far.calls n a2 f1 _ HF1.out).mono ?_); rintro x_ w4 ⟨rfl, hd⟩; have BB4 := Aside0.mk (below_step BB3.out hd.below); have BA4 := Aside0.mk (blk_below BA3.out hd.below); have z2 : w4.cell? ⟨gA, 2, none⟩ = some (.int .i64 a2) := (blk_cell BA4.out 2).trans rfl; clear hd y2)
  | (go_at_call 42; (with_reducible refine (thalwegref03_Far.calls a2 n f2 _ HF2.out).mono ?_); rintro x_ w5 ⟨rfl, hd⟩; have BB5 := Aside0.mk (below_step BB4.out hd.below); have BA5 := Aside0.mk (blk_below BA4.out hd.below); have v3 : w5.cell? ⟨gA, 3, none⟩ = some (.int .i64 a3) := (blk_cell BA5.out 3).trans rfl; clear hd z2))
 by_cases hA : f1 ≥ 1 ∧ f1 ≤ 32768
 ·have q1 : decide (f1 ≥ 1) = true := decide_eq_true hA.1
  have q2 : decide (f1 ≤ 32768) = true := decide_eq_true hA.2
  have HV := Aside0.mk (show r = true by rw [HR.out, decide_eq_true (show 32768 ≤ f2 by have := HL.out; omega), Bool.true_or])
  clear hA
  refine start_ (n := 25) (S := fun w' => True) (ds := []) #[false, false, false, false, false, false, false, false, false, false, false, false, false, false, false, false, false, false, false, false, false, false, false, false, false] (by kernel_rfl) rfl rfl trivial (fun hHeld => ?_); refine with_tabW rhs.tab5 rhs.bits5 (fun HT_ HW_ => ?_)
  refine pureA (i := 0) (N := some 18) HT_ ?_
  refine pureA (i := 1) (N := some 19) HT_ ?_
  refine pureA (i := 2) (N := some 20) HT_ ?_
  refine pureA (i := 3) (N := some 21) HT_ ?_
  refine pureA (i := 4) (N := some 22) HT_ ?_
  refine pureA (i := 5) (N := some 23) HT_ ?_
  refine pureA (i := 6) (N := some 24) HT_ ?_
  refine pureN (i := 7) (N := some 25) HT_ ?_
  refine pureN (i := 8) (N := some 26) HT_ ?_
  refine pureN (i := 9) (N := some 27) HT_ ?_
  refine pureN (i := 10) (N := some 28) HT_ ?_
  refine pureN (i := 11) (N := some 29) HT_ ?_
  refine pureN (i := 12) (N := some 30) HT_ ?_
  refine pureN (i := 13) (N := some 31) HT_ ?_
  refine pureN (i := 14) (N := some 32) HT_ ?_
  refine pureN (i := 15) (N := some 33) HT_ ?_
  refine pureN (i := 16) (N := some 34) HT_ ?_
  refine pureN (i := 17) (N := some 35) HT_ ?_
  refine pureN (i := 18) (N := some 36) HT_ ?_
  refine pureN (i := 19) (N := some 37) HT_ ?_
  refine pureN (i := 20) (N := some 38) HT_ ?_
  refine pureN (i := 21) (N := some 39) HT_ ?_
  refine pureN (i := 22) (N := some 40) HT_ ?_
  refine pureA (i := 23) (N := some 41) HT_ ?_
  refine pureA (i := 24) (N := some 4) HT_ ?_
  refine done_ (done_of HT_.out (by kernel_rfl)) ?_
  go_wp2
  go_ret
  exact ⟨by rw [HV.out]; rfl, below_step BB5.out (below_drew (Below.refl _ _))⟩
 ·by_cases hB : f2 < 1
  ·have q1 : decide (f1 ≥ 1) = false := decide_eq_false (by have := HL.out; omega)
   have q3 : decide (f2 ≥ 1) = false := decide_eq_false (by omega)
   have HV := Aside0.mk (show r = false by rw [HR.out, decide_eq_false (show ¬ 32768 ≤ f2 by omega), decide_eq_false (show ¬ 1 ≤ f2 by omega)]; rfl)
   clear hA hB
   refine start_ (n := 25) (S := fun w' => True) (ds := []) #[false, false, false, false, false, false, false, false, false, false, false, false, false, false, false, false, false, false, false, false, false, false, false, false, false] (by kernel_rfl) rfl rfl trivial (fun hHeld => ?_); refine with_tabW rhs.tab5 rhs.bits5 (fun HT_ HW_ => ?_)
   refine pureA (i := 0) (N := some 18) HT_ ?_
   refine pureA (i := 1) (N := some 19) HT_ ?_
   refine pureA (i := 2) (N := some 20) HT_ ?_
   refine pureN (i := 3) (N := some 21) HT_ ?_
   refine pureN (i := 4) (N := some 22) HT_ ?_
   refine pureA (i := 5) (N := some 23) HT_ ?_
   refine pureA (i := 6) (N := some 24) HT_ ?_
   refine pureA (i := 7) (N := some 25) HT_ ?_
   refine pureA (i := 8) (N := some 26) HT_ ?_
   refine pureA (i := 9) (N := some 27) HT_ ?_
   refine pureN (i := 10) (N := some 28) HT_ ?_
   refine pureN (i := 11) (N := some 29) HT_ ?_
   refine pureA (i := 12) (N := some 30) HT_ ?_
   refine pureA (i := 13) (N := some 31) HT_ ?_
   refine pureN (i := 14) (N := some 32) HT_ ?_
   refine pureN (i := 15) (N := some 33) HT_ ?_
   refine pureN (i := 16) (N := some 34) HT_ ?_
   refine pureN (i := 17) (N := some 35) HT_ ?_
   refine pureN (i := 18) (N := some 36) HT_ ?_
   refine pureN (i := 19) (N := some 37) HT_ ?_
   refine pureN (i := 20) (N := some 38) HT_ ?_
   refine pureN (i := 21) (N := some 39) HT_ ?_
   refine pureA (i := 22) (N := some 40) HT_ ?_
   refine pureA (i := 23) (N := some 41) HT_ ?_
   refine pureA (i := 24) (N := some 4) HT_ ?_
   refine done_ (done_of HT_.out (by kernel_rfl)) ?_
   go_wp2
   go_ret
   exact ⟨by rw [HV.out]; rfl, below_step BB5.out (below_drew (Below.refl _ _))⟩
  have q1 : decide (f1 ≥ 1) = true := decide_eq_true (by have := HL.out; omega)
  have q2 : decide (f1 ≤ 32768) = false := decide_eq_false (by have := HL.out; omega)
  have q3 : decide (f2 ≥ 1) = true := decide_eq_true (by omega)
  have HN := Aside0.mk (show decide (32768 ≤ f2) = false from decide_eq_false (by have := HL.out; omega))
  by_cases hC : f2 ≤ 16
  ·have q4 : decide (f2 ≤ 16) = true := decide_eq_true hC
   obtain ⟨j, hj⟩ : ∃ j : Nat, (j : Int) = f2 - 1 := ⟨(f2 - 1).toNat, by omega⟩
   have hjw : wrap64 (f2 - 1) = ((j : Nat) : Int) := by rw [hj]; exact w64 (by omega) (by omega)
   obtain ⟨KK, hk⟩ := rpow_ev j (by omega)
   have HPW := Aside0.mk (show thalwegref07_power.f KK (wrap64 (f2 - 1)) = some ((2 ^ j : Nat) : Int) by rw [hjw]; exact hk KK (Nat.le_refl _))
   have HV := Aside0.mk (show r = m.testBit j by rw [HR.out, HN.out, decide_eq_true (show 1 ≤ f2 by omega), q4, ← hj]; simp)
   have hp : 0 < 2 ^ j := Nat.pow_pos (by decide)
   have hpz : (((2 ^ j : Nat) : Int) == 0) = false := beq_eq_false_iff_ne.mpr (by omega)
   have hpn : ¬ ((2 ^ j : Nat) : Int) = 0 := by omega
   have HBD := Aside0.mk (show (Int.tmod (wrap64 (Int.tdiv a3 ((2 ^ j : Nat) : Int))) 2 == 1) = m.testBit j by rw [HM3.out]; exact bit_div m j HM.out (by omega))
   obtain ⟨pp, hpp⟩ : ∃ pp : Int, pp = ((2 ^ j : Nat) : Int) := ⟨_, rfl⟩
   rw [← hpp] at hpz hpn HPW HBD
   clear hA hB hC hk hp hj hjw hpp
   refine start_ (n := 25) (S := fun w' => w'.cell? ⟨gA, 3, none⟩ = some (.int .i64 a3)) (ds := []) #[false, false, false, false, false, false, false, false, false, false, false, false, false, false, false, false, false, false, false, false, false, false, false, false, false] (by kernel_rfl) rfl rfl (v3) (fun hHeld => ?_); refine with_tabW rhs.tab5 rhs.bits5 (fun HT_ HW_ => ?_)
   refine pureA (i := 0) (N := some 18) HT_ ?_
   refine pureA (i := 1) (N := some 19) HT_ ?_
   refine pureA (i := 2) (N := some 20) HT_ ?_
   refine pureA (i := 3) (N := some 21) HT_ ?_
   refine pureA (i := 4) (N := some 22) HT_ ?_
   refine pureA (i := 5) (N := some 23) HT_ ?_
   refine pureA (i := 6) (N := some 24) HT_ ?_
   refine pureA (i := 7) (N := some 25) HT_ ?_
   refine pureA (i := 8) (N := some 26) HT_ ?_
   refine pureA (i := 9) (N := some 27) HT_ ?_
   refine pureA (i := 10) (N := some 28) HT_ ?_
   refine pureA (i := 11) (N := some 29) HT_ ?_
   refine pureA (i := 12) (N := some 30) HT_ ?_
   refine pureA (i := 13) (N := some 31) HT_ ?_
   refine pureA (i := 14) (N := some 32) HT_ ?_
   refine pureA (i := 16) (N := some 34) HT_ ?_
   refine pureA (i := 17) (N := some 35) HT_ ?_
   refine takeA (i := 15) (N := some 33) HT_ HW_ hHeld ?_
   refine oneA (i := 18) (N := some 36) HT_ (fun K hK => ?_)
   refine goes_ Try.func64 (by kernel_rfl) rfl #[.int .i64 (wrap64 (f2 - 1))] (by rfl) rfl rfl (by simp only [List.map_toArray, List.map_cons, List.map_nil]; rfl) ?_
   with_reducible refine (thalwegref07_power.calls KK (wrap64 (f2 - 1)) pp _ HPW.out).mono ?_
   rintro e w6 ⟨rfl, hd6⟩
   refine ⟨_, rfl, ?_⟩
   have BB6 := Aside0.mk (below_step BB5.out (below_step (below_drew (Below.refl _ _)) hd6.below))
   have hb6 := hd6.below
   refine hK.out _ _ ((hb6.cell (World.block_lt_of_cell? _ _ hHeld)).trans hHeld) (fun hHeld => ?_)
   clear hK K
   refine normA (N := 36) ?_
   refine pureA (i := 19) (N := some 37) HT_ ?_
   refine pureA (i := 20) (N := some 38) HT_ ?_
   refine pureA (i := 21) (N := some 39) HT_ ?_
   refine pureA (i := 22) (N := some 40) HT_ ?_
   refine pureA (i := 23) (N := some 41) HT_ ?_
   refine pureA (i := 24) (N := some 4) HT_ ?_
   refine done_ (done_of HT_.out (by kernel_rfl)) ?_
   go_wp2
   go_ret
   exact ⟨by rw [HV.out, ← HBD.out]; rfl, BB6.out⟩
  ·have q4 : decide (f2 ≤ 16) = false := decide_eq_false hC
   have HV := Aside0.mk (show r = false by rw [HR.out, HN.out, q4, Bool.and_false, Bool.false_and]; rfl)
   clear hA hB hC
   refine start_ (n := 25) (S := fun w' => True) (ds := []) #[false, false, false, false, false, false, false, false, false, false, false, false, false, false, false, false, false, false, false, false, false, false, false, false, false] (by kernel_rfl) rfl rfl trivial (fun hHeld => ?_); refine with_tabW rhs.tab5 rhs.bits5 (fun HT_ HW_ => ?_)
   refine pureA (i := 0) (N := some 18) HT_ ?_
   refine pureA (i := 1) (N := some 19) HT_ ?_
   refine pureA (i := 2) (N := some 20) HT_ ?_
   refine pureA (i := 3) (N := some 21) HT_ ?_
   refine pureA (i := 4) (N := some 22) HT_ ?_
   refine pureA (i := 5) (N := some 23) HT_ ?_
   refine pureA (i := 6) (N := some 24) HT_ ?_
   refine pureA (i := 7) (N := some 25) HT_ ?_
   refine pureA (i := 8) (N := some 26) HT_ ?_
   refine pureA (i := 9) (N := some 27) HT_ ?_
   refine pureA (i := 10) (N := some 28) HT_ ?_
   refine pureA (i := 11) (N := some 29) HT_ ?_
   refine pureA (i := 12) (N := some 30) HT_ ?_
   refine pureA (i := 13) (N := some 31) HT_ ?_
   refine pureN (i := 14) (N := some 32) HT_ ?_
   refine pureN (i := 15) (N := some 33) HT_ ?_
   refine pureN (i := 16) (N := some 34) HT_ ?_
   refine pureN (i := 17) (N := some 35) HT_ ?_
   refine pureN (i := 18) (N := some 36) HT_ ?_
   refine pureN (i := 19) (N := some 37) HT_ ?_
   refine pureN (i := 20) (N := some 38) HT_ ?_
   refine pureN (i := 21) (N := some 39) HT_ ?_
   refine pureA (i := 22) (N := some 40) HT_ ?_
   refine pureA (i := 23) (N := some 41) HT_ ?_
   refine pureA (i := 24) (N := some 4) HT_ ?_
   refine done_ (done_of HT_.out (by kernel_rfl)) ?_
   go_wp2
   go_ret
   exact ⟨by rw [HV.out]; rfl, below_step BB5.out (below_drew (Below.refl _ _))⟩
theorem wf_small {a : Int} (h : 0 ≤ a ∧ a ≤ 65535) : (Lit.int .i64 a).wf = true := by
 simp only [Lit.wf]
 rw [Bool.and_eq_true]
 have h1 : IntKind.i64.min = -9223372036854775808 := by decide
 have h2 : IntKind.i64.max = 9223372036854775807 := by decide
 exact ⟨decide_eq_true (by rw [h1]; omega), decide_eq_true (by rw [h2]; omega)⟩
theorem rhas_a {a : S36} {n : Int} (hs : SA a) (hn : (Lit.int .i64 n).wf = true) (w : World) : Calls Try.prog 46 #[.agg #[.int .i64 a.f0, .int .i64 a.f1, .int .i64 a.f2, .int .i64 a.f3], .int .i64 n] w fun e w' => e = .returned (.bool (hasA a n)) ∧ Below w.heap.size w w' := by
 obtain ⟨m, hm⟩ := Int.eq_ofNat_of_zero_le hs.2.2.2.1
 have wf2 : (Lit.int .i64 a.f2).wf = true := wf_small hs.2.2.1
 refine rhas_w a.f0 a.f1 a.f2 a.f3 m hm n (far n a.f2) (far a.f2 n) _ hs (rfar_eq _ _ hn wf2) (rfar_eq _ _ wf2 hn) ⟨by unfold far; omega, by unfold far; omega, by unfold far; omega⟩ ?_ w
 unfold hasA hasB
 rw [decide_eq_true hs, Bool.true_and, hm, Int.toNat_natCast]
 simp only [Bool.and_assoc]
end Go.Proofs.Ytclbempnhelmoaa.P
namespace Go.Proofs.Ytclbempnhelmoaa.P
open Go.RowKit YtclbempnhelmoaaW.PrintWords YtclbempnhelmoaaW.PrintLast YtclbempnhelmoaaW.PrintMore
open Classical
theorem und_ints : Try.prog.underlying 52 = some (.slice 3) := by kernel_rfl
theorem oneI_C {w : World} {h : Nat} {x : Int} (hv : w.heap[h]? = some (.cells #[.int .i64 x] 3 (0, 0))) : (Kd.int .i64).C w (some ⟨h, 0, none⟩) 1 [x] := by
 refine ⟨rfl, by omega, fun _ => ⟨_, rfl, fun j p hp => ⟨[.int .i64 p], rfl, rfl, fun i u hu => ?_⟩⟩⟩
 have hj : j = 0 := by have := (List.getElem?_eq_some_iff.1 hp).1; simpa using this
 subst hj
 obtain rfl : x = p := by simpa using hp
 have hi : i = 0 := by have := (List.getElem?_eq_some_iff.1 hu).1; simpa using this
 subst hi
 have hu' : Value.int .i64 x = u := by simpa using hu
 subst hu'
 rw [show (0 * (Kd.int .i64).sz + 0) = 0 by omega, show (⟨h, 0, none⟩ : Addr).add 0 = ⟨h, 0, none⟩ from add_plain h 0]
 simp [World.cell?, hv]
theorem grow_cell {w w' : World} {row : Option Nat} {a : Addr} {v : Value} (hg : w.grownBy w' row) (h : w.cell? a = some v) (hn : some a.block ≠ row) : w'.cell? a = some v :=
 (World.cell?_of_block (hg.block _ (World.block_lt_of_cell? _ _ h) hn)).trans h
structure RgS (w0 w wr : World) (ok : Nat → Prop) (X : List S48) (Y : List Int) (v5 v6 : Value) : Prop where
 ou : OuS w0 w wr ok X v5
 it : (Kd.int .i64).R 3 wr w.heap.size (fun _ => True) v6 Y
section
variable {w0 w wr w' : World} {ok : Nat → Prop} {X X2 : List S48} {Y Y2 : List Int} {v5 v6 v2 : Value}
theorem RgS.below (h : RgS w0 w wr ok X Y v5 v6) (hb : Below wr.heap.size wr w') : RgS w0 w w' ok X Y v5 v6 := ⟨h.ou.below hb, Kd.R_below h.it hb⟩
theorem RgS.drew (h : RgS w0 w wr ok X Y v5 v6) : RgS w0 w wr.drew ok X Y v5 v6 := h.below (below_drew (Below.refl _ _))
theorem RgS.app5 (h : RgS w0 w wr ok X Y v5 v6) (hw : w0.heap.size ≤ w.heap.size) (hr : k48.R 48 w' w0.heap.size (fun k => w.heap.size ≤ k ∨ ok k) v2 X2) (hb : Below w0.heap.size w0 w') (hg : wr.grownBy w' v5.ownBlock) (hat : v2.ownBlock = v5.ownBlock ∨ ∃ b, v2.ownBlock = some b ∧ wr.heap.size ≤ b) : RgS w0 w w' ok X2 Y v2 v6 :=
 ⟨h.ou.appended hw hr hb hg hat, Kd.R_over' h.it (Kd.R_typed h.ou.row) (by decide) hg⟩
theorem RgS.app6 (h : RgS w0 w wr ok X Y v5 v6) (hw : w0.heap.size ≤ w.heap.size) (hr : (Kd.int .i64).R 3 w' w.heap.size (fun _ => True) v2 Y2) (hg : wr.grownBy w' v6.ownBlock) : RgS w0 w w' ok X Y2 v5 v2 :=
 ⟨⟨pw_below_grown h.ou.bl _ h.ou.sz hg (fun k hk => Kd.R_base h.it k hk), pw_below_grown h.ou.b0 _ (below_size h.ou.b0) hg (fun k hk => Nat.le_trans hw (Kd.R_base h.it k hk)), Kd.R_over' h.ou.row (Kd.R_typed h.it) (by decide) hg, h.ou.own⟩, hr⟩
end
def OKg (w : World) (G : Nat → Prop) (x : Nat) (vW vC : Value) (k : Nat) : Prop := (G k ∧ k ≠ x ∧ some k ≠ vW.ownBlock ∧ some k ≠ vC.ownBlock) ∧ k < w.heap.size
theorem Rx.got {w0 w wr : World} {G : Nat → Prop} {x : Nat} {wn tr nx : Int} {W : List S34} {O X : List S48} {C Y : List Int} {vW vO vC v5 v6 : Value} (h : Rx w0 w G x wn tr W O C nx vW vO vC) (s : RgS w0 w wr (OKg w G x vW vC) X Y v5 v6) :
  Rx w0 ((wr.setCell ⟨x, 3, none⟩ v5).setCell ⟨x, 4, none⟩ v6) (fun k => (G k ∨ w.heap.size ≤ k) ∧ k < wr.heap.size) x wn tr W X Y nx vW v5 v6 ∧ SX w G (Wx x vW vO vC) ((wr.setCell ⟨x, 3, none⟩ v5).setCell ⟨x, 4, none⟩ v6) (fun k => (G k ∨ w.heap.size ≤ k) ∧ k < wr.heap.size) (Wx x vW v5 v6) := by
 have hx := (s.ou.bl.block x (blk_lt h.blk)).trans h.blk
 have hxl := blk_lt h.blk
 have hsz := s.ou.sz
 have hw0 := below_size h.bl
 have hs2 : wr.heap.size ≤ ((wr.setCell ⟨x, 3, none⟩ v5).setCell ⟨x, 4, none⟩ v6).heap.size := Nat.le_trans (set_size _ _ _) (set_size _ _ _)
 have h5 : ∀ k, v5.ownBlock = some k → w.heap.size ≤ k := s.ou.own
 have h6 : ∀ k, v6.ownBlock = some k → w.heap.size ≤ k := fun k hk => Kd.R_base s.it k hk
 refine ⟨⟨((s.ou.b0).setCell h.new _).setCell h.new _, blk_put (blk_put hx 3 v5 rfl) 4 v6 rfl, h.new, fun k hk => Nat.lt_of_lt_of_le hk.2 hs2, ⟨.inl h.gx, by omega⟩, ?_, ?_, ?_⟩, ⟨Nat.le_trans hsz hs2, fun k hk hR => ?_, fun k hk => hk.1, fun k hk => ?_⟩⟩
 ·refine Kd.R_mono (Kd.R_far (p := ⟨x, 4, none⟩) (Kd.R_far (p := ⟨x, 3, none⟩) (Kd.R_below (Kd.R_bound h.rW) s.ou.bl) (fun k hk e => hk.1.2.1 e) v5) (fun k hk e => hk.1.2.1 e) v6) (fun k hk => ⟨⟨.inl hk.1.1, by have := hk.2.2.1; omega⟩, hk.1.2.1, fun e => by have := h5 k e.symm; have := hk.2.2.1; omega, fun e => by have := h6 k e.symm; have := hk.2.2.1; omega⟩)
 ·have hne : ∀ k, (w.heap.size ≤ k ∨ OKg w G x vW vC k) → k ≠ x := fun k hk => by
   rcases hk with e | e
   ·omega
   ·exact e.1.2.1
  have ht : ∀ q ∈ 48 :: k48.E, q ≠ 3 := by decide
  refine Kd.R_far (p := ⟨x, 4, none⟩) (Kd.R_far (p := ⟨x, 3, none⟩) (Kd.R_mono (Kd.R_bound s.ou.row) (fun k hk => ?_)) (fun k hk e => hk.2.1 e) v5) (fun k hk e => hk.2.1 e) v6
  refine ⟨⟨?_, hk.2.2.1⟩, hne k hk.1, ?_, fun e => ?_⟩
  ·rcases hk.1 with e | e
   ·exact .inr e
   ·exact .inl e.1.1
  ·rcases hk.1 with e | e
   ·exact fun e2 => by have := Kd.R_lt h.rW k e2.symm; omega
   ·exact e.1.2.2.1
  ·obtain ⟨_, _, _, q, hq, cells, hc⟩ := hk
   obtain ⟨c2, hc2⟩ := Kd.R_typed s.it k e.symm
   rw [hc2] at hc
   simp at hc
   exact ht q hq hc.2.symm
 ·have ht : ∀ q ∈ 3 :: (Kd.int .i64).E, q ≠ 48 := by decide
  refine Kd.R_far (p := ⟨x, 4, none⟩) (Kd.R_far (p := ⟨x, 3, none⟩) (Kd.R_lower (Kd.R_mono (Kd.R_bound s.it) (fun k hk => ?_)) (Nat.le_of_lt_succ (by omega))) (fun k hk e => hk.2.1 e) v5) (fun k hk e => hk.2.1 e) v6
  refine ⟨⟨.inr hk.2.1, hk.2.2.1⟩, by have := hk.2.1; omega, fun e => by have := Kd.R_lt h.rW k e.symm; have := hk.2.1; omega, fun e => ?_⟩
  obtain ⟨_, _, _, q, hq, cells, hc⟩ := hk
  obtain ⟨c2, hc2⟩ := Kd.R_typed s.ou.row k e.symm
  rw [hc2] at hc
  simp at hc
  exact ht q hq hc.2.symm
 ·exact ((Below.heap_setCell _ ⟨x, 4, none⟩ v6 k (fun e => hR (.inl e))).trans (Below.heap_setCell wr ⟨x, 3, none⟩ v5 k (fun e => hR (.inl e)))).trans (s.ou.bl.block k hk)
 ·rcases hk with e | e | e | e
  ·exact .inl (.inl e)
  ·exact .inl (.inr (.inl e))
  ·exact .inr (h5 k e.symm)
  ·exact .inr (h6 k e.symm)
def gotF (hs : Int → Bool) (D : List (S48 × Int)) (i : Nat) : List (S48 × Int) := (D.take i).filter (fun d => !hs d.1.f0)
theorem gotF_len (hs : Int → Bool) (D : List (S48 × Int)) (i : Nat) : (gotF hs D i).length ≤ D.length := Nat.le_trans (List.length_filter_le _ _) (by rw [List.length_take]; omega)
theorem gotF_all (hs : Int → Bool) (D : List (S48 × Int)) (i : Nat) (h : i = D.length) : gotF hs D i = D.filter (fun d => !hs d.1.f0) := by subst h; unfold gotF; rw [List.take_length]
theorem gotF_in (hs : Int → Bool) (D : List (S48 × Int)) (i : Nat) (h : i < D.length) (hb : hs (D[i]).1.f0 = true) : gotF hs D (i + 1) = gotF hs D i := by
 unfold gotF
 rw [List.take_succ_eq_append_getElem h, List.filter_append, List.filter_cons_of_neg (by simp [hb]), List.filter_nil, List.append_nil]
theorem gotF_out (hs : Int → Bool) (D : List (S48 × Int)) (i : Nat) (h : i < D.length) (hb : hs (D[i]).1.f0 = false) : gotF hs D (i + 1) = gotF hs D i ++ [D[i]] := by
 unfold gotF
 rw [List.take_succ_eq_append_getElem h, List.filter_append, List.filter_cons_of_pos (by simp [hb]), List.filter_nil]
theorem rd_fst (D : List (S48 × Int)) (i : Nat) (h : i < D.length) : rd_T48 (D.map Prod.fst) (i : Int) = (D[i]).1 := by
 unfold rd_T48
 rw [Int.toNat_natCast, List.getD_eq_getElem?_getD, List.getElem?_eq_getElem (by rw [List.length_map]; exact h)]
 simp
def rgo.T1 : Bool × List (List Nat × List Nat) := (true, [([], []), ([0], [0]), ([1], [1]), ([2, 1], [2]), ([3], [3]), ([4, 3, 3], [3, 4]), ([3], [3]), ([6, 3], [3, 6]), ([5, 7, 5, 3], [3, 5, 7]), ([3], [3]), ([9, 8, 3], [3, 9]), ([3], [3]), ([11, 3], [3, 11]), ([12, 3], [3, 12]), ([13, 3], [3, 13]), ([10, 14, 10, 3], [3, 10, 14]), ([8, 15, 3], [3, 8, 15]), ([3, 16], [3, 16])])
def rgo.B1 : List Nat := [0, 1, 3, 7, 15, 31, 15, 79, 255, 15, 1023, 15, 2063, 6159, 14351, 32767, 65535, 131071]
theorem rgo.tab1 : rtab .any (opsOf Try.f21 1) = rgo.T1 := by kernel_rfl
theorem rgo.bits1 : waitsOk rgo.T1.2 rgo.B1 = true := by kernel_rfl
def rgo.T8 : Bool × List (List Nat × List Nat) := (true, [([], []), ([], []), ([1], [1]), ([2], [2]), ([3], [3]), ([], []), ([4, 5], [4, 5]), ([6], [6]), ([7], [7]), ([0, 8], [0, 8]), ([9], [9])])
def rgo.B8 : List Nat := [0, 0, 2, 6, 14, 0, 62, 126, 254, 511, 1023]
theorem rgo.tab8 : rtab .any (opsOf Try.f21 8) = rgo.T8 := by kernel_rfl
theorem rgo.bits8 : waitsOk rgo.T8.2 rgo.B8 = true := by kernel_rfl
theorem rgot_bad {w0 w : World} {G : Nat → Prop} {x : Nat} {wn tr nx : Int} {W : List S34} {O : List S48} {C : List Int} {vW vO vC : Value} (h : Rx w0 w G x wn tr W O C nx vW vO vC) (a0 a1 a2 a3 : Int) (hk : thalwegref07_One.f a0 a1 a2 a3 = some false) :
  Calls Try.prog 21 #[.pointer (some ⟨x, 0, none⟩), .agg #[.int .i64 a0, .int .i64 a1, .int .i64 a2, .int .i64 a3]] w fun e w' => e = .returned (.int .i64 0) ∧ Below w.heap.size w w' := by
 have HS := Aside0.mk h
 have HK := Aside0.mk hk
 clear h hk
 go_enter Try.func21, Try.ntmps21
 go_upto_region 1 with ((with_reducible refine gate_dst (N := 3) rfl ?_); refine box_event ?hg (N := 3) ?hd (cs := #[.int .i64 a0, .int .i64 a1, .int .i64 a2, .int .i64 a3]) (t := 36) ?hr ?_; (case hd => rfl); (case hg => rfl); (case hr => first | (go_simp; done) | (go_simp; rfl) | rfl | kernel_rfl); intro gA hgA w2 hbox hb; have BA2 := Aside0.mk hbox; have BB2 := Aside0.mk hb; have S2 := Aside0.mk (HS.out.below hb); obtain ⟨x0, x1, x2, x3⟩ := cA4 BA2.out; clear hb hbox hgA)
 refine start_ (n := 18) (S := fun w' => w'.cell? ⟨gA, 0, none⟩ = some (.int .i64 a0) ∧ w'.cell? ⟨gA, 1, none⟩ = some (.int .i64 a1) ∧ w'.cell? ⟨gA, 2, none⟩ = some (.int .i64 a2) ∧ w'.cell? ⟨gA, 3, none⟩ = some (.int .i64 a3)) (ds := [1]) #[false, false, false, false, false, false, false, false, false, false, false, false, false, false, false, false, false, false] (by kernel_rfl) rfl rfl ⟨x0, x1, x2, x3⟩ (fun hHeld => ?_); refine with_tabW rgo.tab1 rgo.bits1 (fun HT_ HW_ => ?_)
 refine takeA (i := 0) (N := some 9) HT_ HW_ hHeld ?_
 refine last_ (i := 1) (N := some 10) #[true, true, false, false, false, false, false, false, false, false, false, false, false, false, false, false, false, false] rfl rfl (one_of HT_.out (by kernel_rfl)) (by decide) (fun K hK => ?_)
 refine goes_ Try.func45 (by kernel_rfl) rfl #[.agg #[.int .i64 a0, .int .i64 a1, .int .i64 a2, .int .i64 a3]] (by rfl) rfl rfl (by simp only [List.map_toArray, List.map_cons, List.map_nil]; rfl) ?_
 with_reducible refine (thalwegref07_One.calls a0 a1 a2 a3 _ _ HK.out).mono ?_
 rintro e w4 ⟨rfl, hb4⟩
 refine ⟨_, rfl, ?_⟩
 have BB4 := Aside0.mk (below_step (below_step BB2.out (below_drew (Below.refl _ _))) hb4)
 refine hK.out _ _ ?_
 clear hK K
 refine normA (N := 10) ?_
 refine pureA (i := 2) (N := some 11) HT_ ?_
 refine pureA (i := 3) (N := some 12) HT_ ?_
 refine pureN (i := 4) (N := some 13) HT_ ?_
 refine pureN (i := 5) (N := some 14) HT_ ?_
 refine pureN (i := 6) (N := some 15) HT_ ?_
 refine pureN (i := 7) (N := some 16) HT_ ?_
 refine pureN (i := 8) (N := some 17) HT_ ?_
 refine pureN (i := 9) (N := some 18) HT_ ?_
 refine pureN (i := 10) (N := some 19) HT_ ?_
 refine pureN (i := 11) (N := some 20) HT_ ?_
 refine pureN (i := 12) (N := some 21) HT_ ?_
 refine pureN (i := 13) (N := some 22) HT_ ?_
 refine pureN (i := 14) (N := some 23) HT_ ?_
 refine pureN (i := 15) (N := some 24) HT_ ?_
 refine pureN (i := 16) (N := some 25) HT_ ?_
 refine pureA (i := 17) (N := some 26) HT_ ?_
 refine done_ (done_of HT_.out (by kernel_rfl)) ?_
 go_wp2
 go_ret
 exact ⟨rfl, BB4.out⟩
theorem rgot_in {w0 w : World} {G : Nat → Prop} {x : Nat} {wn tr nx : Int} {W : List S34} {D : List (S48 × Int)} {vW vO vC : Value} (h : Rx w0 w G x wn tr W (D.map Prod.fst) (D.map Prod.snd) nx vW vO vC) (hl : D.length ≤ 1000000) (KK : Nat) (a0 a1 a2 a3 : Int) (hk : thalwegref07_One.f a0 a1 a2 a3 = some true) (f1 f2 : Int) (h1 : thalwegref03_Far.f (firstX (D.map Prod.fst) nx) a2 = some f1) (h2 : thalwegref03_Far.f (firstX (D.map Prod.fst) nx) nx = some f2) (hs : Int → Bool) (hh : ∀ d ∈ D, ∀ w : World, Calls Try.prog 46 #[.agg #[.int .i64 a0, .int .i64 a1, .int .i64 a2, .int .i64 a3], .int .i64 d.1.f0] w fun e w' => e = .returned (.bool (hs d.1.f0)) ∧ Below w.heap.size w w') :
  Calls Try.prog 21 #[.pointer (some ⟨x, 0, none⟩), .agg #[.int .i64 a0, .int .i64 a1, .int .i64 a2, .int .i64 a3]] w fun e w' => (f1 > f2 ∧ e = .returned (.int .i64 0) ∧ Below w.heap.size w w') ∨ (¬ f1 > f2 ∧ ∃ G' vO' vC', e = .returned (.int .i64 ((D.length : Int) - ((D.filter (fun d => !hs d.1.f0)).length : Int))) ∧ Rx w0 w' G' x wn tr W ((D.filter (fun d => !hs d.1.f0)).map Prod.fst) ((D.filter (fun d => !hs d.1.f0)).map Prod.snd) nx vW vO' vC' ∧ SX w G (Wx x vW vO vC) w' G' (Wx x vW vO' vC')) := by
 obtain ⟨fst, hfs⟩ : ∃ fst, fst = firstX (D.map Prod.fst) nx := ⟨_, rfl⟩
 rw [← hfs] at h1 h2
 obtain ⟨AO, cO, rfl⟩ := Kd.R_slice h.rO
 obtain ⟨AC, cC, rfl⟩ := Kd.R_slice h.rC
 rw [List.length_map] at h
 rw [List.length_map] at h
 obtain ⟨n, hn⟩ : ∃ n, n = D.length := ⟨_, rfl⟩
 rw [List.length_map, List.length_map]
 rw [← hn] at h ⊢
 have HS := Aside0.mk h
 have HN := Aside0.mk hn
 have HL := Aside0.mk hl
 have HH := Aside0.mk hh
 have HK := Aside0.mk hk
 have HFS := Aside0.mk hfs
 have HF1 := Aside0.mk h1
 have HF2 := Aside0.mk h2
 have HLF := Aside0.mk (show (D.filter (fun d => !hs d.1.f0)).length ≤ D.length from List.length_filter_le _ _)
 clear h hk hfs h1 h2 hn hl hh
 go_enter Try.func21, Try.ntmps21
 go_upto_region 1 with ((with_reducible refine gate_dst (N := 3) rfl ?_); refine box_event ?hg (N := 3) ?hd (cs := #[.int .i64 a0, .int .i64 a1, .int .i64 a2, .int .i64 a3]) (t := 36) ?hr ?_; (case hd => rfl); (case hg => rfl); (case hr => first | (go_simp; done) | (go_simp; rfl) | rfl | kernel_rfl); intro gA hgA w2 hbox hb; have BA2 := Aside0.mk hbox; have BB2 := Aside0.mk hb; have S2 := Aside0.mk (HS.out.below hb); obtain ⟨x0, x1, x2, x3⟩ := cA4 BA2.out; have x4 : w2.cell? ⟨x, 5, none⟩ = some (.int .i64 nx) := (blk_cell S2.out.blk 5).trans rfl; clear hb hbox hgA)
 refine start_ (n := 18) (S := fun w' => w'.cell? ⟨gA, 0, none⟩ = some (.int .i64 a0) ∧ w'.cell? ⟨gA, 1, none⟩ = some (.int .i64 a1) ∧ w'.cell? ⟨gA, 2, none⟩ = some (.int .i64 a2) ∧ w'.cell? ⟨gA, 3, none⟩ = some (.int .i64 a3) ∧ w'.cell? ⟨x, 5, none⟩ = some (.int .i64 nx)) (ds := [15]) #[false, false, false, false, false, false, false, false, false, false, false, false, false, false, false, false, false, false] (by kernel_rfl) rfl rfl ⟨x0, x1, x2, x3, x4⟩ (fun hHeld => ?_); refine with_tabW rgo.tab1 rgo.bits1 (fun HT_ HW_ => ?_)
 refine takeA (i := 0) (N := some 9) HT_ HW_ hHeld ?_
 refine oneA (i := 1) (N := some 10) HT_ (fun K hK => ?_)
 refine goes_ Try.func45 (by kernel_rfl) rfl #[.agg #[.int .i64 a0, .int .i64 a1, .int .i64 a2, .int .i64 a3]] (by rfl) rfl rfl (by simp only [List.map_toArray, List.map_cons, List.map_nil]; rfl) ?_
 with_reducible refine (thalwegref07_One.calls a0 a1 a2 a3 _ _ HK.out).mono ?_
 rintro e w4 ⟨rfl, hb4⟩
 refine ⟨_, rfl, ?_⟩
 have S4 := Aside0.mk ((S2.out.below (below_drew (Below.refl _ _))).below hb4)
 have BB4 := Aside0.mk (below_step (below_step BB2.out (below_drew (Below.refl _ _))) hb4)
 have BA4 := Aside0.mk (blk_below (blk_below BA2.out (below_drew (Below.refl _ _))) hb4)
 refine hK.out _ _ ⟨(hb4.cell (World.block_lt_of_cell? _ _ hHeld.1)).trans hHeld.1, (hb4.cell (World.block_lt_of_cell? _ _ hHeld.2.1)).trans hHeld.2.1, (hb4.cell (World.block_lt_of_cell? _ _ hHeld.2.2.1)).trans hHeld.2.2.1, (hb4.cell (World.block_lt_of_cell? _ _ hHeld.2.2.2.1)).trans hHeld.2.2.2.1, (hb4.cell (World.block_lt_of_cell? _ _ hHeld.2.2.2.2)).trans hHeld.2.2.2.2⟩ (fun hHeld => ?_)
 clear hK K
 refine normA (N := 10) ?_
 refine pureA (i := 2) (N := some 11) HT_ ?_
 refine pureA (i := 3) (N := some 12) HT_ ?_
 refine pureA (i := 4) (N := some 13) HT_ ?_
 refine pureA (i := 6) (N := some 15) HT_ ?_
 refine pureA (i := 9) (N := some 18) HT_ ?_
 refine pureA (i := 11) (N := some 20) HT_ ?_
 refine pureA (i := 12) (N := some 21) HT_ ?_
 refine pureA (i := 13) (N := some 22) HT_ ?_
 refine takeA (i := 7) (N := some 16) HT_ HW_ hHeld ?_
 refine takeA (i := 14) (N := some 23) HT_ HW_ hHeld ?_
 refine oneA (i := 5) (N := some 14) HT_ (fun K hK => ?_)
 refine goes_ Try.func41 (by kernel_rfl) rfl #[.pointer (some ⟨x, 0, none⟩)] (by rfl) rfl rfl (by simp only [List.map_toArray, List.map_cons, List.map_nil]; rfl) ?_
 with_reducible refine (rfirst_x S4.out).mono ?_
 rintro e w5 ⟨rfl, hw5⟩
 refine ⟨_, rfl, ?_⟩
 subst hw5
 rw [← HFS.out]
 refine hK.out _ _ ⟨hHeld.1, hHeld.2.1, hHeld.2.2.1, hHeld.2.2.2.1, hHeld.2.2.2.2⟩ (fun hHeld => ?_)
 clear hK K
 refine normA (N := 14) ?_
 refine oneA (i := 8) (N := some 17) HT_ (fun K hK => ?_)
 refine goes_ Try.func42 (by kernel_rfl) rfl #[.int .i64 fst, .int .i64 a2] (by rfl) rfl rfl (by simp only [List.map_toArray, List.map_cons, List.map_nil]; rfl) ?_
 with_reducible refine (thalwegref03_Far.calls fst a2 f1 _ HF1.out).mono ?_
 rintro e w5 ⟨rfl, hd5⟩
 refine ⟨_, rfl, ?_⟩
 have hb5 := hd5.below
 have S5 := Aside0.mk (S4.out.below hb5)
 have BB5 := Aside0.mk (below_step BB4.out hb5)
 have BA5 := Aside0.mk (blk_below BA4.out hb5)
 refine hK.out _ _ ⟨(hb5.cell (World.block_lt_of_cell? _ _ hHeld.1)).trans hHeld.1, (hb5.cell (World.block_lt_of_cell? _ _ hHeld.2.1)).trans hHeld.2.1, (hb5.cell (World.block_lt_of_cell? _ _ hHeld.2.2.1)).trans hHeld.2.2.1, (hb5.cell (World.block_lt_of_cell? _ _ hHeld.2.2.2.1)).trans hHeld.2.2.2.1, (hb5.cell (World.block_lt_of_cell? _ _ hHeld.2.2.2.2)).trans hHeld.2.2.2.2⟩ (fun hHeld => ?_)
 clear hK K
 refine normA (N := 17) ?_
 refine oneA (i := 10) (N := some 19) HT_ (fun K hK => ?_)
 refine goes_ Try.func41 (by kernel_rfl) rfl #[.pointer (some ⟨x, 0, none⟩)] (by rfl) rfl rfl (by simp only [List.map_toArray, List.map_cons, List.map_nil]; rfl) ?_
 with_reducible refine (rfirst_x S5.out).mono ?_
 rintro e w6 ⟨rfl, hw6⟩
 refine ⟨_, rfl, ?_⟩
 subst hw6
 rw [← HFS.out]
 refine hK.out _ _ ⟨hHeld.1, hHeld.2.1, hHeld.2.2.1, hHeld.2.2.2.1, hHeld.2.2.2.2⟩ (fun hHeld => ?_)
 clear hK K
 refine normA (N := 19) ?_
 refine last_ (i := 15) (N := some 24) #[true, true, true, true, true, true, true, true, true, true, true, true, true, true, true, true, false, false] rfl rfl (one_of HT_.out (by kernel_rfl)) (by decide) (fun K hK => ?_)
 refine goes_ Try.func42 (by kernel_rfl) rfl #[.int .i64 fst, .int .i64 nx] (by rfl) rfl rfl (by simp only [List.map_toArray, List.map_cons, List.map_nil]; rfl) ?_
 with_reducible refine (thalwegref03_Far.calls fst nx f2 _ HF2.out).mono ?_
 rintro e w7 ⟨rfl, hd7⟩
 refine ⟨_, rfl, ?_⟩
 have hb7 := hd7.below
 have S7 := Aside0.mk (S5.out.below hb7)
 have BB7 := Aside0.mk (below_step BB5.out hb7)
 have BA7 := Aside0.mk (blk_below BA5.out hb7)
 clear hb7 hd7
 refine hK.out _ _ ?_
 clear hK K
 refine normA (N := 24) ?_
 refine pureA (i := 16) (N := some 25) HT_ ?_
 refine pureA (i := 17) (N := some 26) HT_ ?_
 refine done_ (done_of HT_.out (by kernel_rfl)) ?_
 cases bq : decide (f1 > f2) with
 | true =>
  have HQ := Aside0.mk (of_decide_eq_true bq)
  go_wp2
  go_ret
  exact .inl ⟨HQ.out, rfl, BB7.out⟩
 | false =>
  have HQF := Aside0.mk (of_decide_eq_false bq)
  have HW0 := Aside0.mk (below_size S7.out.bl)
  have XLT := Aside0.mk (blk_lt S7.out.blk)
  go_wp2
  go_loopg [5, 6, 7] n (fun kq v5' v6' v7 wr => ∃ (i : Int) (v5 v6 : Value), v7 = .int .i64 i ∧ v5 = v5' ∧ v6 = v6' ∧ Aside0 (0 ≤ i) ∧ Aside0 (i + kq = n) ∧ Aside0 (RgS w0 w7 wr (OKg w7 G x vW (.slice AC n cC)) ((gotF hs D i.toNat).map Prod.fst) ((gotF hs D i.toNat).map Prod.snd) v5 v6))
  case atStart => exact ⟨0, _, _, rfl, rfl, rfl, ⟨by omega⟩, ⟨by omega⟩, ⟨⟨⟨Below.refl _ _, S7.out.bl, Kd.R_nil _ _ _ _ _, fun k hk => by simp [Value.ownBlock] at hk⟩, Kd.R_nil _ _ _ _ _⟩⟩⟩
  case round =>
   obtain ⟨i, v5, v6, rfl, rfl, rfl, I0, II, SS⟩ := hrel
   have BX := Aside0.mk ((SS.out.ou.bl.block x XLT.out).trans S7.out.blk)
   have u4 : wr.cell? ⟨x, 3, none⟩ = some (.slice AO n cO) := (blk_cell BX.out 3).trans rfl
   cases gk with
   | zero =>
    have hnl : decide (i < (n : Int)) = false := decide_eq_false (by have := II.out; omega)
    rw [gotF_all hs D i.toNat (by have := II.out; have := HN.out; omega)] at SS
    obtain ⟨A5, c5, e5⟩ := Kd.R_slice SS.out.ou.row
    obtain ⟨m, hm⟩ : ∃ m, m = (D.filter (fun d => !hs d.1.f0)).length := ⟨_, rfl⟩
    rw [List.length_map, ← hm] at e5
    subst e5
    obtain ⟨A6, c6, e6⟩ := Kd.R_slice SS.out.it
    rw [List.length_map, ← hm] at e6
    subst e6
    have HM := Aside0.mk hm
    have zf3 := blk_frozen BX.out 3
    have BX2 := Aside0.mk (blk_put BX.out 3 (.slice A5 m c5) (cs' := RxC wn tr vW (.slice A5 m c5) (.slice AC n cC) nx) rfl)
    have z4 : (wr.setCell ⟨x, 3, none⟩ (.slice A5 m c5)).cell? ⟨x, 4, none⟩ = some (.slice AC n cC) := (blk_cell BX2.out 4).trans rfl
    have zf4 := blk_frozen BX2.out 4
    have hwm : wrap64 ((n : Int) - (m : Int)) = (n : Int) - (m : Int) := w64 (by have := HN.out; have := HL.out; have := HM.out; have := HLF.out; omega) (by have := HN.out; have := HL.out; omega)
    clear hm
    go_wp2
    go_ret
    obtain ⟨g1, g2⟩ := S7.out.got SS.out
    exact .inr ⟨HQF.out, by rw [← HM.out]; rfl, _, .slice A5 m c5, .slice A6 m c6, g1, (SX.of_below G _ BB7.out).trans g2⟩
   | succ k1 =>
    have hlt := (show i < (n : Int) by have := II.out; omega)
    have h0 := I0.out
    have hd : decide (i < (n : Int)) = true := decide_eq_true hlt
    have hw : wrap64 (i + 1) = i + 1 := w64 (by omega) (by have := HL.out; have := HN.out; omega)
    have hiD : i.toNat < D.length := by have := HN.out; omega
    have HID := Aside0.mk hiD
    obtain ⟨y, hy⟩ : ∃ y, y = (D[i.toNat]).1 := ⟨_, rfl⟩
    obtain ⟨c, hc⟩ : ∃ c, c = (D[i.toNat]).2 := ⟨_, rfl⟩
    obtain ⟨ad, A1, c1, e_, y0', y1', hi1⟩ := at_BM S7.out.rO i h0 hlt
    cases e_
    have hry : rd_T48 (D.map Prod.fst) i = y := by
     rw [hy, ← rd_fst D i.toNat hiD]
     congr 1
     omega
    rw [hry] at y0' y1' hi1
    obtain ⟨m1, hm1⟩ : ∃ m1, m1 = y.f1.length := ⟨_, rfl⟩
    rw [← hm1] at y1' hi1
    have HI1 := Aside0.mk (Kd.R_mono (Kd.R_bound hi1) (ok' := OKg w7 G x vW (.slice AC n cC)) (fun k hk => ⟨hk.1.1, hk.2.2.1⟩))
    obtain ⟨gC, cap, evC, _, hgl, _⟩ := Kd.R_form S7.out.rC (by rw [List.length_map]; omega)
    injection evC with ea en ec
    subst ea
    have GLT := Aside0.mk hgl
    have hcell := (Kd.R_celln (0 : Int) S7.out.rC i h0 hlt).1
    have hrc : rd (D.map Prod.snd) i = c := by
     rw [hc, ← rd_snd D i.toNat (by rw [List.length_map]; exact hiD)]
     congr 1
     omega
    have u6 : wr.cell? ⟨gC, i.toNat, none⟩ = some (.int .i64 c) := by
     rw [← hrc]
     exact cell_below' SS.out.ou.bl hcell
    have u5 : wr.cell? ⟨x, 4, none⟩ = some (.slice (some ⟨gC, 0, none⟩) n cC) := (blk_cell BX.out 4).trans rfl
    have y0 := cell_below' SS.out.ou.bl y0'
    have y1 := cell_below' SS.out.ou.bl y1'
    have BAr := Aside0.mk (blk_below BA7.out SS.out.ou.bl)
    obtain ⟨u0, u1, u2, u3⟩ := cA4 BAr.out
    obtain ⟨X, hX⟩ : ∃ X, X = (gotF hs D i.toNat).map Prod.fst := ⟨_, rfl⟩
    obtain ⟨Y, hY⟩ : ∃ Y, Y = (gotF hs D i.toNat).map Prod.snd := ⟨_, rfl⟩
    rw [← hX, ← hY] at SS
    have HXL := Aside0.mk (show X.length ≤ D.length by rw [hX, List.length_map]; exact gotF_len hs D i.toNat)
    have HYL := Aside0.mk (show Y.length ≤ D.length by rw [hY, List.length_map]; exact gotF_len hs D i.toNat)
    have hq0 := HH.out _ (List.getElem_mem hiD)
    rw [← hy] at hq0
    have h0t := eq_true h0
    have hltt := eq_true hlt
    have HX := Aside0.mk hX
    have HY := Aside0.mk hY
    have HYE := Aside0.mk hy
    have HCE := Aside0.mk hc
    clear hcell hrc hry y0' y1' hi1 hX hY hgl en ec hy hc
    cases hq : hs y.f0 with
    | true =>
     have HG := Aside0.mk (gotF_in hs D i.toNat HID.out (by rw [← HYE.out]; exact hq))
     rw [hq] at hq0
     have HQ := Aside0.mk hq0
     clear hq hq0
     go_upto_region 8 with (fail)
     refine start_ (n := 11) (S := fun w' => w'.cell? ⟨gA, 0, none⟩ = some (.int .i64 a0) ∧ w'.cell? ⟨gA, 1, none⟩ = some (.int .i64 a1) ∧ w'.cell? ⟨gA, 2, none⟩ = some (.int .i64 a2) ∧ w'.cell? ⟨gA, 3, none⟩ = some (.int .i64 a3) ∧ w'.cell? ⟨x, 3, none⟩ = some (.slice (some ad) n cO) ∧ w'.cell? (ad.add (i.toNat * 2)) = some (.int .i64 y.f0)) (ds := [9]) #[false, false, false, false, false, false, false, false, false, false, false] (by kernel_rfl) rfl rfl ⟨u0, u1, u2, u3, u4, y0⟩ (fun hHeld => ?_); refine with_tabW rgo.tab8 rgo.bits8 (fun HT_ HW_ => ?_)
     refine pureA (i := 1) (N := some 37) HT_ ?_
     refine pureA (i := 2) (N := some 38) HT_ ?_
     refine pureA (i := 3) (N := some 39) HT_ ?_
     refine pureA (i := 5) (N := some 41) HT_ ?_
     refine takeA (i := 0) (N := some 36) HT_ HW_ hHeld ?_
     refine takeA (i := 4) (N := some 40) HT_ HW_ hHeld ?_
     refine pureA (i := 6) (N := some 42) HT_ ?_
     refine pureA (i := 7) (N := some 43) HT_ ?_
     refine takeA (i := 8) (N := some 44) HT_ HW_ hHeld ?_
     refine last_ (i := 9) (N := some 45) #[true, true, true, true, true, true, true, true, true, true, false] rfl rfl (one_of HT_.out (by kernel_rfl)) (by decide) (fun K hK => ?_)
     refine goes_ Try.func46 (by kernel_rfl) rfl #[.agg #[.int .i64 a0, .int .i64 a1, .int .i64 a2, .int .i64 a3], .int .i64 y.f0] (by rfl) rfl rfl (by simp only [List.map_toArray, List.map_cons, List.map_nil]; rfl) ?_
     with_reducible refine (HQ.out _).mono ?_
     rintro e w8 ⟨rfl, hb8⟩
     refine ⟨_, rfl, ?_⟩
     have S8 := Aside0.mk ((SS.out.drew).below hb8)
     have B8 := Aside0.mk (below_step (below_drew (Below.refl wr.heap.size wr)) hb8)
     have zy0 := cell_below' B8.out y0
     have zy1 := cell_below' B8.out y1
     have z4 := cell_below' B8.out u4
     have z5 := cell_below' B8.out u5
     have z6 := cell_below' B8.out u6
     clear hb8 y0 y1 u0 u1 u2 u3 u4 u5 u6
     refine hK.out _ _ ?_
     clear hK K
     refine normA (N := 45) ?_
     refine pureA (i := 10) (N := some 46) HT_ ?_
     refine done_ (done_of HT_.out (by kernel_rfl)) ?_
     go_wp2
     go_roundg k1
     case measure => have := II.out; omega
     case rel => exact ⟨i + 1, _, _, by first | rfl | simp [hw], rfl, rfl, ⟨by have := I0.out; omega⟩, ⟨by have := II.out; omega⟩, ⟨by rw [show (i + 1).toNat = i.toNat + 1 by have := I0.out; omega, HG.out, ← HX.out, ← HY.out]; exact S8.out⟩⟩
    | false =>
     have HG := Aside0.mk (gotF_out hs D i.toNat HID.out (by rw [← HYE.out]; exact hq))
     have HG1 := Aside0.mk (show (gotF hs D (i.toNat + 1)).map Prod.fst = X ++ [y] by rw [HG.out, List.map_append, ← HX.out, HYE.out]; rfl)
     have HG2 := Aside0.mk (show (gotF hs D (i.toNat + 1)).map Prod.snd = Y ++ [c] by rw [HG.out, List.map_append, ← HY.out, HCE.out]; rfl)
     rw [hq] at hq0
     have HQ := Aside0.mk hq0
     clear hq hq0
     go_upto_region 8 with (fail)
     refine start_ (n := 11) (S := fun w' => w'.cell? ⟨gA, 0, none⟩ = some (.int .i64 a0) ∧ w'.cell? ⟨gA, 1, none⟩ = some (.int .i64 a1) ∧ w'.cell? ⟨gA, 2, none⟩ = some (.int .i64 a2) ∧ w'.cell? ⟨gA, 3, none⟩ = some (.int .i64 a3) ∧ w'.cell? ⟨x, 3, none⟩ = some (.slice (some ad) n cO) ∧ w'.cell? (ad.add (i.toNat * 2)) = some (.int .i64 y.f0)) (ds := [9]) #[false, false, false, false, false, false, false, false, false, false, false] (by kernel_rfl) rfl rfl ⟨u0, u1, u2, u3, u4, y0⟩ (fun hHeld => ?_); refine with_tabW rgo.tab8 rgo.bits8 (fun HT_ HW_ => ?_)
     refine pureA (i := 1) (N := some 37) HT_ ?_
     refine pureA (i := 2) (N := some 38) HT_ ?_
     refine pureA (i := 3) (N := some 39) HT_ ?_
     refine pureA (i := 5) (N := some 41) HT_ ?_
     refine takeA (i := 0) (N := some 36) HT_ HW_ hHeld ?_
     refine takeA (i := 4) (N := some 40) HT_ HW_ hHeld ?_
     refine pureA (i := 6) (N := some 42) HT_ ?_
     refine pureA (i := 7) (N := some 43) HT_ ?_
     refine takeA (i := 8) (N := some 44) HT_ HW_ hHeld ?_
     refine last_ (i := 9) (N := some 45) #[true, true, true, true, true, true, true, true, true, true, false] rfl rfl (one_of HT_.out (by kernel_rfl)) (by decide) (fun K hK => ?_)
     refine goes_ Try.func46 (by kernel_rfl) rfl #[.agg #[.int .i64 a0, .int .i64 a1, .int .i64 a2, .int .i64 a3], .int .i64 y.f0] (by rfl) rfl rfl (by simp only [List.map_toArray, List.map_cons, List.map_nil]; rfl) ?_
     with_reducible refine (HQ.out _).mono ?_
     rintro e w8 ⟨rfl, hb8⟩
     refine ⟨_, rfl, ?_⟩
     have S8 := Aside0.mk ((SS.out.drew).below hb8)
     have B8 := Aside0.mk (below_step (below_drew (Below.refl wr.heap.size wr)) hb8)
     have zy0 := cell_below' B8.out y0
     have zy1 := cell_below' B8.out y1
     have z4 := cell_below' B8.out u4
     have z5 := cell_below' B8.out u5
     have z6 := cell_below' B8.out u6
     clear hb8 y0 y1 u0 u1 u2 u3 u4 u5 u6
     refine hK.out _ _ ?_
     clear hK K
     refine normA (N := 45) ?_
     refine pureA (i := 10) (N := some 46) HT_ ?_
     refine done_ (done_of HT_.out (by kernel_rfl)) ?_
     go_wp2_with (first
      | ((with_reducible refine gate_dst (N := 55) rfl ?_); refine lit1_event ?hg (N := 55) ?hd (cs := #[.int .i64 y.f0, .slice A1 m1 c1]) (t := 48) (n := 1) ?hr ?_; (case hd => rfl); (case hg => rfl); (case hr => first | (go_simp; done) | (go_simp; rfl)); intro gl hg w9 hbox hb; have S9 := Aside0.mk (S8.out.below hb); have BL := Aside0.mk hbox; have B9 := Aside0.mk (below_step B8.out hb); have q5 := cell_below' hb z5; have q6 := cell_below' hb z6; clear hb hbox hg z5 z6 z4 zy0 zy1)
      | ((with_reducible refine gate_builtin (b := .append) (xs := #[.tmp 47, .tmp 55]) rfl ?_); at_builtin; refine Kd.R_append_rows k48 (w0 := w0) w0.heap.size rfl (.tmp 47) (.tmp 55) 28 48 (.agg #[(.int .i64 0), (.slice none 0 0)]) 32 rfl Try.underlying28 info48 rfl (by decide) (by omega) v5 X [y] _ _ _ (fun k => w7.heap.size ≤ k ∨ (OKg w7 G x vW (.slice (some ⟨gC, 0, none⟩) n cC)) k) (OKg w7 G x vW (.slice (some ⟨gC, 0, none⟩) n cC)) rfl rfl ?aO ?aR (fun _ _ h => h) ?aP ?aF ?aB ?aS ?aL ?_; (case aR => exact oneB_M BL.out (Kd.R_below HI1.out S9.out.ou.bl)); (case aB => exact S9.out.ou.b0); (case aF => exact (fun k hk => .inl (Nat.le_trans S9.out.ou.sz hk))); (case aP => exact (fun k hk => ⟨.inr hk, fun e => by have := S9.out.ou.own k e.symm; have := hk.2; omega⟩)); (case aO => exact S9.out.ou.row); (case aS => exact below_size S9.out.ou.b0); (case aL => have := HXL.out; have := HL.out; omega); intro v2 w10 ho hb hg hat; have q6' := S9.out.ou.own; have p5 := grow_cell hg q5 (fun e => by have h1 : w7.heap.size ≤ x := S9.out.ou.own _ e.symm; have := XLT.out; omega); have p6 := grow_cell hg q6 (fun e => by have h1 : w7.heap.size ≤ gC := S9.out.ou.own _ e.symm; have := GLT.out; omega); have S10 := Aside0.mk (S9.out.app5 HW0.out ho hb hg hat); clear ho hb hg hat q5 q6 q6')
      | ((with_reducible refine gate_dst (N := 65) rfl ?_); refine lit1_event ?hg (N := 65) ?hd (cs := #[.int .i64 c]) (t := 3) (n := 1) ?hr ?_; (case hd => rfl); (case hg => rfl); (case hr => first | (go_simp; done) | (go_simp; rfl)); intro gl2 hg w11 hbox hb; have S11 := Aside0.mk (S10.out.below hb); have BL2 := Aside0.mk hbox; clear hb hbox hg p5 p6)
      | ((with_reducible refine gate_builtin (b := .append) (xs := #[.tmp 57, .tmp 65]) rfl ?_); at_builtin; refine Kd.R_append_rows (Kd.int .i64) (w0 := w11) w7.heap.size rfl (.tmp 57) (.tmp 65) 52 3 (.int .i64 0) 8 rfl und_ints info3 rfl (by decide) (by omega) v6 Y [c] _ _ _ (fun _ => True) (fun _ => False) rfl rfl ?aO ?aR (fun _ _ h => h) (fun _ h => h.elim) ?aF ?aB ?aS ?aL ?_; (case aR => exact oneI_C BL2.out); (case aB => exact Below.refl _ _); (case aF => exact fun _ _ => trivial); (case aO => exact S11.out.it); (case aS => exact S11.out.ou.sz); (case aL => have := HYL.out; have := HL.out; omega); intro v3 w12 ho hb hg hat; have SE := Aside0.mk (S11.out.app6 HW0.out ho hg); clear ho hb hg hat))
     go_roundg k1
     case measure => have := II.out; omega
     case rel => exact ⟨i + 1, _, _, by first | rfl | simp [hw], rfl, rfl, ⟨by have := I0.out; omega⟩, ⟨by have := II.out; omega⟩, ⟨by rw [show (i + 1).toNat = i.toNat + 1 by have := I0.out; omega, HG1.out, HG2.out]; exact SE.out⟩⟩
theorem rpack_nW {W : List S34} {nW : Nat} (hn : nW = W.length) (k : Nat) (A0 : Option Addr) (c0 : Nat) (a1 : Int) (r1 : List S48) (r2 : Int) (w : World) (hr0 : Kd.C k34 w A0 W.length W) (hc0 : W.length ≤ c0) (h : thalwegref05_Pack.f k W a1 512 = some (r1, r2)) :
  Calls Try.prog 40 #[.slice A0 nW c0, .int .i64 a1, .int .i64 512] w fun e w' => ∃ v0_ : Value, e = .returned (.tuple #[v0_, .int .i64 r2]) ∧ Kd.S k48 48 w' w.heap.size (fun _ => True) v0_ r1 ∧ Below w.heap.size w w' := by
 subst hn
 exact thalwegref05_Pack.calls k A0 c0 W a1 512 r1 r2 w hr0 hc0 h
theorem rown_eq (Y : List S34) (hl : Y.length ≤ 1000000) : thalwegref04_Own.f Y = some Y := by
 unfold thalwegref04_Own.f
 simp
 try omega
theorem own_nD {Y : List S34} {nD : Nat} (hn : nD = Y.length) (A0 : Option Addr) (c0 : Nat) (w : World) (hr : Kd.C k34 w A0 Y.length Y) (hl : Y.length ≤ c0 ∧ Y.length ≤ 1000000) :
  Calls Try.prog 44 #[.slice A0 nD c0] w fun e w' => ∃ v0_ : Value, e = .returned v0_ ∧ Kd.R k34 34 w' w.heap.size (fun _ => True) v0_ Y ∧ Below w.heap.size w w' := by
 subst hn
 exact thalwegref04_Own.calls A0 c0 Y Y w hr hl.1 (rown_eq Y hl.2)
theorem all_at {w w1 : World} {base : Nat} {B : List S48} {A : Option Addr} {n c : Nat} (ha : k48.R 48 w1 base (fun k => w.heap.size ≤ k ∧ k < w1.heap.size) (.slice A n c) B) (i : Int) (h0 : 0 ≤ i) (h1 : i < n) :
  ∃ ad A1 c1, A = some ad ∧ (w.heap.size ≤ (ad.add (i.toNat * 2)).block ∧ (ad.add (i.toNat * 2)).block < w1.heap.size) ∧ w1.cell? (ad.add (i.toNat * 2)) = some (.int .i64 (rd_T48 B i).f0) ∧ w1.cell? ⟨(ad.add (i.toNat * 2)).block, (ad.add (i.toNat * 2)).off + 1, none⟩ = some (.slice A1 (rd_T48 B i).f1.length c1) ∧ k34.R 34 w1 base (fun k => w.heap.size ≤ k ∧ k < w1.heap.size) (.slice A1 (rd_T48 B i).f1.length c1) (rd_T48 B i).f1 := by
 obtain ⟨ad, A1, c1, rfl, x0, x1, hi⟩ := at_BM ha i h0 h1
 have hn := (Kd.R_reads' ha).1
 obtain ⟨gq, cap, ev, _, _⟩ := Kd.R_form ha (by omega)
 injection ev with ea en ec
 cases ea
 have hP := ha.1 gq (by simp [Value.ownBlock])
 have e1 : (⟨gq, 0, none⟩ : Addr).add (i.toNat * 2) = ⟨gq, i.toNat * 2, none⟩ := add_plain gq (i.toNat * 2)
 exact ⟨_, A1, c1, rfl, by rw [e1]; exact hP, x0, x1, Kd.R_mono hi (fun k hk => hk.1)⟩
theorem ReX.cellg {w0 w w1 wr : World} {G G' : Nat → Prop} {x : Nat} {wn tr nx2 : Int} {W : List S34} {O2 X : List S48} {C2 : List Int} {vW vO vC vO2 vC2 v6 v : Value} (hf : SeF w0 w w1 (Wx x vW vO vC)) (h : ReX w0 w w1 G x wn tr W vW vO vC wr G' O2 C2 nx2 vO2 vC2 X v6) {a : Addr} (hP : w.heap.size ≤ a.block ∧ a.block < w1.heap.size) (hc : w1.cell? a = some v) : wr.cell? a = some v :=
 (World.cell?_of_block (h.sx.fr a.block hP.2 (fun hR => by have := hf.lt a.block hR; omega))).trans hc
def rse.T1 : Bool × List (List Nat × List Nat) := (true, [([], []), ([0], [0]), ([1], [1]), ([2], [2]), ([], []), ([4], [4]), ([5], [5]), ([6], [6]), ([3, 7], [3, 7]), ([8], [8]), ([9], [9]), ([9], [9]), ([10, 8, 0, 1, 2, 3, 4, 5, 6, 7, 8, 9, 10], [10]), ([11, 12, 0, 1, 2, 3, 4, 5, 6, 7, 8, 9, 10, 11, 12], [11])])
def rse.B1 : List Nat := [0, 1, 3, 7, 0, 16, 48, 112, 255, 511, 1023, 1023, 2047, 8191]
theorem rse.tab1 : rtab .any (opsOf Try.f19 1) = rse.T1 := by kernel_rfl
theorem rse.bits1 : waitsOk rse.T1.2 rse.B1 = true := by kernel_rfl
def rse.T6 : Bool × List (List Nat × List Nat) := (true, [([], []), ([], []), ([1], [1]), ([0, 2], [0, 2]), ([3], [3]), ([4], [4]), ([4], [4]), ([4], [4]), ([6, 7, 4], [4, 6, 7]), ([8, 4], [4, 8]), ([9, 4], [4, 9]), ([5, 10, 4, 4], [4, 5, 10]), ([4], [4]), ([12, 4], [4, 12]), ([13, 4], [4, 13]), ([14, 4], [4, 14]), ([11, 15, 4], [4, 11, 15]), ([4, 16], [4, 16])])
def rse.B6 : List Nat := [0, 0, 2, 7, 15, 31, 31, 31, 223, 479, 991, 2047, 31, 4127, 12319, 28703, 65535, 131071]
theorem rse.tab6 : rtab .any (opsOf Try.f19 6) = rse.T6 := by kernel_rfl
theorem rse.bits6 : waitsOk rse.T6.2 rse.B6 = true := by kernel_rfl
def rse.T10 : Bool × List (List Nat × List Nat) := (true, [([], []), ([], []), ([1], [1]), ([2], [2]), ([3], [3]), ([], []), ([], []), ([5, 6], [5, 6]), ([7], [7]), ([8], [8]), ([4, 9], [4, 9]), ([0, 0, 1, 2, 3, 4, 5, 6, 7, 8, 9, 10], [0]), ([11, 0, 1, 2, 3, 4, 5, 6, 7, 8, 9, 10], [11]), ([12, 10, 10, 0, 1, 2, 3, 4, 5, 6, 7, 8, 9, 10], [10, 12])])
def rse.B10 : List Nat := [0, 0, 2, 6, 14, 0, 0, 96, 224, 480, 1022, 2047, 4095, 8191]
theorem rse.tab10 : rtab .any (opsOf Try.f19 10) = rse.T10 := by kernel_rfl
theorem rse.bits10 : waitsOk rse.T10.2 rse.B10 = true := by kernel_rfl
theorem rsend_s {w0 w : World} {G : Nat → Prop} {x : Nat} {wn tr nx : Int} {W : List S34} {O : List S48} {C : List Int} {vW vO vC : Value} (h : Rx w0 w G x wn tr W O C nx vW vO vC) (hlw : W.length ≤ 1024) (hlo : O.length ≤ 1000000) (hlc1 : C.length ≤ 1000000) (KK : Nat) (B : List S48) (rp : Int) (hpk : thalwegref05_Pack.f KK W nx 512 = some (B, rp)) (hlb : B.length ≤ 1024)
  (ff : S48 → Int) (hfa : ∀ b ∈ B, thalwegref03_Far.f (firstX O nx) b.f0 = some (ff b)) (hne : ∀ b ∈ B, thalwegref03_Next.f b.f0 = some (nextN b.f0)) (hgo : goneL B ≤ W.length) :
  Calls Try.prog 19 #[.pointer (some ⟨x, 0, none⟩)] w fun e w' => ∃ v G' vW' vO' vC', e = .returned v ∧ Rx w0 w' G' x wn tr (W.drop (goneL (B.takeWhile (fun b => decide (ff b < wn))))) (O ++ B.takeWhile (fun b => decide (ff b < wn))) (C ++ (B.takeWhile (fun b => decide (ff b < wn))).map (fun _ => 1)) (nextL nx (B.takeWhile (fun b => decide (ff b < wn)))) vW' vO' vC' ∧ SX w G (Wx x vW vO vC) w' G' (Wx x vW' vO' vC') ∧ k48.R 48 w' w0.heap.size (fun _ => True) v (B.takeWhile (fun b => decide (ff b < wn))) := by
 obtain ⟨Aw, cw, rfl, hlc, hC⟩ := Kd.R_reads h.rW
 obtain ⟨nW, hnW⟩ : ∃ nW, nW = W.length := ⟨_, rfl⟩
 obtain ⟨fst, hfs⟩ : ∃ fst, fst = firstX O nx := ⟨_, rfl⟩
 obtain ⟨n, hn⟩ : ∃ n, n = B.length := ⟨_, rfl⟩
 have HS := Aside0.mk h
 have hx : w.cell? ⟨x, 2, none⟩ = some (.slice Aw nW cw) := by rw [hnW]; exact (blk_cell h.blk 2).trans rfl
 have hnx : w.cell? ⟨x, 5, none⟩ = some (.int .i64 nx) := (blk_cell h.blk 5).trans rfl
 have HCW := Aside0.mk hC
 have HLC := Aside0.mk hlc
 have HNW := Aside0.mk hnW
 have HFS := Aside0.mk hfs
 have HN := Aside0.mk hn
 have HPK := Aside0.mk hpk
 have HLW := Aside0.mk hlw
 have HLO0 := Aside0.mk hlo
 have HLC0 := Aside0.mk hlc1
 have HLB := Aside0.mk hlb
 have HWA := Aside0.mk hfa
 have HNE := Aside0.mk hne
 have HGO := Aside0.mk hgo
 have HLT := Aside0.mk h.lt
 have HRW := Aside0.mk h.wr
 have H00 := Aside0.mk (below_size h.bl)
 rw [← hfs] at HWA
 rw [← hnW] at HS HRW
 clear h hlw hlo hlc1 hpk hlb hfa hne hgo hnW hfs hn hlc hC
 go_enter Try.func19, Try.ntmps19
 go_upto_region 1 with (fail)
 refine start_ (n := 14) (S := fun w' => w'.cell? ⟨x, 2, none⟩ = some (.slice Aw nW cw) ∧ w'.cell? ⟨x, 5, none⟩ = some (.int .i64 nx)) (ds := [8]) #[false, false, false, false, false, false, false, false, false, false, false, false, false, false] (by kernel_rfl) rfl rfl ⟨hx, hnx⟩ (fun hHeld => ?_); refine with_tabW rse.tab1 rse.bits1 (fun HT_ HW_ => ?_)
 refine pureA (i := 0) (N := some 10) HT_ ?_
 refine pureA (i := 1) (N := some 11) HT_ ?_
 refine pureA (i := 2) (N := some 12) HT_ ?_
 refine pureA (i := 4) (N := some 14) HT_ ?_
 refine pureA (i := 5) (N := some 15) HT_ ?_
 refine pureA (i := 6) (N := some 16) HT_ ?_
 refine takeA (i := 3) (N := some 13) HT_ HW_ hHeld ?_
 refine takeA (i := 7) (N := some 17) HT_ HW_ hHeld ?_
 refine last_ (i := 8) (N := some 18) #[true, true, true, true, true, true, true, true, true, false, false, false, false, false] rfl rfl (one_of HT_.out (by kernel_rfl)) (by decide) (fun K hK => ?_)
 refine goes_ Try.func40 (by kernel_rfl) rfl #[.slice Aw nW cw, .int .i64 nx, .int .i64 512] (by rfl) rfl rfl (by simp only [List.map_toArray, List.map_cons, List.map_nil]; rfl) ?_
 with_reducible refine (rpack_nW HNW.out KK Aw cw nx B rp _ (Kd.C_below HCW.out (below_drew (Below.refl _ _))) HLC.out HPK.out).mono ?_
 rintro e w1 ⟨va, rfl, hs, hb⟩
 refine ⟨_, rfl, ?_⟩
 have HB1 := Aside0.mk (below_step (below_drew (Below.refl w.heap.size w)) hb)
 obtain ⟨S1, hva⟩ := ReX.start HS.out HB1.out (Kd.S_R hs)
 have S1 := Aside0.mk S1
 obtain ⟨Aa, ca, ev⟩ := Kd.R_slice hva
 rw [← HN.out] at ev
 subst ev
 have HALL := Aside0.mk hva
 clear hs hb hva
 refine hK.out _ _ ?_
 clear hK K
 refine normA (N := 18) ?_
 refine pureA (i := 9) (N := some 9) HT_ ?_
 refine pureA (i := 10) (N := some 19) HT_ ?_
 refine pureA (i := 11) (N := some 20) HT_ ?_
 refine pureA (i := 12) (N := some 3) HT_ ?_
 refine pureA (i := 13) (N := some 4) HT_ ?_
 refine done_ (done_of HT_.out (by kernel_rfl)) ?_
 have HF := Aside0.mk (show SeF w0 w w1 (Wx x (.slice Aw nW cw) vO vC) from ⟨H00.out, HB1.out.size, fun k hk => HLT.out k (HRW.out k hk)⟩)
 go_wp2_with (go_at_call 41; (with_reducible refine (rfirst_x S1.out.rx).mono ?_); rintro x_ w2 ⟨rfl, rfl⟩; (rw [← HFS.out]))
 go_loopg [6, 7, 8] n (fun kq v6' v7 v8 wr => ∃ (i : Int) (v6 : Value) (GG : Nat) (G' : Nat → Prop) (O2 : List S48) (C2 : List Int) (nx2 : Int) (vO2 vC2 : Value), v8 = .int .i64 i ∧ v6 = v6' ∧ v7 = .int .i64 (GG : Int) ∧ Aside0 (0 ≤ i) ∧ Aside0 (i + kq = n) ∧ Aside0 (ReX w0 w w1 G x wn tr W (.slice Aw nW cw) vO vC wr G' O2 C2 nx2 vO2 vC2 (B.take i.toNat) v6) ∧ Aside0 (GG = goneL (B.take i.toNat)) ∧ Aside0 (O2 = O ++ B.take i.toNat) ∧ Aside0 (C2 = C ++ (B.take i.toNat).map (fun _ => (1 : Int))) ∧ Aside0 (nx2 = nextL nx (B.take i.toNat)) ∧ Aside0 (∀ j (hj : j < B.length), (j : Int) < i → decide (ff (B[j]) < wn) = true))
 case atStart => exact ⟨0, _, 0, _, O, C, nx, vO, vC, rfl, rfl, rfl, ⟨by omega⟩, ⟨by omega⟩, S1, ⟨rfl⟩, ⟨by simp⟩, ⟨by simp⟩, ⟨rfl⟩, ⟨fun j hj hh => by omega⟩⟩
 case round =>
  clear S1
  obtain ⟨i, v6, GG, G', O2, C2, nx2, vO2, vC2, rfl, rfl, rfl, H0, HI, SS, HGG, HO2, HC2, HNX, HA⟩ := hrel
  obtain ⟨Ao, co, rfl⟩ := Kd.R_slice SS.out.rx.rO
  obtain ⟨mo, hmo⟩ : ∃ mo, mo = O2.length := ⟨_, rfl⟩
  rw [← hmo] at SS
  obtain ⟨Ac, cc, rfl⟩ := Kd.R_slice SS.out.rx.rC
  obtain ⟨mc, hmc⟩ : ∃ mc, mc = C2.length := ⟨_, rfl⟩
  rw [← hmc] at SS
  have HGL := Aside0.mk (show GG ≤ W.length by rw [HGG.out]; exact Nat.le_trans (goneL_le B _) HGO.out)
  have HLO := Aside0.mk (show O2.length ≤ 2000000 by
   have e1 := congrArg List.length HO2.out
   simp only [List.length_map, List.length_append, List.length_take] at e1
   have := HLO0.out
   have := HLB.out
   omega)
  have HLC2 := Aside0.mk (show C2.length ≤ 2000000 by
   have e1 := congrArg List.length HC2.out
   simp only [List.length_map, List.length_append, List.length_take] at e1
   have := HLC0.out
   have := HLB.out
   omega)
  clear hmo hmc
  cases gk with
  | zero =>
   have HX := Aside0.mk (show B.takeWhile (fun b => decide (ff b < wn)) = B.take i.toNat from take_at B i.toNat (by have := HI.out; have := HN.out; have := H0.out; omega) (fun j hj hji => HA.out j hj (by omega)) (.inl (by have := HI.out; have := HN.out; have := H0.out; omega)))
   have hnl : decide (i < (n : Int)) = false := decide_eq_false (by have := HI.out; omega)
   go_upto_region 6 with (fail)
   refine start_ (n := 18) (S := fun w' => True) (ds := []) #[false, false, false, false, false, false, false, false, false, false, false, false, false, false, false, false, false, false] (by kernel_rfl) rfl rfl trivial (fun hHeld => ?_); refine with_tabW rse.tab6 rse.bits6 (fun HT_ HW_ => ?_)
   refine pureA (i := 0) (N := some 23) HT_ ?_
   refine pureA (i := 1) (N := some 24) HT_ ?_
   refine pureA (i := 2) (N := some 25) HT_ ?_
   refine pureA (i := 3) (N := some 26) HT_ ?_
   refine pureA (i := 4) (N := some 27) HT_ ?_
   refine pureN (i := 5) (N := some 28) HT_ ?_
   refine pureN (i := 6) (N := some 29) HT_ ?_
   refine pureN (i := 7) (N := some 30) HT_ ?_
   refine pureN (i := 8) (N := some 31) HT_ ?_
   refine pureN (i := 9) (N := some 32) HT_ ?_
   refine pureN (i := 10) (N := some 33) HT_ ?_
   refine pureN (i := 11) (N := some 34) HT_ ?_
   refine pureN (i := 12) (N := some 35) HT_ ?_
   refine pureN (i := 13) (N := some 36) HT_ ?_
   refine pureN (i := 14) (N := some 37) HT_ ?_
   refine pureN (i := 15) (N := some 38) HT_ ?_
   refine pureN (i := 16) (N := some 39) HT_ ?_
   refine pureA (i := 17) (N := some 40) HT_ ?_
   refine done_ (done_of HT_.out (by kernel_rfl)) ?_
   have S4 := Aside0.mk SS.out.drew
   obtain ⟨A3, hA3⟩ : ∃ A3, A3 = (if cw = GG then Aw else Aw.map (·.add (GG * k34.sz))) := ⟨_, rfl⟩
   obtain ⟨c3, hc3⟩ : ∃ c3, c3 = cw - GG := ⟨_, rfl⟩
   have HD3 := Aside0.mk (show k34.C wr.drew A3 (W.drop GG).length (W.drop GG) by rw [hA3]; exact Kd.C_drop (Kd.C_step_ S4.out.rx.rW) HGL.out HLC.out)
   have HD4 := Aside0.mk (show (W.drop GG).length ≤ c3 ∧ (W.drop GG).length ≤ 1000000 by have := HLC.out; have := HLW.out; rw [List.length_drop, hc3]; omega)
   obtain ⟨nD, hnD⟩ : ∃ nD, nD = (W.drop GG).length := ⟨_, rfl⟩
   have HND := Aside0.mk hnD
   have hcut := cut_o Aw nW cw GG (by have := HGL.out; have := HNW.out; omega)
   rw [show nW - GG = nD by rw [hnD, List.length_drop, ← HNW.out], ← hA3, ← hc3] at hcut
   have g2 : wr.drew.cell? ⟨x, 2, none⟩ = some (.slice Aw nW cw) := (blk_cell S4.out.rx.blk 2).trans rfl
   clear hA3 hc3 hnD
   go_wp2_with (go_at_call 44; (with_reducible refine (own_nD HND.out A3 c3 _ HD3.out HD4.out).mono ?_); rintro x_ wc ⟨v3, rfl, hr, hb⟩; have HV3 := Aside0.mk hr; have HBC := Aside0.mk hb; have g22 : wc.cell? ⟨x, 2, none⟩ = some (.slice Aw nW cw) := (blk_cell (S4.out.below hb).rx.blk 2).trans rfl; have gf2 := blk_frozen (S4.out.below hb).rx.blk 2; obtain ⟨A9, c9, ev9⟩ := Kd.R_slice hr; (rw [← HND.out] at ev9); subst ev9; clear hr hb)
   go_ret
   obtain ⟨G'', q1, q2, q3⟩ := S4.out.fin HF.out HBC.out HV3.out HB1.out
   refine ⟨_, G'', _, _, _, rfl, ?_, by have e5 := q2; rw [HNW.out] at e5; exact e5, by rw [HX.out]; exact q3⟩
   rw [HX.out, ← HNX.out, ← HGG.out, ← HC2.out, ← HO2.out]
   exact q1
  | succ k1 =>
   have hlt := (show i < (n : Int) by have := HI.out; omega)
   have h0 := H0.out
   have hd : decide (i < (n : Int)) = true := decide_eq_true hlt
   have hw : wrap64 (i + 1) = i + 1 := w64 (by omega) (by have := HLB.out; have := HN.out; omega)
   have HXL := Aside0.mk (show i.toNat < B.length by have := HN.out; omega)
   obtain ⟨ad, A1, c1, e_, hP0, hx0, hx1, hi1⟩ := all_at HALL.out i h0 hlt
   cases e_
   obtain ⟨y, hy⟩ : ∃ y, y = rd_T48 B i := ⟨_, rfl⟩
   have HY := Aside0.mk (show y = B[i.toNat]'(HXL.out) by rw [hy]; unfold rd_T48; rw [List.getD_eq_getElem?_getD, List.getElem?_eq_getElem HXL.out]; rfl)
   rw [← hy] at hx0 hx1 hi1
   obtain ⟨m1, hm1⟩ : ∃ m1, m1 = y.f1.length := ⟨_, rfl⟩
   rw [← hm1] at hx1 hi1
   have HI1 := Aside0.mk hi1
   have HM1 := Aside0.mk hm1
   have HP0 := Aside0.mk hP0
   have E0 := Aside0.mk hx0
   have E1 := Aside0.mk hx1
   obtain ⟨fy, hfy⟩ : ∃ fy, fy = ff y := ⟨_, rfl⟩
   have HFY := Aside0.mk (show thalwegref03_Far.f fst y.f0 = some fy by rw [hfy]; exact HWA.out y (by rw [HY.out]; exact List.getElem_mem _))
   have HNY := Aside0.mk (HNE.out y (by rw [HY.out]; exact List.getElem_mem _))
   have HFE := Aside0.mk hfy
   have e0 : wr.cell? (ad.add (i.toNat * 2)) = some (.int .i64 y.f0) := SS.out.cellg HF.out HP0.out E0.out
   have z0 : wr.cell? ⟨x, 0, none⟩ = some (.int .i64 wn) := (blk_cell SS.out.rx.blk 0).trans rfl
   have h0t := eq_true h0
   have hltt := eq_true hlt
   clear hy hm1 hi1 hx0 hx1 hP0 hfy
   cases hpw : decide (fy < wn) with
   | false =>
    have HX := Aside0.mk (show B.takeWhile (fun b => decide (ff b < wn)) = B.take i.toNat from take_at B i.toNat (Nat.le_of_lt HXL.out) (fun j hj hji => HA.out j hj (by have := H0.out; omega)) (.inr ⟨HXL.out, by rw [← HY.out, ← HFE.out]; exact hpw⟩))
    go_upto_region 6 with (fail)
    refine start_ (n := 18) (S := fun w' => w'.cell? (ad.add (i.toNat * 2)) = some (.int .i64 y.f0) ∧ w'.cell? ⟨x, 0, none⟩ = some (.int .i64 wn)) (ds := []) #[false, false, false, false, false, false, false, false, false, false, false, false, false, false, false, false, false, false] (by kernel_rfl) rfl rfl ⟨e0, z0⟩ (fun hHeld => ?_); refine with_tabW rse.tab6 rse.bits6 (fun HT_ HW_ => ?_)
    refine pureA (i := 0) (N := some 23) HT_ ?_
    refine pureA (i := 1) (N := some 24) HT_ ?_
    refine pureA (i := 2) (N := some 25) HT_ ?_
    refine pureA (i := 3) (N := some 26) HT_ ?_
    refine pureA (i := 4) (N := some 27) HT_ ?_
    refine pureA (i := 5) (N := some 28) HT_ ?_
    refine pureA (i := 6) (N := some 29) HT_ ?_
    refine pureA (i := 7) (N := some 30) HT_ ?_
    refine pureA (i := 8) (N := some 31) HT_ ?_
    refine pureA (i := 9) (N := some 32) HT_ ?_
    refine pureA (i := 12) (N := some 35) HT_ ?_
    refine pureA (i := 13) (N := some 36) HT_ ?_
    refine pureA (i := 14) (N := some 37) HT_ ?_
    refine takeA (i := 10) (N := some 33) HT_ HW_ hHeld ?_
    refine takeA (i := 15) (N := some 38) HT_ HW_ hHeld ?_
    refine oneA (i := 11) (N := some 34) HT_ (fun K hK => ?_)
    refine goes_ Try.func42 (by kernel_rfl) rfl #[.int .i64 fst, .int .i64 y.f0] (by rfl) rfl rfl (by simp only [List.map_toArray, List.map_cons, List.map_nil]; rfl) ?_
    with_reducible refine (thalwegref03_Far.calls fst y.f0 fy _ HFY.out).mono ?_
    rintro e w4 ⟨rfl, hd4⟩
    refine ⟨_, rfl, ?_⟩
    have S4 := Aside0.mk (SS.out.drew.below hd4.below)
    have hb4 := hd4.below
    refine hK.out _ _ ⟨(hb4.cell (World.block_lt_of_cell? _ _ hHeld.1)).trans hHeld.1, (hb4.cell (World.block_lt_of_cell? _ _ hHeld.2)).trans hHeld.2⟩ (fun hHeld => ?_)
    clear hK K
    refine normA (N := 34) ?_
    refine pureA (i := 16) (N := some 39) HT_ ?_
    refine pureA (i := 17) (N := some 40) HT_ ?_
    refine done_ (done_of HT_.out (by kernel_rfl)) ?_
    obtain ⟨A3, hA3⟩ : ∃ A3, A3 = (if cw = GG then Aw else Aw.map (·.add (GG * k34.sz))) := ⟨_, rfl⟩
    obtain ⟨c3, hc3⟩ : ∃ c3, c3 = cw - GG := ⟨_, rfl⟩
    have HD3 := Aside0.mk (show k34.C w4 A3 (W.drop GG).length (W.drop GG) by rw [hA3]; exact Kd.C_drop (Kd.C_step_ S4.out.rx.rW) HGL.out HLC.out)
    have HD4 := Aside0.mk (show (W.drop GG).length ≤ c3 ∧ (W.drop GG).length ≤ 1000000 by have := HLC.out; have := HLW.out; rw [List.length_drop, hc3]; omega)
    obtain ⟨nD, hnD⟩ : ∃ nD, nD = (W.drop GG).length := ⟨_, rfl⟩
    have HND := Aside0.mk hnD
    have hcut := cut_o Aw nW cw GG (by have := HGL.out; have := HNW.out; omega)
    rw [show nW - GG = nD by rw [hnD, List.length_drop, ← HNW.out], ← hA3, ← hc3] at hcut
    have g2 : w4.cell? ⟨x, 2, none⟩ = some (.slice Aw nW cw) := (blk_cell S4.out.rx.blk 2).trans rfl
    clear hA3 hc3 hnD
    go_wp2_with (go_at_call 44; (with_reducible refine (own_nD HND.out A3 c3 _ HD3.out HD4.out).mono ?_); rintro x_ wc ⟨v3, rfl, hr, hb⟩; have HV3 := Aside0.mk hr; have HBC := Aside0.mk hb; have g22 : wc.cell? ⟨x, 2, none⟩ = some (.slice Aw nW cw) := (blk_cell (S4.out.below hb).rx.blk 2).trans rfl; have gf2 := blk_frozen (S4.out.below hb).rx.blk 2; obtain ⟨A9, c9, ev9⟩ := Kd.R_slice hr; (rw [← HND.out] at ev9); subst ev9; clear hr hb)
    go_ret
    obtain ⟨G'', q1, q2, q3⟩ := S4.out.fin HF.out HBC.out HV3.out HB1.out
    refine ⟨_, G'', _, _, _, rfl, ?_, by have e5 := q2; rw [HNW.out] at e5; exact e5, by rw [HX.out]; exact q3⟩
    rw [HX.out, ← HNX.out, ← HGG.out, ← HC2.out, ← HO2.out]
    exact q1
   | true =>
    have HPW := Aside0.mk hpw
    have HKE := Aside0.mk (show B.take i.toNat ++ [y] = B.take (i.toNat + 1) by rw [HY.out, List.take_succ_eq_append_getElem HXL.out])
    have hgw : wrap64 ((GG : Int) + (m1 : Int)) = ((GG + m1 : Nat) : Int) := w64 (by omega) (by
     have e1 := take_goneL i.toNat HXL.out
     have e2 := goneL_le B (i.toNat + 1)
     have := HGO.out
     have := HLW.out
     have := HGG.out
     have := HM1.out
     rw [← HY.out] at e1
     omega)
    go_upto_region 6 with (fail)
    refine start_ (n := 18) (S := fun w' => w'.cell? (ad.add (i.toNat * 2)) = some (.int .i64 y.f0) ∧ w'.cell? ⟨x, 0, none⟩ = some (.int .i64 wn)) (ds := []) #[false, false, false, false, false, false, false, false, false, false, false, false, false, false, false, false, false, false] (by kernel_rfl) rfl rfl ⟨e0, z0⟩ (fun hHeld => ?_); refine with_tabW rse.tab6 rse.bits6 (fun HT_ HW_ => ?_)
    refine pureA (i := 0) (N := some 23) HT_ ?_
    refine pureA (i := 1) (N := some 24) HT_ ?_
    refine pureA (i := 2) (N := some 25) HT_ ?_
    refine pureA (i := 3) (N := some 26) HT_ ?_
    refine pureA (i := 4) (N := some 27) HT_ ?_
    refine pureA (i := 5) (N := some 28) HT_ ?_
    refine pureA (i := 6) (N := some 29) HT_ ?_
    refine pureA (i := 7) (N := some 30) HT_ ?_
    refine pureA (i := 8) (N := some 31) HT_ ?_
    refine pureA (i := 9) (N := some 32) HT_ ?_
    refine pureA (i := 12) (N := some 35) HT_ ?_
    refine pureA (i := 13) (N := some 36) HT_ ?_
    refine pureA (i := 14) (N := some 37) HT_ ?_
    refine takeA (i := 10) (N := some 33) HT_ HW_ hHeld ?_
    refine takeA (i := 15) (N := some 38) HT_ HW_ hHeld ?_
    refine oneA (i := 11) (N := some 34) HT_ (fun K hK => ?_)
    refine goes_ Try.func42 (by kernel_rfl) rfl #[.int .i64 fst, .int .i64 y.f0] (by rfl) rfl rfl (by simp only [List.map_toArray, List.map_cons, List.map_nil]; rfl) ?_
    with_reducible refine (thalwegref03_Far.calls fst y.f0 fy _ HFY.out).mono ?_
    rintro e w4 ⟨rfl, hd4⟩
    refine ⟨_, rfl, ?_⟩
    have S4 := Aside0.mk (SS.out.drew.below hd4.below)
    have hb4 := hd4.below
    refine hK.out _ _ ⟨(hb4.cell (World.block_lt_of_cell? _ _ hHeld.1)).trans hHeld.1, (hb4.cell (World.block_lt_of_cell? _ _ hHeld.2)).trans hHeld.2⟩ (fun hHeld => ?_)
    clear hK K
    refine normA (N := 34) ?_
    refine pureA (i := 16) (N := some 39) HT_ ?_
    refine pureA (i := 17) (N := some 40) HT_ ?_
    refine done_ (done_of HT_.out (by kernel_rfl)) ?_
    clear hpw
    have e4a : w4.cell? (ad.add (i.toNat * 2)) = some (.int .i64 y.f0) := S4.out.cellg HF.out HP0.out E0.out; have e4b : w4.cell? ⟨(ad.add (i.toNat * 2)).block, (ad.add (i.toNat * 2)).off + 1, none⟩ = some (.slice A1 m1 c1) := S4.out.cellg HF.out HP0.out E1.out
    go_upto_region 10 with (first
     | ((with_reducible refine gate_dst (N := 48) rfl ?_); refine lit1_event ?hg (N := 48) ?hd (cs := #[.int .i64 y.f0, .slice A1 m1 c1]) (t := 48) (n := 1) ?hr ?_; (case hd => rfl); (case hg => rfl); (case hr => first | (go_simp; done) | (go_simp; rfl)); intro gl hg w5 hbox hb; have S5 := Aside0.mk (S4.out.below hb); have BL := Aside0.mk hbox; clear hb hbox hg)
     | ((with_reducible refine gate_builtin (b := .append) (xs := #[.tmp 43, .tmp 48]) rfl ?_); at_builtin; refine Kd.R_append_rows k48 (w0 := w0) w0.heap.size rfl (.tmp 43) (.tmp 48) 28 48 (.agg #[(.int .i64 0), (.slice none 0 0)]) 32 rfl Try.underlying28 info48 rfl (by decide) (by omega) v6 (B.take i.toNat) [y] _ _ _ (fun k => w.heap.size ≤ k ∧ ¬ Wx x (.slice Aw nW cw) (.slice Ao mo co) (.slice Ac mc cc) k) (fun k => w.heap.size ≤ k ∧ k < w1.heap.size) rfl rfl ?aO ?aR (fun _ _ h => h) ?aP ?aF ?aB ?aS ?aL ?_; (case aR => exact oneB_M BL.out (S5.out.inn HF.out HI1.out)); (case aB => exact S5.out.rx.bl); (case aF => exact S5.out.freshX HF.out); (case aP => exact (fun k hk => ⟨⟨hk.1, (S5.out.notW HF.out k hk).2⟩, fun e => by have := (S5.out.own k e.symm).1; omega⟩)); (case aO => exact S5.out.out); (case aS => exact below_size S5.out.rx.bl); (case aL => have := HLB.out; have := HN.out; rw [List.length_take]; omega); intro v2 w6 ho hb hg hat; rw [HKE.out] at ho; have S6 := Aside0.mk (S5.out.outp HF.out ho hg hat); have e6a : w6.cell? (ad.add (i.toNat * 2)) = some (.int .i64 y.f0) := S6.out.cellg HF.out HP0.out E0.out; have e6b : w6.cell? ⟨(ad.add (i.toNat * 2)).block, (ad.add (i.toNat * 2)).off + 1, none⟩ = some (.slice A1 m1 c1) := S6.out.cellg HF.out HP0.out E1.out; have g3 : w6.cell? ⟨x, 3, none⟩ = some (.slice Ao mo co) := (blk_cell S6.out.rx.blk 3).trans rfl; clear ho hb hg hat))
    refine start_ (n := 14) (S := fun w' => w'.cell? ⟨x, 3, none⟩ = some (.slice Ao mo co) ∧ w'.cell? (ad.add (i.toNat * 2)) = some (.int .i64 y.f0) ∧ w'.cell? ⟨(ad.add (i.toNat * 2)).block, (ad.add (i.toNat * 2)).off + 1, none⟩ = some (.slice A1 m1 c1)) (ds := [10, 13]) #[false, false, false, false, false, false, false, false, false, false, false, false, false, false] (by kernel_rfl) rfl rfl ⟨g3, e6a, e6b⟩ (fun hHeld => ?_); refine with_tabW rse.tab10 rse.bits10 (fun HT_ HW_ => ?_)
    refine pureA (i := 0) (N := some 58) HT_ ?_
    refine pureA (i := 1) (N := some 59) HT_ ?_
    refine pureA (i := 2) (N := some 60) HT_ ?_
    refine pureA (i := 3) (N := some 61) HT_ ?_
    refine pureA (i := 5) (N := some 63) HT_ ?_
    refine pureA (i := 6) (N := some 64) HT_ ?_
    refine pureA (i := 7) (N := some 65) HT_ ?_
    refine takeA (i := 4) (N := some 62) HT_ HW_ hHeld ?_
    refine takeA (i := 8) (N := some 66) HT_ HW_ hHeld ?_
    refine oneA (i := 9) (N := some 67) HT_ (fun K hK => ?_)
    refine lit1_step ?hg (N := 67) ?hd (cs := #[.int .i64 y.f0, .slice A1 m1 c1]) (t := 48) (n := 1) ?hr ?_
    (case hd => rfl)
    (case hg => rfl)
    (case hr => first | (go_simp; done) | (go_simp; rfl))
    intro gl2 hgl w7 hbox hb
    have S7 := Aside0.mk (S6.out.drew.below hb)
    have BG := Aside0.mk hbox
    refine hK.out _ _ ⟨(hb.cell (World.block_lt_of_cell? _ _ hHeld.1)).trans hHeld.1, (hb.cell (World.block_lt_of_cell? _ _ hHeld.2.1)).trans hHeld.2.1, (hb.cell (World.block_lt_of_cell? _ _ hHeld.2.2)).trans hHeld.2.2⟩ (fun hHeld => ?_)
    clear hK K
    refine normA (N := 67) ?_
    refine last_ (i := 10) (N := some 68) #[true, true, true, true, true, true, true, true, true, true, true, false, false, false] rfl rfl (one_of HT_.out (by kernel_rfl)) (by decide) (fun K hK => ?_)
    refine Kd.R_append_rows_step k48 (w0 := w7) w0.heap.size ?hw (.tmp 62) (.tmp 67) 28 48 (.agg #[(.int .i64 0), (.slice none 0 0)]) 32 rfl Try.underlying28 info48 rfl (by decide) (by omega) (.slice Ao mo co) O2 [y] _ _ _ (fun k => (G' k ∨ w7.heap.size ≤ k) ∧ k ≠ x ∧ some k ≠ (Value.slice Aw nW cw).ownBlock ∧ some k ≠ (Value.slice Ac mc cc).ownBlock) (fun k => w.heap.size ≤ k ∧ k < w1.heap.size) rfl rfl ?aO ?aR (fun _ _ h => h) ?aP ?aF ?aB ?aS ?aL ?_
    (case hw => rfl)
    (case aR => exact oneB_M BG.out (S7.out.inn HF.out HI1.out))
    (case aP => exact fun k hk => ⟨⟨.inl (S7.out.notW HF.out k hk).1, fun e => (S7.out.notW HF.out k hk).2 (.inl e), fun e => (S7.out.notW HF.out k hk).2 (.inr (.inl e)), fun e => (S7.out.notW HF.out k hk).2 (.inr (.inr (.inr e)))⟩, fun e => (S7.out.notW HF.out k hk).2 (.inr (.inr (.inl e)))⟩)
    (case aB => exact Below.refl _ _)
    (case aF => exact S7.out.rx.freshO)
    (case aO => exact Kd.R_mono S7.out.rx.rO (fun k hk => ⟨.inl hk.1, hk.2⟩))
    (case aS => exact below_size S7.out.rx.bl)
    (case aL => have := HLO.out; omega)
    intro v2o w8 ho hb8 hg8 hat
    have HG8 := Aside0.mk ((hg8.block x (blk_lt S7.out.rx.blk) (fun e => (S7.out.rx.rO.1 x e.symm).2.1 rfl)).trans S7.out.rx.blk)
    have d3 : w8.cell? ⟨x, 3, none⟩ = some (.slice Ao mo co) := (blk_cell HG8.out 3).trans rfl
    have df : w8.frozen? ⟨x, 3, none⟩ = false := blk_frozen HG8.out 3
    obtain ⟨A8, c8, ev8⟩ := Kd.R_slice ho
    obtain ⟨n8, e8⟩ : ∃ n8, n8 = (O2 ++ [y]).length := ⟨_, rfl⟩
    rw [← e8] at ev8
    subst ev8
    clear e8
    have S8 := Aside0.mk (S7.out.putO HF.out ho hg8 hat)
    obtain ⟨w9, hw9⟩ : ∃ w9, w9 = w8.setCell ⟨x, 3, none⟩ (.slice A8 n8 c8) := ⟨_, rfl⟩
    clear ho hb8 hg8 hat
    refine hK.out _ _ ?_
    clear hK K
    refine normA (N := 68) ?_
    refine pureA (i := 11) (N := some 69) HT_ ?_
    refine pureA (i := 12) (N := some 70) HT_ ?_
    refine last_ (i := 13) (N := none) #[true, true, true, true, true, true, true, true, true, true, true, true, true, true] rfl rfl (one_of HT_.out (by kernel_rfl)) (by decide) (fun K hK => ?_)
    refine skip_ (w1 := ?_) (by rfl) rfl ?_ ?_
    rotate_left
    ·go_simp
     rfl
    refine hK.out _ _ ?_
    clear hK K
    refine done_ (done_of HT_.out (by kernel_rfl)) ?_
    obtain ⟨G2, hG2⟩ : ∃ G2, G2 = (fun k => (G' k ∨ w7.heap.size ≤ k) ∧ k < w8.heap.size) := ⟨_, rfl⟩
    rw [← hG2] at S8
    have S9 := S8
    have g94 : (w8.setCell ⟨x, 3, none⟩ (.slice A8 n8 c8)).cell? ⟨x, 4, none⟩ = some (.slice Ac mc cc) := (blk_cell S9.out.rx.blk 4).trans rfl
    clear hG2 hw9
    go_wp2_with (first
     | ((with_reducible refine gate_dst (N := 76) rfl ?_); refine lit1_event ?hg (N := 76) ?hd (cs := #[.int .i64 1]) (t := 3) (n := 1) ?hr ?_; (case hd => rfl); (case hg => rfl); (case hr => first | (go_simp; done) | (go_simp; rfl)); intro gl3 hg w10 hbox hb; have S10 := Aside0.mk (S9.out.below hb); have BL3 := Aside0.mk hbox; clear hb hbox hg)
     | ((with_reducible refine gate_builtin (b := .append) (xs := #[.tmp 75, .tmp 76]) rfl ?_); at_builtin; refine Kd.R_append_rows (Kd.int .i64) (w0 := w10) w0.heap.size rfl (.tmp 75) (.tmp 76) 52 3 (.int .i64 0) 8 rfl und_ints info3 rfl (by decide) (by omega) (.slice Ac mc cc) C2 [1] _ _ _ (fun k => (G2 k ∨ w10.heap.size ≤ k) ∧ k ≠ x ∧ some k ≠ (Value.slice Aw nW cw).ownBlock ∧ some k ≠ (Value.slice A8 n8 c8).ownBlock) (fun _ => False) rfl rfl ?aO ?aR (fun _ _ h => h) (fun _ h => h.elim) ?aF ?aB ?aS ?aL ?_; (case aR => exact oneI_C BL3.out); (case aB => exact Below.refl _ _); (case aF => exact S10.out.rx.freshC); (case aO => exact Kd.R_mono S10.out.rx.rC (fun k hk => ⟨.inl hk.1, hk.2⟩)); (case aS => exact below_size S10.out.rx.bl); (case aL => have := HLC2.out; omega); intro v2c w11 ho hb hg hat; have HG11 := Aside0.mk ((hg.block x (blk_lt S10.out.rx.blk) (fun e => (S10.out.rx.rC.1 x e.symm).2.1 rfl)).trans S10.out.rx.blk); have d4 : w11.cell? ⟨x, 4, none⟩ = some (.slice Ac mc cc) := (blk_cell HG11.out 4).trans rfl; have df4 : w11.frozen? ⟨x, 4, none⟩ = false := blk_frozen HG11.out 4; obtain ⟨A9, c9, ev9⟩ := Kd.R_slice ho; obtain ⟨n9, e9⟩ : ∃ n9, n9 = (C2 ++ [(1 : Int)]).length := ⟨_, rfl⟩; rw [← e9] at ev9; subst ev9; clear e9; have S12 := Aside0.mk (S10.out.putC HF.out ho hg hat); have e12a : (w11.setCell ⟨x, 4, none⟩ (.slice A9 n9 c9)).cell? (ad.add (i.toNat * 2)) = some (.int .i64 y.f0) := S12.out.cellg HF.out HP0.out E0.out; clear ho hb hg hat)
     | (go_at_call 43; (with_reducible refine (thalwegref03_Next.calls y.f0 (nextN y.f0) _ HNY.out).mono ?_); rintro x_ w13 ⟨rfl, hd⟩; have S13 := Aside0.mk (S12.out.below hd.below); have g135 : w13.cell? ⟨x, 5, none⟩ = some (.int .i64 nx2) := (blk_cell S13.out.rx.blk 5).trans rfl; have gf5 := blk_frozen S13.out.rx.blk 5; clear hd))
    go_roundg k1
    case measure => have := HI.out; omega
    case rel =>
     have hxs : (i + 1).toNat = i.toNat + 1 := by have := H0.out; omega
     refine ⟨i + 1, _, GG + m1, _, O2 ++ [y], C2 ++ [1], _, _, _, by first | rfl | simp [hw], rfl, by first | rfl | simp [hgw], ⟨by have := H0.out; omega⟩, ⟨by have := HI.out; omega⟩, ⟨by rw [hxs]; exact S13.out.setN _⟩, ⟨?_⟩, ⟨?_⟩, ⟨?_⟩, ⟨?_⟩, ⟨fun j hj hji => ?_⟩⟩
     ·rw [hxs, take_goneL i.toNat HXL.out, ← HY.out, ← HGG.out, HM1.out]
     ·rw [hxs, ← HKE.out, HO2.out, List.append_assoc]
     ·rw [hxs, ← HKE.out, HC2.out, List.map_append, List.append_assoc]
      rfl
     ·rw [hxs, take_nextL i.toNat HXL.out, ← HY.out]
     ·rcases Int.lt_or_le (j : Int) i with e | e
      ·exact HA.out j hj e
      ·have : j = i.toNat := by have := H0.out; omega
       subst this
       rw [← HY.out, ← HFE.out]
       exact HPW.out
def OkD (s : AS) : Prop := (∀ o ∈ s.W, OW o) ∧ ∀ d ∈ s.D, RB d.1.f0 d.1.f1
theorem firstX_A (s : AS) : firstX (s.D.map Prod.fst) s.nx = fstA s := by
 unfold firstX fstA
 cases s.D <;> rfl
theorem fstA_range {tr : Int} {n : Nat} {s : AS} (hk : OkA tr n s) (hd : OkD s) : 0 ≤ fstA s ∧ fstA s ≤ 65535 := by
 unfold fstA
 cases h : s.D with
 | nil => exact hk.2.2.2.2
 | cons d D => exact (hd.2 d (by rw [h]; exact List.mem_cons_self)).1
theorem packA_right {tr : Int} {n : Nat} {s : AS} (hk : OkA tr n s) : ∀ b ∈ packA s, RB b.f0 b.f1 := fun b hb => (pack_right 512 (by omega) s.W (s.nx % 65536) [] (by simpa using hk.1) (by simp) (fun e => absurd rfl e) (by omega) (by omega) b hb).1
theorem packA_len {tr : Int} {n : Nat} {s : AS} (hk : OkA tr n s) : (packA s).length ≤ 1024 := by
 have h1 := packA_gone s
 have h3 : (packA s).length ≤ goneL (packA s) := by
  have hr : ∀ b ∈ packA s, 1 ≤ b.f1.length := fun b hb => (packA_right hk b hb).2.1.1
  generalize packA s = B at hr ⊢
  unfold goneL
  induction B with
  | nil => simp
  | cons b B ih =>
   have := hr b List.mem_cons_self
   have := ih (fun x hx => hr x (List.mem_cons_of_mem _ hx))
   rw [List.map_cons, List.sum_cons, List.length_cons]
   omega
 have := hk.2.1
 omega
theorem XA_sub (wn : Int) (s : AS) : ∀ b ∈ XA wn s, b ∈ packA s := fun b hb => (List.takeWhile_prefix _).subset hb
section
variable {tr wn : Int} {n : Nat} {s : AS}
theorem OkD.nil : OkD ⟨[], [], 0⟩ := ⟨(fun o ho => by cases ho), (fun d hd => by cases hd)⟩
theorem OkD.push (h : OkD s) {o : S34} (ho : OW o) : OkD (pushA o s) := by
 unfold pushA
 split
 ·exact ⟨fun x hx => (List.mem_append.1 hx).elim (h.1 x) (fun e => by rw [List.mem_singleton.1 e]; exact ho), h.2⟩
 ·exact h
theorem OkD.send (h : OkD s) (hk : OkA tr n s) : OkD (sendA wn s) := by
 refine ⟨fun x hx => h.1 x (List.mem_of_mem_drop hx), fun d hd => ?_⟩
 rcases List.mem_append.1 hd with e | e
 ·exact h.2 d e
 ·obtain ⟨b, hb, rfl⟩ := List.mem_map.1 e
  exact packA_right hk b (XA_sub wn s b hb)
theorem OkD.again (h : OkD s) : OkD (againA tr s) := by
 unfold againA
 split
 ·exact h
 ·refine ⟨h.1, fun d hd => ?_⟩
  obtain ⟨e, he, rfl⟩ := List.mem_map.1 hd
  exact h.2 e he
theorem OkD.got (h : OkD s) (a : S36) : OkD (gotA a s) := by
 unfold gotA
 split
 ·exact ⟨h.1, fun d hd => h.2 d ((List.mem_filter.1 hd).1)⟩
 ·exact h
end
section
variable {w0 w : World} {G R : Nat → Prop} {x : Nat} {wn tr : Int} {s : AS} {n : Nat}
theorem rsend_a (h : Rs w0 w G R x wn tr s) (hk : OkA tr n s) (hd : OkD s) (hn : n ≤ 900000) :
  Calls Try.prog 19 #[.pointer (some ⟨x, 0, none⟩)] w fun e w' => ∃ v G' R', e = .returned v ∧ Rs w0 w' G' R' x wn tr (sendA wn s) ∧ SX w G R w' G' R' ∧ k48.R 48 w' w0.heap.size (fun _ => True) v (XA wn s) := by
 obtain ⟨vW, vO, vC, hx, rfl⟩ := h
 have hfr := fstA_range hk hd
 obtain ⟨k1, k2, k3, k4, k5⟩ := hk
 obtain ⟨K1, hp⟩ := rpack_yes s.W k2 hd.1 s.nx 512 (by omega) ⟨by omega, k1⟩
 have hok : OkA tr n s := ⟨k1, k2, k3, k4, k5⟩
 have hp1 := hp K1 (Nat.le_refl _)
 refine (rsend_s hx k2 (by rw [List.length_map]; omega) (by rw [List.length_map]; omega) K1 (packA s) 0 hp1 (packA_len hok) (fun b => far (fstA s) b.f0) (fun b hb => ?_) (fun b hb => ?_) (by rw [packA_gone]; exact Nat.le_refl _)).mono ?_
 ·have hb2 := (packA_right hok b hb).1
  rw [firstX_A]
  exact rfar_eq _ _ (wf_small hfr) (wf_small hb2)
 ·have hb2 := (packA_right hok b hb).1
  rw [rnext_eq b.f0 hb2.1 hb2.2, nextN_eq b.f0 (by omega)]
 ·rintro e w' ⟨v, G', vW', vO', vC', rfl, hs, hsx, hr⟩
  refine ⟨v, G', _, rfl, ⟨vW', vO', vC', ?_, rfl⟩, hsx, hr⟩
  have e1 : (s.D ++ (XA wn s).map (fun b => (b, (1 : Int)))).map Prod.fst = s.D.map Prod.fst ++ XA wn s := by
   rw [List.map_append, List.map_map]
   congr 1
   exact List.map_id' _
  have e2 : (s.D ++ (XA wn s).map (fun b => (b, (1 : Int)))).map Prod.snd = s.D.map Prod.snd ++ (XA wn s).map (fun _ => (1 : Int)) := by
   rw [List.map_append, List.map_map]
   rfl
  show Rx w0 w' G' x wn tr (s.W.drop (goneL (XA wn s))) ((s.D ++ (XA wn s).map (fun b => (b, (1 : Int)))).map Prod.fst) ((s.D ++ (XA wn s).map (fun b => (b, (1 : Int)))).map Prod.snd) (nextL s.nx (XA wn s)) vW' vO' vC'
  rw [e1, e2]
  exact hs
theorem rgot_a (h : Rs w0 w G R x wn tr s) (hk : OkA tr n s) (hd : OkD s) (hn : n ≤ 900000) (a : S36) :
  Calls Try.prog 21 #[.pointer (some ⟨x, 0, none⟩), ackV a] w fun e w' => ∃ G' R', e = .returned (.int .i64 ((s.D.length : Int) - ((gotA a s).D.length : Int))) ∧ Rs w0 w' G' R' x wn tr (gotA a s) ∧ SX w G R w' G' R' := by
 obtain ⟨vW, vO, vC, hx, rfl⟩ := h
 have hfr := fstA_range hk hd
 obtain ⟨k1, k2, k3, k4, k5⟩ := hk
 unfold gotA
 by_cases t1 : SA a
 ·have ht : thalwegref07_One.f a.f0 a.f1 a.f2 a.f3 = some true := by rw [one_eq, decide_eq_true t1]
  have wf2 : (Lit.int .i64 a.f2).wf = true := wf_small t1.2.2.1
  refine (rgot_in hx (by omega) 0 a.f0 a.f1 a.f2 a.f3 ht (far (fstA s) a.f2) (far (fstA s) s.nx) (by rw [firstX_A]; exact rfar_eq _ _ (wf_small hfr) wf2) (by rw [firstX_A]; exact rfar_eq _ _ (wf_small hfr) (wf_small k5)) (hasA a) (fun d hd2 w => rhas_a t1 (wf_small (hd.2 d hd2).1) w)).mono ?_
  rintro e w' (⟨t2, rfl, hb⟩ | ⟨t2, G', vO', vC', rfl, hs, hsx⟩)
  ·rw [if_neg (fun h => h.2 t2), Int.sub_self]
   exact ⟨_, _, rfl, ⟨vW, vO, vC, hx.below hb, rfl⟩, SX.of_below _ _ hb⟩
  ·rw [if_pos ⟨t1, t2⟩]
   exact ⟨G', _, rfl, ⟨vW, vO', vC', hs, rfl⟩, hsx⟩
 ·have ht : thalwegref07_One.f a.f0 a.f1 a.f2 a.f3 = some false := by rw [one_eq, decide_eq_false t1]
  rw [if_neg (fun h => t1 h.1), Int.sub_self]
  refine (rgot_bad hx a.f0 a.f1 a.f2 a.f3 ht).mono ?_
  rintro e w' ⟨rfl, hb⟩
  exact ⟨_, _, rfl, ⟨vW, vO, vC, hx.below hb, rfl⟩, SX.of_below _ _ hb⟩
end
section
variable {w0 w : World} {F R : Nat → Prop} {g : Nat} {wn tr : Int} {s : AS} {n : Nat}
theorem again_b (h : Sn w0 w F R g wn tr s) (hk : OkA tr n s) (hn : n ≤ 900000) (ht : tr ≤ 100) :
  Calls Try.prog 13 #[.pointer (some ⟨g, 0, none⟩)] w fun e w' => ∃ v R', e = .returned (.tuple #[v, .bool (decide (¬ fullA tr s))]) ∧ Sn w0 w' F R' g wn tr (againA tr s) ∧ SX w F R w' F R' ∧ k48.R 48 w' w0.heap.size (fun k => w.heap.size ≤ k ∨ F k) v (againL tr s) := by
 obtain ⟨O, vw, vo, hd, h2, rfl⟩ := h
 obtain ⟨k1, k2, k3, k4, k5⟩ := hk
 have hol : O.length ≤ 1000000 := by have := dat_len O; rw [h2] at this; omega
 have hob : ∀ o ∈ O, 0 ≤ o.2 ∧ o.2 ≤ 1000000 := fun o ho => by
  have := dat_mem (O := O) (Q := fun x => 0 ≤ x ∧ x ≤ tr) (by rw [h2]; exact k4) o ho
  omega
 unfold againA againL
 by_cases hq : fullA tr s
 ·rw [if_pos hq, if_pos hq, decide_eq_false (fun e => e hq)]
  obtain ⟨d, hd1, hd2⟩ := hq
  rw [← h2] at hd1
  obtain ⟨o, ho, rfl⟩ := List.mem_map.1 hd1
  refine (sagain_bad hd hol hob ⟨o, ho, hd2⟩).mono ?_
  rintro e w' ⟨rfl, hb⟩
  exact ⟨_, _, rfl, ⟨O, vw, vo, hd.below hb, h2, rfl⟩, SX.of_below _ _ hb, Kd.R_nil _ _ _ _ _⟩
 ·rw [if_neg hq, if_neg hq, decide_eq_true hq]
  refine (sagain_ok hd hol hob (fun o ho e => hq ⟨_, by rw [← h2]; exact List.mem_map_of_mem ho, e⟩)).mono ?_
  rintro e w' ⟨v, rfl, hs, hx, hr, ho⟩
  refine ⟨v, _, rfl, ⟨bumpA O, vw, vo, hs, by rw [dat_bump, h2], rfl⟩, hx, ?_⟩
  rw [dat_b, h2] at hr
  exact Kd.R_mono hr (fun k hk => hk.imp id (fun e => e.1))
end
structure Tw (w0 w : World) (F R G Q : Nat → Prop) (g x : Nat) (wn tr : Int) (n : Nat) (s : AS) : Prop where
 sn : Sn w0 w F R g wn tr s
 rs : Rs w0 w G Q x wn tr s
 ap : ∀ k, G k → ¬ F k
 ok : OkA tr n s
 od : OkD s
section
variable {w0 w w' w'' : World} {F R G Q F' R' G' Q' : Nat → Prop} {g x : Nat} {wn tr : Int} {n m : Nat} {s s' : AS}
theorem Tw.below (h : Tw w0 w F R G Q g x wn tr n s) (hb : Below w.heap.size w w') : Tw w0 w' F R G Q g x wn tr n s := ⟨h.sn.below hb, h.rs.below hb, h.ap, h.ok, h.od⟩
theorem Tw.more (h : Tw w0 w F R G Q g x wn tr n s) (hm : n ≤ m) : Tw w0 w F R G Q g x wn tr m s := ⟨h.sn, h.rs, h.ap, h.ok.more hm, h.od⟩
theorem Tw.one (h : Tw w0 w F R G Q g x wn tr n s) (hn : Sn w0 w' F' R' g wn tr s') (hs : SX w F R w' F' R') : Rs w0 w' G Q x wn tr s ∧ ∀ k, G k → ¬ F' k :=
 h.rs.other hs h.sn.rf h.ap hn.bl
theorem Tw.two (hn : Sn w0 w' F' R' g wn tr s') (hr : Rs w0 w' G Q x wn tr s) (ha : ∀ k, G k → ¬ F' k) (hr2 : Rs w0 w'' G' Q' x wn tr s') (hs : SX w' G Q w'' G' Q') (ok : OkA tr m s') (od : OkD s') : Tw w0 w'' F' R' G' Q' g x wn tr m s' := by
 obtain ⟨h1, h2⟩ := hn.other hs hr.rf ha hr2.bl
 exact ⟨h1, hr2, h2, ok, od⟩
end
def BO17 (gb : Nat) (y : S38) (w : World) : Prop := w.heap[gb]? = some (.cells #[.int .i64 y.f0, .int .i64 y.f1.f0, .int .i64 y.f1.f1, .bool y.f1.f2.f0, .int .i64 y.f1.f2.f1, .int .i64 y.f1.f2.f2, .int .i64 y.f1.f2.f3, .int .i64 y.f1.f2.f4, .int .i64 y.f1.f2.f5, .int .i64 y.f1.f3.f0, .int .i64 y.f1.f3.f1, .int .i64 y.f1.f3.f2, .int .i64 y.f1.f4, .int .i64 y.f2.f0, .int .i64 y.f2.f1, .int .i64 y.f2.f2, .int .i64 y.f2.f3] 38 (0, 0))
theorem one17 (y : S38) : (#[.int .i64 y.f0, .int .i64 y.f1.f0, .int .i64 y.f1.f1, .bool y.f1.f2.f0, .int .i64 y.f1.f2.f1, .int .i64 y.f1.f2.f2, .int .i64 y.f1.f2.f3, .int .i64 y.f1.f2.f4, .int .i64 y.f1.f2.f5, .int .i64 y.f1.f3.f0, .int .i64 y.f1.f3.f1, .int .i64 y.f1.f3.f2, .int .i64 y.f1.f4, .int .i64 y.f2.f0, .int .i64 y.f2.f1, .int .i64 y.f2.f2, .int .i64 y.f2.f3] : Array Value).all (·.oneCell') = true := by
 simp [Value.oneCell']
theorem wf_zero : (Lit.int .i64 0).wf = true := wf_small (by omega)
theorem Rs.new {w0 w : World} {x : Nat} {wn tr : Int} (hb : Below w0.heap.size w0 w) (hx : w.heap[x]? = some (.cells #[.int .i64 wn, .int .i64 tr, .slice none 0 0, .slice none 0 0, .slice none 0 0, .int .i64 0] 54 (0, 0))) (h0 : w0.heap.size ≤ x) : Rs w0 w (fun k => k = x) (Wx x (.slice none 0 0) (.slice none 0 0) (.slice none 0 0)) x wn tr ⟨[], [], 0⟩ :=
 ⟨_, _, _, ⟨hb, hx, h0, fun k e => by rw [e]; exact blk_lt hx, rfl, Kd.R_nil _ _ _ _ _, Kd.R_nil _ _ _ _ _, Kd.R_nil _ _ _ _ _⟩, rfl⟩
theorem Tw.start {w w2 w3 : World} {F R : Nat → Prop} {g x : Nat} {wn tr : Int} (h : Sn w w2 F R g wn tr ⟨[], [], 0⟩) (hb : Below w2.heap.size w2 w3) (hx : w3.heap[x]? = some (.cells #[.int .i64 wn, .int .i64 tr, .slice none 0 0, .slice none 0 0, .slice none 0 0, .int .i64 0] 54 (0, 0))) (hg : x = w2.heap.size) :
  Tw w w3 F R (fun k => k = x) (Wx x (.slice none 0 0) (.slice none 0 0) (.slice none 0 0)) g x wn tr 0 ⟨[], [], 0⟩ :=
 ⟨h.below hb, Rs.new (below_step h.bl hb) hx (by have := below_size h.bl; omega), fun k e hF => by have := h.lt k hF; omega, OkA.nil _ _, OkD.nil⟩
theorem Tw.drew {w0 w : World} {F R G Q : Nat → Prop} {g x : Nat} {wn tr : Int} {n : Nat} {s : AS} (h : Tw w0 w F R G Q g x wn tr n s) : Tw w0 w.drew F R G Q g x wn tr n s := h.below (below_drew (Below.refl _ _))
theorem RB.len {n : Int} {l : List S34} (h : RB n l) : l.length ≤ 100000 := Nat.le_trans h.2.1.2 (by decide)
theorem XA_all {wn tr : Int} {n : Nat} {s : AS} (hk : OkA tr n s) : (XA wn s).length ≤ 1000000 ∧ ∀ b ∈ XA wn s, b.f1.length ≤ 100000 :=
 ⟨by have := XA_len (wn := wn) hk.1; have := hk.2.1; omega, fun b hb => (packA_right hk b (XA_sub wn s b hb)).len⟩
theorem D_all {tr : Int} {n : Nat} {s : AS} (hk : OkA tr n s) (hd : OkD s) (hn : n ≤ 900000) : (s.D.map Prod.fst).length ≤ 1000000 ∧ ∀ b ∈ s.D.map Prod.fst, b.f1.length ≤ 100000 :=
 ⟨by rw [List.length_map]; have := hk.2.2.1; omega, fun b hb => by obtain ⟨d, hd2, rfl⟩ := List.mem_map.1 hb; exact (hd.2 d hd2).len⟩
theorem againL_all {tr : Int} {n : Nat} {s : AS} (hk : OkA tr n s) (hd : OkD s) (hn : n ≤ 900000) : (againL tr s).length ≤ 1000000 ∧ ∀ b ∈ againL tr s, b.f1.length ≤ 100000 := by
 unfold againL
 split
 ·exact ⟨by simp, fun b hb => by cases hb⟩
 ·exact D_all hk hd hn
def OkS14 (l : List S38) : Prop := ∀ o ∈ l, OW o.f1
noncomputable def thalweglaw14_SenderDoes.f (a0 a1 a2 : Int) (l3 : List S38) : Option Bool := if OkS14 l3 then some true else none
theorem rd_mem38 (l : List S38) (i : Int) (h0 : 0 ≤ i) (h1 : i < l.length) : rd_T38 l i ∈ l := by
 have hi : i.toNat < l.length := by omega
 unfold rd_T38
 rw [List.getD_eq_getElem?_getD, List.getElem?_eq_getElem hi]
 exact List.getElem_mem hi
def sdo.T13 : Bool × List (List Nat × List Nat) := (true, [([], []), ([], []), ([0, 1], [0, 1]), ([], []), ([], []), ([3, 4, 2], [3, 4]), ([2, 5], [2, 5])])
def sdo.B13 : List Nat := [0, 0, 3, 0, 0, 31, 63]
theorem sdo.tab13 : rtab .any (opsOf Try.f5 13) = sdo.T13 := by kernel_rfl
theorem sdo.bits13 : waitsOk sdo.T13.2 sdo.B13 = true := by kernel_rfl
def sdo.T21 : Bool × List (List Nat × List Nat) := (true, [([], []), ([], []), ([1], [1]), ([0, 2], [0, 2]), ([], []), ([], []), ([5], [5]), ([4, 6, 3], [4, 6]), ([3, 7], [3, 7]), ([8, 7, 0, 1, 2, 3, 4, 5, 6, 7, 8], [8])])
def sdo.B21 : List Nat := [0, 0, 2, 7, 0, 0, 32, 127, 255, 511]
theorem sdo.tab21 : rtab .any (opsOf Try.f5 21) = sdo.T21 := by kernel_rfl
theorem sdo.bits21 : waitsOk sdo.T21.2 sdo.B21 = true := by kernel_rfl
def sdo.T23 : Bool × List (List Nat × List Nat) := (true, [([], []), ([], []), ([1], [1]), ([0, 2], [0, 2]), ([], []), ([], []), ([5], [5]), ([4, 6, 3], [4, 6]), ([3, 7], [3, 7]), ([8, 7, 0, 1, 2, 3, 4, 5, 6, 7, 8], [8])])
def sdo.B23 : List Nat := [0, 0, 2, 7, 0, 0, 32, 127, 255, 511]
theorem sdo.tab23 : rtab .any (opsOf Try.f5 23) = sdo.T23 := by kernel_rfl
theorem sdo.bits23 : waitsOk sdo.T23.2 sdo.B23 = true := by kernel_rfl
def sdo.T30 : Bool × List (List Nat × List Nat) := (true, [([], []), ([0], [0]), ([1], [1]), ([2], [2]), ([3, 2, 2], [2, 3]), ([2], [2]), ([5, 2], [2, 5]), ([6, 2], [2, 6]), ([7, 2], [2, 7]), ([4, 8, 4, 2], [2, 4, 8]), ([9, 2], [2, 9]), ([2, 10], [2, 10]), ([11, 9], [11]), ([12], [12]), ([13, 12, 12], [12, 13]), ([12], [12]), ([15, 12], [12, 15]), ([16, 12], [12, 16]), ([17, 12], [12, 17]), ([14, 18, 14, 12], [12, 14, 18]), ([19, 12], [12, 19]), ([12, 20], [12, 20])])
def sdo.B30 : List Nat := [0, 1, 3, 7, 15, 7, 39, 103, 231, 511, 1023, 2047, 4095, 8191, 16383, 8191, 40959, 106495, 237567, 524287, 1048575, 2097151]
theorem sdo.tab30 : rtab .any (opsOf Try.f5 30) = sdo.T30 := by kernel_rfl
theorem sdo.bits30 : waitsOk sdo.T30.2 sdo.B30 = true := by kernel_rfl
theorem does_ok (a0 a1 a2 : Int) (A3 : Option Addr) (cp n : Nat) (l3 : List S38) (w : World) (hr3 : Kd.C k38 w A3 n l3) (hnl3 : n = l3.length) (hs : OkS14 l3) (hv : 1 ≤ a0 ∧ a0 ≤ 16 ∧ 1 ≤ a1 ∧ a1 ≤ 100) (hl : ¬ (n : Int) > 100) (hq2 : 0 ≤ a2 ∧ a2 ≤ 1030) (hm : (decide (a2 > 100) = false ∧ True) ∨ (decide (a2 > 100) = true ∧ decide (a2 < 1020) = false)) :
  Calls Try.prog 5 #[.int .i64 a0, .int .i64 a1, .int .i64 a2, .slice A3 n cp] w fun e w' => e = .returned (.bool true) ∧ Below w.heap.size w w' := by
 have HV := Aside0.mk hv
 have HR3 := Aside0.mk hr3
 have HL := Aside0.mk hl
 have HLN := Aside0.mk hnl3
 have HSC := Aside0.mk hs
 have HA2 := Aside0.mk hq2
 have q1 : decide ((n : Int) > 100) = false := decide_eq_false hl
 have q2 : decide (a2 < 0) = false := decide_eq_false (by omega)
 have q5 : decide (a2 > 1030) = false := decide_eq_false (by omega)
 have q6 : decide (a0 < 1) = false := decide_eq_false (by omega)
 have q7 : decide (a0 > 16) = false := decide_eq_false (by omega)
 have q8 : decide (a1 < 1) = false := decide_eq_false (by omega)
 have q9 : decide (a1 > 100) = false := decide_eq_false (by omega)
 obtain ⟨M, hM⟩ : ∃ M : Nat, (M : Int) = a2 := ⟨a2.toNat, by omega⟩
 have HM := Aside0.mk hM
 clear hv hl hr3 hnl3 hs hq2 hM
 go_enter Try.func5, Try.ntmps5
 go_upto_region 1 with (fail)
 go_cut [39] (fun v39 wc => v39 = .bool false ∧ Aside0 (w = wc))
 case first =>
  rcases hm with ⟨q3, q4⟩ | ⟨q3, q4⟩
  all_goals
   go_wp2
   go_meet
   case rel => exact ⟨rfl, ⟨rfl⟩⟩
 case rest =>
  obtain ⟨rfl, HWW⟩ := hcut
  have hww := HWW.out
  subst hww
  clear hm q1 q2 q5 HWW
  go_wp2_with (first
   | (go_at_call 9; (with_reducible refine (new_a (Below.refl _ _) a0 a1 HV.out.1 HV.out.2.1 HV.out.2.2.1 HV.out.2.2.2).mono ?_); rintro x_ w2 ⟨g, F2, R2, rfl, hn, _, _⟩; have M2 := Aside0.mk hn; clear hn)
   | ((with_reducible refine gate_dst (N := 78) rfl ?_); refine box_event ?hg (N := 78) ?hd (cs := #[.int .i64 a0, .int .i64 a1, .slice none 0 0, .slice none 0 0, .slice none 0 0, .int .i64 0]) (t := 54) ?hr ?_; (case hd => rfl); (case hg => rfl); (case hr => first | (go_simp; done) | (go_simp; rfl) | rfl | kernel_rfl); intro x hg w3 hbox hb; have T0 := Aside0.mk (Tw.start M2.out hb hbox hg); clear hb hbox hg))
  clear q6 q7 q8 q9
  go_loopg [12] M (fun kq v12 wr => ∃ (i : Int) (F R G Q : Nat → Prop) (s : AS), v12 = .int .i64 i ∧ Aside0 (0 ≤ i) ∧ Aside0 (i + kq = a2) ∧ Aside0 (Tw w wr F R G Q g x a0 a1 0 s))
  case atStart => exact ⟨0, _, _, _, _, _, rfl, ⟨by omega⟩, ⟨by have := HM.out; omega⟩, T0⟩
  case round =>
  clear T0 M2
  obtain ⟨i, F, R, G, Q, s, rfl, H0, HI, SS⟩ := hrel
  obtain ⟨wy, rfl⟩ : ∃ wy, wy = wr := ⟨_, rfl⟩
  cases gk with
  | succ k1 =>
   have hlt := (show i < a2 by have := HI.out; omega)
   have h0 := H0.out
   have hd : decide (i < a2) = true := decide_eq_true hlt
   have hw : wrap64 (i + 1) = i + 1 := w64 (by omega) (by have := HA2.out; omega)
   obtain ⟨o, ho⟩ : ∃ o : S34, o = ⟨1, i % 64, ⟨false, 0, 0, 0, 0, 0⟩, ⟨0, 0, 0⟩, 0⟩ := ⟨_, rfl⟩
   have HOE := Aside0.mk ho
   have HOW := Aside0.mk (show OW o by rw [ho]; exact ⟨wf_zero, wf_zero, wf_zero⟩)
   clear ho
   go_upto_region 13 with (first
    | ((with_reducible refine gate_dst (N := 13) rfl ?_); refine box_event ?hg (N := 13) ?hd (cs := #[.int .i64 0, .int .i64 0, .bool false, .int .i64 0, .int .i64 0, .int .i64 0, .int .i64 0, .int .i64 0, .int .i64 0, .int .i64 0, .int .i64 0, .int .i64 0]) (t := 34) ?hr ?_; (case hd => rfl); (case hg => rfl); (case hr => first | (go_simp; done) | (go_simp; rfl) | rfl | kernel_rfl); intro gb hg w3 hbox hb; have BA := Aside0.mk hbox; have HBA := Aside0.mk hb; have HGB := Aside0.mk hg; have HNF := Aside0.mk (show ¬ F gb from fun hF => by have := SS.out.sn.lt gb hF; omega); clear hb hbox hg)
    | ((with_reducible refine wpList_store_row rfl 34 (.tmp 13) (.tmp 86) rfl gb #[.int .i64 1, .int .i64 (i % 64), .bool false, .int .i64 0, .int .i64 0, .int .i64 0, .int .i64 0, .int .i64 0, .int .i64 0, .int .i64 0, .int .i64 0, .int .i64 0] ?sx ?sy 34 #[.int .i64 0, .int .i64 0, .bool false, .int .i64 0, .int .i64 0, .int .i64 0, .int .i64 0, .int .i64 0, .int .i64 0, .int .i64 0, .int .i64 0, .int .i64 0] BA.out ?si rfl ?s1 ?_); (case sx => rfl); (case sy => rfl); (case si => kernel_rfl); (case s1 => exact one12 _ (i % 64) _ _ _ _ _ _ _ _ _ _); have BB3 := Aside0.mk (setRow_heap w3 gb _ #[.int .i64 1, .int .i64 (i % 64), .bool false, .int .i64 0, .int .i64 0, .int .i64 0, .int .i64 0, .int .i64 0, .int .i64 0, .int .i64 0, .int .i64 0, .int .i64 0] _ _ BA.out); have HB3 := Aside0.mk (below_setRow HBA.out (Nat.le_of_eq HGB.out.symm) #[.int .i64 1, .int .i64 (i % 64), .bool false, .int .i64 0, .int .i64 0, .int .i64 0, .int .i64 0, .int .i64 0, .int .i64 0, .int .i64 0, .int .i64 0, .int .i64 0]); generalize w3.setRow gb #[.int .i64 1, .int .i64 (i % 64), .bool false, .int .i64 0, .int .i64 0, .int .i64 0, .int .i64 0, .int .i64 0, .int .i64 0, .int .i64 0, .int .i64 0, .int .i64 0] = wq at BB3 HB3 ⊢; have T3 := Aside0.mk (SS.out.below HB3.out); rw [show (#[.int .i64 1, .int .i64 (i % 64), .bool false, .int .i64 0, .int .i64 0, .int .i64 0, .int .i64 0, .int .i64 0, .int .i64 0, .int .i64 0, .int .i64 0, .int .i64 0] : Array Value) = #[.int .i64 o.f0, .int .i64 o.f1, .bool o.f2.f0, .int .i64 o.f2.f1, .int .i64 o.f2.f2, .int .i64 o.f2.f3, .int .i64 o.f2.f4, .int .i64 o.f2.f5, .int .i64 o.f3.f0, .int .i64 o.f3.f1, .int .i64 o.f3.f2, .int .i64 o.f4] from by rw [HOE.out]] at BB3; clear BA HBA HGB))
   refine start_ (n := 7) (S := fun w' => BO12 gb o w') (ds := [5]) #[false, false, false, false, false, false, false] (by kernel_rfl) rfl rfl ((blk_below BB3.out (below_drew (Below.refl _ _)))) (fun hHeld => ?_); refine with_tabW sdo.tab13 sdo.bits13 (fun HT_ HW_ => ?_)
   refine pureA (i := 0) (N := some 87) HT_ ?_
   refine pureA (i := 3) (N := some 90) HT_ ?_
   refine take_ (i := 1) (N := some 88) (v := ?_) (a' := ?_) #[true, true, false, true, false, false, false] rfl rfl (take_ofW HT_.out HW_.out (by kernel_rfl)) (fun _ _ _ h => h) (Or.inl ⟨by rfl, ?_⟩) hHeld ?_ ?_
   rotate_left
   ·intro w' s0
    obtain ⟨c0, c1, c2, c3, c4, c5, c6, c7, c8, c9, c10, c11⟩ := cells12 s0
    clear s0
    go_simp
    with_reducible rfl
   rotate_left
   ·simp only [Act.put, List.setIfInBounds_toArray, List.set_cons_zero, List.set_cons_succ, i64_w, i32_w]
    rfl
   refine take_ (i := 4) (N := some 91) (v := ?_) (a' := ?_) #[true, true, false, true, true, false, false] rfl rfl (take_ofW HT_.out HW_.out (by kernel_rfl)) (fun _ _ _ h => h) (Or.inl ⟨by rfl, ?_⟩) hHeld ?_ ?_
   rotate_left
   ·intro w' s0
    obtain ⟨c0, c1, c2, c3, c4, c5, c6, c7, c8, c9, c10, c11⟩ := cells12 s0
    clear s0
    go_simp
    with_reducible rfl
   rotate_left
   ·simp only [Act.put, List.setIfInBounds_toArray, List.set_cons_zero, List.set_cons_succ, i64_w, i32_w]
    rfl
   refine oneA (i := 2) (N := some 89) HT_ (fun K hK => ?_)
   refine goes_ Try.func11 (by kernel_rfl) rfl #[.pointer (some ⟨g, 0, none⟩), .agg #[.int .i64 o.f0, .int .i64 o.f1, .bool o.f2.f0, .int .i64 o.f2.f1, .int .i64 o.f2.f2, .int .i64 o.f2.f3, .int .i64 o.f2.f4, .int .i64 o.f2.f5, .int .i64 o.f3.f0, .int .i64 o.f3.f1, .int .i64 o.f3.f2, .int .i64 o.f4]] (by rfl) rfl rfl (by simp only [List.map_toArray, List.map_cons, List.map_nil]; rfl) ?_
   with_reducible refine (push_a T3.out.drew.sn o).mono ?_
   rintro e w4 ⟨F4, R4, rfl, hn, hx⟩
   refine ⟨_, rfl, ?_⟩
   have X4 := T3.out.drew.one hn hx
   have RS4 := Aside0.mk X4.1
   have AP4 := Aside0.mk X4.2
   have SN4 := Aside0.mk hn
   have BB4 := Aside0.mk (T3.out.drew.sn.keepb hx (blk_below BB3.out (below_drew (Below.refl _ _))) HNF.out).1
   clear hn hx X4
   refine hK.out _ _ (BB4.out) (fun hHeld => ?_)
   clear hK K
   refine normA (N := 89) ?_
   refine last_ (i := 5) (N := some 92) #[true, true, true, true, true, true, false] rfl rfl (one_of HT_.out (by kernel_rfl)) (by decide) (fun K hK => ?_)
   refine goes_ Try.func18 (by kernel_rfl) rfl #[.pointer (some ⟨x, 0, none⟩), .agg #[.int .i64 o.f0, .int .i64 o.f1, .bool o.f2.f0, .int .i64 o.f2.f1, .int .i64 o.f2.f2, .int .i64 o.f2.f3, .int .i64 o.f2.f4, .int .i64 o.f2.f5, .int .i64 o.f3.f0, .int .i64 o.f3.f1, .int .i64 o.f3.f2, .int .i64 o.f4]] (by rfl) rfl rfl (by simp only [List.map_toArray, List.map_cons, List.map_nil]; rfl) ?_
   with_reducible refine (rpush_a RS4.out o).mono ?_
   rintro e w5 ⟨G5, Q5, rfl, hr, hx⟩
   refine ⟨_, rfl, ?_⟩
   have T5 := Aside0.mk (Tw.two SN4.out RS4.out AP4.out hr hx (T3.out.ok.push o) (T3.out.od.push HOW.out))
   clear hr hx
   refine hK.out _ _ ?_
   clear hK K
   refine normA (N := 92) ?_
   refine pureA (i := 6) (N := some 93) HT_ ?_
   refine done_ (done_of HT_.out (by kernel_rfl)) ?_
   go_wp2
   go_roundg k1
   case measure => have := HI.out; omega
   case rel => exact ⟨i + 1, _, _, _, _, _, by first | rfl | simp [hw], ⟨by have := H0.out; omega⟩, ⟨by have := HI.out; omega⟩, T5⟩
  | zero =>
  have hni : decide (i < a2) = false := decide_eq_false (by have := HI.out; omega)
  have SS0 := SS
  clear SS
  go_wp2
  go_loopg [14] n (fun kq v14 wr => ∃ (i : Int) (F R G Q : Nat → Prop) (s : AS), v14 = .int .i64 i ∧ Aside0 (0 ≤ i) ∧ Aside0 (i + kq = n) ∧ Aside0 (Tw w wr F R G Q g x a0 a1 (2048 * i.toNat) s))
  case atStart => exact ⟨0, _, _, _, _, _, rfl, ⟨by omega⟩, ⟨by omega⟩, SS0⟩
  case round =>
  clear SS0 H0 HI hni
  clear F R G Q s
  obtain ⟨j, F, R, G, Q, s, rfl, H0, HI, SS⟩ := hrel
  obtain ⟨wz, rfl⟩ : ∃ wz, wz = wr := ⟨_, rfl⟩
  cases gk with
  | zero =>
   have hnl : decide (j < (n : Int)) = false := decide_eq_false (by have := HI.out; omega)
   go_wp2_with (go_at_call 10; (with_reducible refine (awake_a _).mono ?_); rintro x_ w9 ⟨rfl, hb⟩; have B9 := Aside0.mk (below_step SS.out.sn.bl hb); clear hb)
   go_ret
   exact ⟨rfl, B9.out⟩
  | succ k1 =>
   have hlt := (show j < (n : Int) by have := HI.out; omega)
   have HXL := Aside0.mk (show j < 100 by have := HI.out; have := HL.out; omega)
   have h0 := H0.out
   have hd : decide (j < (n : Int)) = true := decide_eq_true hlt
   have hw : wrap64 (j + 1) = j + 1 := w64 (by omega) (by have := HL.out; omega)
   have HN8 := Aside0.mk (show 2048 * j.toNat ≤ 900000 by have := HL.out; omega)
   have HN7 := Aside0.mk (show 2048 * (j.toNat + 1) ≤ 900000 by have := HL.out; omega)
   obtain ⟨ad, e_, x0, x1, x2, x3, x4, x5, x6, x7, x8, x9, x10, x11, x12, x13, x14, x15, x16⟩ := at_T38 (Kd.C_below HR3.out SS.out.sn.bl) j h0 hlt
   cases e_
   obtain ⟨y, hy⟩ : ∃ y, y = rd_T38 l3 j := ⟨_, rfl⟩
   have HOW := Aside0.mk (show OW y.f1 by rw [hy]; exact HSC.out _ (rd_mem38 l3 j h0 (by have := HLN.out; omega)))
   rw [← hy] at x0 x1 x2 x3 x4 x5 x6 x7 x8 x9 x10 x11 x12 x13 x14 x15 x16
   have h0t := eq_true h0
   have hltt := eq_true hlt
   clear hy
   go_upto_region 19 with (first
    | ((with_reducible refine gate_dst (N := 15) rfl ?_); refine box_event ?hg (N := 15) ?hd (cs := #[.int .i64 0, .int .i64 0, .int .i64 0, .bool false, .int .i64 0, .int .i64 0, .int .i64 0, .int .i64 0, .int .i64 0, .int .i64 0, .int .i64 0, .int .i64 0, .int .i64 0, .int .i64 0, .int .i64 0, .int .i64 0, .int .i64 0]) (t := 38) ?hr ?_; (case hd => rfl); (case hg => rfl); (case hr => first | (go_simp; done) | (go_simp; rfl) | rfl | kernel_rfl); intro gb hg w3 hbox hb; have BA := Aside0.mk hbox; have HBA := Aside0.mk hb; have HGB := Aside0.mk hg; have HNF := Aside0.mk (show ¬ F gb from fun hF => by have := SS.out.sn.lt gb hF; omega); clear hb hbox hg)
    | ((with_reducible refine wpList_store_row rfl 38 (.tmp 15) (.tmp 103) rfl gb #[.int .i64 y.f0, .int .i64 y.f1.f0, .int .i64 y.f1.f1, .bool y.f1.f2.f0, .int .i64 y.f1.f2.f1, .int .i64 y.f1.f2.f2, .int .i64 y.f1.f2.f3, .int .i64 y.f1.f2.f4, .int .i64 y.f1.f2.f5, .int .i64 y.f1.f3.f0, .int .i64 y.f1.f3.f1, .int .i64 y.f1.f3.f2, .int .i64 y.f1.f4, .int .i64 y.f2.f0, .int .i64 y.f2.f1, .int .i64 y.f2.f2, .int .i64 y.f2.f3] ?sx ?sy 38 #[.int .i64 0, .int .i64 0, .int .i64 0, .bool false, .int .i64 0, .int .i64 0, .int .i64 0, .int .i64 0, .int .i64 0, .int .i64 0, .int .i64 0, .int .i64 0, .int .i64 0, .int .i64 0, .int .i64 0, .int .i64 0, .int .i64 0] BA.out ?si rfl ?s1 ?_); (case sx => rfl); (case sy => rfl); (case si => kernel_rfl); (case s1 => exact one17 y); have BB3 := Aside0.mk (setRow_heap w3 gb _ #[.int .i64 y.f0, .int .i64 y.f1.f0, .int .i64 y.f1.f1, .bool y.f1.f2.f0, .int .i64 y.f1.f2.f1, .int .i64 y.f1.f2.f2, .int .i64 y.f1.f2.f3, .int .i64 y.f1.f2.f4, .int .i64 y.f1.f2.f5, .int .i64 y.f1.f3.f0, .int .i64 y.f1.f3.f1, .int .i64 y.f1.f3.f2, .int .i64 y.f1.f4, .int .i64 y.f2.f0, .int .i64 y.f2.f1, .int .i64 y.f2.f2, .int .i64 y.f2.f3] _ _ BA.out); have HB3 := Aside0.mk (below_setRow HBA.out (Nat.le_of_eq HGB.out.symm) #[.int .i64 y.f0, .int .i64 y.f1.f0, .int .i64 y.f1.f1, .bool y.f1.f2.f0, .int .i64 y.f1.f2.f1, .int .i64 y.f1.f2.f2, .int .i64 y.f1.f2.f3, .int .i64 y.f1.f2.f4, .int .i64 y.f1.f2.f5, .int .i64 y.f1.f3.f0, .int .i64 y.f1.f3.f1, .int .i64 y.f1.f3.f2, .int .i64 y.f1.f4, .int .i64 y.f2.f0, .int .i64 y.f2.f1, .int .i64 y.f2.f2, .int .i64 y.f2.f3]); generalize w3.setRow gb #[.int .i64 y.f0, .int .i64 y.f1.f0, .int .i64 y.f1.f1, .bool y.f1.f2.f0, .int .i64 y.f1.f2.f1, .int .i64 y.f1.f2.f2, .int .i64 y.f1.f2.f3, .int .i64 y.f1.f2.f4, .int .i64 y.f1.f2.f5, .int .i64 y.f1.f3.f0, .int .i64 y.f1.f3.f1, .int .i64 y.f1.f3.f2, .int .i64 y.f1.f4, .int .i64 y.f2.f0, .int .i64 y.f2.f1, .int .i64 y.f2.f2, .int .i64 y.f2.f3] = wq at BB3 HB3 ⊢; have T3 := Aside0.mk (SS.out.below HB3.out); clear BA HBA HGB))
   obtain ⟨b0, _⟩ := cells17 BB3.out
   go_upto_block 4 with (fail)
   go_cut [16] (fun v16 wc => ∃ (F R G Q : Nat → Prop) (s : AS), v16 = .bool true ∧ Aside0 (Tw w wc F R G Q g x a0 a1 (2048 * (j.toNat + 1)) s))
   case first =>
    by_cases q0 : y.f0 = 0
    ·have b0q : (y.f0 == 0) = true := beq_iff_eq.mpr q0
     clear q0
     go_upto_region 23 with (fail)
     refine start_ (n := 10) (S := fun w' => BO17 gb y w') (ds := [7]) #[false, false, false, false, false, false, false, false, false, false] (by kernel_rfl) rfl rfl ((blk_below BB3.out (below_drew (Below.refl _ _)))) (fun hHeld => ?_); refine with_tabW sdo.tab23 sdo.bits23 (fun HT_ HW_ => ?_)
     refine pureA (i := 0) (N := some 117) HT_ ?_
     refine pureA (i := 1) (N := some 118) HT_ ?_
     refine pureA (i := 4) (N := some 121) HT_ ?_
     refine pureA (i := 5) (N := some 122) HT_ ?_
     refine take_ (i := 2) (N := some 119) (v := ?_) (a' := ?_) #[true, true, true, false, true, true, false, false, false, false] rfl rfl (take_ofW HT_.out HW_.out (by kernel_rfl)) (fun _ _ _ h => h) (Or.inl ⟨by rfl, ?_⟩) hHeld ?_ ?_
     rotate_left
     ·intro w' s0
      obtain ⟨c0, c1, c2, c3, c4, c5, c6, c7, c8, c9, c10, c11, c12, c13, c14, c15, c16⟩ := cells17 s0
      clear s0
      go_simp
      with_reducible rfl
     rotate_left
     ·simp only [Act.put, List.setIfInBounds_toArray, List.set_cons_zero, List.set_cons_succ, i64_w, i32_w]
      rfl
     refine take_ (i := 6) (N := some 123) (v := ?_) (a' := ?_) #[true, true, true, false, true, true, true, false, false, false] rfl rfl (take_ofW HT_.out HW_.out (by kernel_rfl)) (fun _ _ _ h => h) (Or.inl ⟨by rfl, ?_⟩) hHeld ?_ ?_
     rotate_left
     ·intro w' s0
      obtain ⟨c0, c1, c2, c3, c4, c5, c6, c7, c8, c9, c10, c11, c12, c13, c14, c15, c16⟩ := cells17 s0
      clear s0
      go_simp
      with_reducible rfl
     rotate_left
     ·simp only [Act.put, List.setIfInBounds_toArray, List.set_cons_zero, List.set_cons_succ, i64_w, i32_w]
      rfl
     refine oneA (i := 3) (N := some 120) HT_ (fun K hK => ?_)
     refine goes_ Try.func11 (by kernel_rfl) rfl #[.pointer (some ⟨g, 0, none⟩), .agg #[.int .i64 y.f1.f0, .int .i64 y.f1.f1, .bool y.f1.f2.f0, .int .i64 y.f1.f2.f1, .int .i64 y.f1.f2.f2, .int .i64 y.f1.f2.f3, .int .i64 y.f1.f2.f4, .int .i64 y.f1.f2.f5, .int .i64 y.f1.f3.f0, .int .i64 y.f1.f3.f1, .int .i64 y.f1.f3.f2, .int .i64 y.f1.f4]] (by rfl) rfl rfl (by simp only [List.map_toArray, List.map_cons, List.map_nil]; rfl) ?_
     with_reducible refine (push_a T3.out.drew.sn y.f1).mono ?_
     rintro e w4 ⟨F4, R4, rfl, hn, hx⟩
     refine ⟨_, rfl, ?_⟩
     have X4 := T3.out.drew.one hn hx
     have RS4 := Aside0.mk X4.1
     have AP4 := Aside0.mk X4.2
     have SN4 := Aside0.mk hn
     have BB4 := Aside0.mk (T3.out.drew.sn.keepb hx (blk_below BB3.out (below_drew (Below.refl _ _))) HNF.out).1
     clear hn hx X4
     refine hK.out _ _ (BB4.out) (fun hHeld => ?_)
     clear hK K
     refine normA (N := 120) ?_
     refine last_ (i := 7) (N := some 124) #[true, true, true, true, true, true, true, true, false, false] rfl rfl (one_of HT_.out (by kernel_rfl)) (by decide) (fun K hK => ?_)
     refine goes_ Try.func18 (by kernel_rfl) rfl #[.pointer (some ⟨x, 0, none⟩), .agg #[.int .i64 y.f1.f0, .int .i64 y.f1.f1, .bool y.f1.f2.f0, .int .i64 y.f1.f2.f1, .int .i64 y.f1.f2.f2, .int .i64 y.f1.f2.f3, .int .i64 y.f1.f2.f4, .int .i64 y.f1.f2.f5, .int .i64 y.f1.f3.f0, .int .i64 y.f1.f3.f1, .int .i64 y.f1.f3.f2, .int .i64 y.f1.f4]] (by rfl) rfl rfl (by simp only [List.map_toArray, List.map_cons, List.map_nil]; rfl) ?_
     with_reducible refine (rpush_a RS4.out y.f1).mono ?_
     rintro e w5 ⟨G5, Q5, rfl, hr, hx⟩
     refine ⟨_, rfl, ?_⟩
     have T5 := Aside0.mk (Tw.two SN4.out RS4.out AP4.out hr hx (T3.out.ok.push y.f1) (T3.out.od.push HOW.out))
     clear hr hx
     refine hK.out _ _ ?_
     clear hK K
     refine normA (N := 124) ?_
     refine pureA (i := 8) (N := some 125) HT_ ?_
     refine pureA (i := 9) (N := some 16) HT_ ?_
     refine done_ (done_of HT_.out (by kernel_rfl)) ?_
     go_wp2
     go_meet
     case rel => exact ⟨_, _, _, _, _, by first | rfl | simp, ⟨T5.out.more (by omega)⟩⟩
    have b0q : (y.f0 == 0) = false := beq_eq_false_iff_ne.mpr q0
    clear q0
    by_cases q1 : y.f0 = 1
    ·have b1q : (y.f0 == 1) = true := beq_iff_eq.mpr q1
     clear q1
     obtain ⟨nX, hnX⟩ : ∃ nX, nX = (XA a0 s).length := ⟨_, rfl⟩
     have HNX := Aside0.mk hnX
     have HXL := Aside0.mk (XA_all (wn := a0) T3.out.ok).1
     have HXE := Aside0.mk (XA_all (wn := a0) T3.out.ok).2
     clear hnX
     go_wp2_with (first
      | (go_at_call 12; (with_reducible refine (send_a T3.out.sn T3.out.ok HN8.out).mono ?_); rintro x_ w4 ⟨v4, F4, R4, rfl, hn, hx, _, _, hr⟩; have X4 := T3.out.one hn hx; have RS4 := Aside0.mk X4.1; have AP4 := Aside0.mk X4.2; have SN4 := Aside0.mk hn; have HR4 := Aside0.mk hr; clear hn hx hr X4)
      | (go_at_call 19; (with_reducible refine (rsend_a RS4.out T3.out.ok T3.out.od HN8.out).mono ?_); rintro x_ w5 ⟨v5, G5, Q5, rfl, hr, hx, hv⟩; have T5 := Aside0.mk (Tw.two SN4.out RS4.out AP4.out hr hx (T3.out.ok.send a0 HV.out.2.2.1) (T3.out.od.send T3.out.ok)); have hr4 := Kd.R_step HR4.out (fun k hk hl => hx.fr k hl (fun hQ => by have := T3.out.rs.lt k (T3.out.rs.rf k hQ); have := hk.1; omega)); obtain ⟨A4, c4, e4⟩ := Kd.R_slice hr4; obtain ⟨A5, c5, e5⟩ := Kd.R_slice hv; rw [← HNX.out] at e4 e5; subst e4; subst e5; have HRA := Aside0.mk hr4; have HRB := Aside0.mk hv; clear hr hx hv hr4)
      | (go_at_call 16; (with_reducible refine (same_B2 HRA.out HRB.out HNX.out HXL.out HXE.out).mono ?_); rintro x_ w6 ⟨rfl, hb⟩; have T6 := Aside0.mk (T5.out.below hb); clear hb))
     go_meet
     case rel => exact ⟨_, _, _, _, _, rfl, ⟨T6.out.more (by omega)⟩⟩
    have b1q : (y.f0 == 1) = false := beq_eq_false_iff_ne.mpr q1
    clear q1
    by_cases q2 : y.f0 = 2
    ·have b2q : (y.f0 == 2) = true := beq_iff_eq.mpr q2
     clear q2
     obtain ⟨nX, hnX⟩ : ∃ nX, nX = (againL a1 s).length := ⟨_, rfl⟩
     obtain ⟨qb, hqb⟩ : ∃ qb, qb = decide (¬ fullA a1 s) := ⟨_, rfl⟩
     have HNX := Aside0.mk hnX
     have HQB := Aside0.mk hqb
     have HXL := Aside0.mk (againL_all T3.out.ok T3.out.od HN8.out).1
     have HXE := Aside0.mk (againL_all T3.out.ok T3.out.od HN8.out).2
     clear hnX hqb
     go_wp2_with (first
      | (go_at_call 13; (with_reducible refine (again_b T3.out.sn T3.out.ok HN8.out HV.out.2.2.2).mono ?_); rintro x_ w4 ⟨v4, R4, rfl, hn, hx, hr⟩; rw [← HQB.out]; have X4 := T3.out.one hn hx; have RS4 := Aside0.mk X4.1; have AP4 := Aside0.mk X4.2; have SN4 := Aside0.mk hn; have HR4 := Aside0.mk hr; clear hn hx hr X4)
      | (go_at_call 20; (with_reducible refine (ragain_a RS4.out T3.out.ok HN8.out HV.out.2.2.2).mono ?_); rintro x_ w5 ⟨v5, rfl, hr, hx, hv⟩; rw [← HQB.out]; have T5 := Aside0.mk (Tw.two SN4.out RS4.out AP4.out hr hx T3.out.ok.again T3.out.od.again); have hr4 := Kd.R_step HR4.out (fun k hk hl => hx.fr k hl (fun hQ => hk.elim (fun e => by have := T3.out.rs.lt k (T3.out.rs.rf k hQ); omega) (fun e => T3.out.ap k (T3.out.rs.rf k hQ) e))); obtain ⟨A4, c4, e4⟩ := Kd.R_slice hr4; obtain ⟨A5, c5, e5⟩ := Kd.R_slice hv; rw [← HNX.out] at e4 e5; subst e4; subst e5; have HRA := Aside0.mk hr4; have HRB := Aside0.mk hv; clear hr hx hv hr4)
      | (go_at_call 16; (with_reducible refine (same_B2 HRA.out HRB.out HNX.out HXL.out HXE.out).mono ?_); rintro x_ w6 ⟨rfl, hb⟩; have T6 := Aside0.mk (T5.out.below hb); clear hb))
     go_meet
     case rel => exact ⟨_, _, _, _, _, by first | rfl | simp, ⟨T6.out.more (by omega)⟩⟩
    have b2q : (y.f0 == 2) = false := beq_eq_false_iff_ne.mpr q2
    clear q2
    obtain ⟨ge, hge⟩ : ∃ ge, ge = (s.D.length : Int) - ((gotA y.f2 s).D.length : Int) := ⟨_, rfl⟩
    have HGE := Aside0.mk hge
    clear hge
    go_upto_region 21 with (fail)
    refine start_ (n := 10) (S := fun w' => BO17 gb y w') (ds := [7]) #[false, false, false, false, false, false, false, false, false, false] (by kernel_rfl) rfl rfl ((blk_below BB3.out (below_drew (Below.refl _ _)))) (fun hHeld => ?_); refine with_tabW sdo.tab21 sdo.bits21 (fun HT_ HW_ => ?_)
    refine pureA (i := 0) (N := some 106) HT_ ?_
    refine pureA (i := 1) (N := some 107) HT_ ?_
    refine pureA (i := 4) (N := some 110) HT_ ?_
    refine pureA (i := 5) (N := some 111) HT_ ?_
    refine take_ (i := 2) (N := some 108) (v := ?_) (a' := ?_) #[true, true, true, false, true, true, false, false, false, false] rfl rfl (take_ofW HT_.out HW_.out (by kernel_rfl)) (fun _ _ _ h => h) (Or.inl ⟨by rfl, ?_⟩) hHeld ?_ ?_
    rotate_left
    ·intro w' s0
     obtain ⟨c0, c1, c2, c3, c4, c5, c6, c7, c8, c9, c10, c11, c12, c13, c14, c15, c16⟩ := cells17 s0
     clear s0
     go_simp
     with_reducible rfl
    rotate_left
    ·simp only [Act.put, List.setIfInBounds_toArray, List.set_cons_zero, List.set_cons_succ, i64_w, i32_w]
     rfl
    refine take_ (i := 6) (N := some 112) (v := ?_) (a' := ?_) #[true, true, true, false, true, true, true, false, false, false] rfl rfl (take_ofW HT_.out HW_.out (by kernel_rfl)) (fun _ _ _ h => h) (Or.inl ⟨by rfl, ?_⟩) hHeld ?_ ?_
    rotate_left
    ·intro w' s0
     obtain ⟨c0, c1, c2, c3, c4, c5, c6, c7, c8, c9, c10, c11, c12, c13, c14, c15, c16⟩ := cells17 s0
     clear s0
     go_simp
     with_reducible rfl
    rotate_left
    ·simp only [Act.put, List.setIfInBounds_toArray, List.set_cons_zero, List.set_cons_succ, i64_w, i32_w]
     rfl
    refine oneA (i := 3) (N := some 109) HT_ (fun K hK => ?_)
    refine goes_ Try.func14 (by kernel_rfl) rfl #[.pointer (some ⟨g, 0, none⟩), .agg #[.int .i64 y.f2.f0, .int .i64 y.f2.f1, .int .i64 y.f2.f2, .int .i64 y.f2.f3]] (by rfl) rfl rfl (by simp only [List.map_toArray, List.map_cons, List.map_nil]; rfl) ?_
    with_reducible refine (got_a T3.out.drew.sn T3.out.ok HN8.out y.f2).mono ?_
    rintro e w4 ⟨R4, rfl, hn, hx⟩
    refine ⟨_, rfl, ?_⟩
    rw [← HGE.out]
    have X4 := T3.out.drew.one hn hx
    have RS4 := Aside0.mk X4.1
    have AP4 := Aside0.mk X4.2
    have SN4 := Aside0.mk hn
    have BB4 := Aside0.mk (T3.out.drew.sn.keepb hx (blk_below BB3.out (below_drew (Below.refl _ _))) HNF.out).1
    clear hn hx X4
    refine hK.out _ _ (BB4.out) (fun hHeld => ?_)
    clear hK K
    refine normA (N := 109) ?_
    refine last_ (i := 7) (N := some 113) #[true, true, true, true, true, true, true, true, false, false] rfl rfl (one_of HT_.out (by kernel_rfl)) (by decide) (fun K hK => ?_)
    refine goes_ Try.func21 (by kernel_rfl) rfl #[.pointer (some ⟨x, 0, none⟩), .agg #[.int .i64 y.f2.f0, .int .i64 y.f2.f1, .int .i64 y.f2.f2, .int .i64 y.f2.f3]] (by rfl) rfl rfl (by simp only [List.map_toArray, List.map_cons, List.map_nil]; rfl) ?_
    with_reducible refine (rgot_a RS4.out T3.out.ok T3.out.od HN8.out y.f2).mono ?_
    rintro e w5 ⟨G5, Q5, rfl, hr, hx⟩
    refine ⟨_, rfl, ?_⟩
    rw [← HGE.out]
    have T5 := Aside0.mk (Tw.two SN4.out RS4.out AP4.out hr hx (T3.out.ok.got y.f2) (T3.out.od.got y.f2))
    clear hr hx
    refine hK.out _ _ ?_
    clear hK K
    refine normA (N := 113) ?_
    refine pureA (i := 8) (N := some 114) HT_ ?_
    refine pureA (i := 9) (N := some 16) HT_ ?_
    refine done_ (done_of HT_.out (by kernel_rfl)) ?_
    go_wp2
    go_meet
    case rel => exact ⟨_, _, _, _, _, by first | rfl | simp, ⟨T5.out.more (by omega)⟩⟩
   case rest =>
    clear SS T3 HB3 BB3 HNF
    clear F R G Q s
    obtain ⟨F, R, G, Q, s, rfl, TC⟩ := hcut
    obtain ⟨vW, vO, vC, hxr, _⟩ := TC.out.rs.ex
    obtain ⟨Aw, cw, e1⟩ := Kd.R_slice hxr.rW
    obtain ⟨nW, hnW⟩ : ∃ nW, nW = s.W.length := ⟨_, rfl⟩
    rw [← hnW] at e1
    subst e1
    obtain ⟨Ao, co, e2⟩ := Kd.R_slice hxr.rO
    obtain ⟨nD, hnD⟩ : ∃ nD, nD = (s.D.map Prod.fst).length := ⟨_, rfl⟩
    rw [← hnD] at e2
    subst e2
    have HNW := Aside0.mk hnW
    have HND := Aside0.mk hnD
    have HRW := Aside0.mk hxr.rW
    have HRO := Aside0.mk hxr.rO
    have HWL := Aside0.mk (show s.W.length ≤ 100000 from Nat.le_trans TC.out.ok.2.1 (by decide))
    have HDL := Aside0.mk (D_all TC.out.ok TC.out.od HN7.out).1
    have HDE := Aside0.mk (D_all TC.out.ok TC.out.od HN7.out).2
    have x2 : wc.cell? ⟨x, 2, none⟩ = some (.slice Aw nW cw) := (blk_cell hxr.blk 2).trans rfl
    have x3 : wc.cell? ⟨x, 3, none⟩ = some (.slice Ao nD co) := (blk_cell hxr.blk 3).trans rfl
    clear hxr hnW hnD
    go_upto_region 30 with (fail)
    refine start_ (n := 22) (S := fun w' => w'.cell? ⟨x, 2, none⟩ = some (.slice Aw nW cw) ∧ w'.cell? ⟨x, 3, none⟩ = some (.slice Ao nD co)) (ds := [19]) #[false, false, false, false, false, false, false, false, false, false, false, false, false, false, false, false, false, false, false, false, false, false] (by kernel_rfl) rfl rfl ⟨x2, x3⟩ (fun hHeld => ?_); refine with_tabW sdo.tab30 sdo.bits30 (fun HT_ HW_ => ?_)
    refine pureA (i := 0) (N := some 153) HT_ ?_
    refine pureA (i := 1) (N := some 154) HT_ ?_
    refine pureA (i := 2) (N := some 155) HT_ ?_
    refine pureA (i := 3) (N := some 156) HT_ ?_
    refine pureA (i := 5) (N := some 158) HT_ ?_
    refine pureA (i := 6) (N := some 159) HT_ ?_
    refine pureA (i := 7) (N := some 160) HT_ ?_
    refine takeA (i := 8) (N := some 161) HT_ HW_ hHeld ?_
    refine oneA (i := 4) (N := some 157) HT_ (fun K hK => ?_)
    refine goes_ Try.func23 (by kernel_rfl) rfl #[.pointer (some ⟨g, 0, none⟩)] (by rfl) rfl rfl (by simp only [List.map_toArray, List.map_cons, List.map_nil]; rfl) ?_
    with_reducible refine (wait_a TC.out.drew.sn TC.out.ok).mono ?_
    rintro e w1 ⟨v1, rfl, hr, hb⟩
    refine ⟨_, rfl, ?_⟩
    obtain ⟨A1, c1, e1⟩ := Kd.R_slice hr
    rw [← HNW.out] at e1
    subst e1
    have B1 := Aside0.mk (below_step (below_drew (Below.refl _ _)) hb)
    have HW1 := Aside0.mk hr
    have T1 := Aside0.mk (TC.out.below B1.out)
    clear hr
    refine hK.out _ _ ⟨(hb.cell (World.block_lt_of_cell? _ _ hHeld.1)).trans hHeld.1, (hb.cell (World.block_lt_of_cell? _ _ hHeld.2)).trans hHeld.2⟩ (fun hHeld => ?_)
    clear hK K
    refine normA (N := 157) ?_
    refine oneA (i := 9) (N := some 162) HT_ (fun K hK => ?_)
    refine goes_ Try.func22 (by kernel_rfl) rfl #[.slice A1 nW c1, .slice Aw nW cw] (by rfl) rfl rfl (by simp only [List.map_toArray, List.map_cons, List.map_nil]; rfl) ?_
    with_reducible refine (same_O2 HW1.out (Kd.R_below HRW.out B1.out) HNW.out HWL.out).mono ?_
    rintro e w2 ⟨rfl, hb⟩
    refine ⟨_, rfl, ?_⟩
    have B2 := Aside0.mk (below_step B1.out hb)
    have T2 := Aside0.mk (T1.out.below hb)
    refine hK.out _ _ ⟨(hb.cell (World.block_lt_of_cell? _ _ hHeld.1)).trans hHeld.1, (hb.cell (World.block_lt_of_cell? _ _ hHeld.2)).trans hHeld.2⟩ (fun hHeld => ?_)
    clear hK K
    refine normA (N := 162) ?_
    refine pureA (i := 10) (N := some 163) HT_ ?_
    refine pureA (i := 11) (N := some 164) HT_ ?_
    refine pureA (i := 12) (N := some 165) HT_ ?_
    refine pureA (i := 13) (N := some 166) HT_ ?_
    refine pureA (i := 15) (N := some 168) HT_ ?_
    refine pureA (i := 16) (N := some 169) HT_ ?_
    refine pureA (i := 17) (N := some 170) HT_ ?_
    refine takeA (i := 18) (N := some 171) HT_ HW_ hHeld ?_
    refine oneA (i := 14) (N := some 167) HT_ (fun K hK => ?_)
    refine goes_ Try.func15 (by kernel_rfl) rfl #[.pointer (some ⟨g, 0, none⟩)] (by rfl) rfl rfl (by simp only [List.map_toArray, List.map_cons, List.map_nil]; rfl) ?_
    with_reducible refine (out_a T2.out.sn TC.out.ok HN7.out).mono ?_
    rintro e w3 ⟨v3, rfl, hb, hr, _⟩
    refine ⟨_, rfl, ?_⟩
    obtain ⟨A3, c3, e3⟩ := Kd.R_slice hr.row
    rw [← HND.out] at e3
    subst e3
    have B3 := Aside0.mk (below_step B2.out hb)
    have HO3 := Aside0.mk hr.row
    have T3 := Aside0.mk (T2.out.below hb)
    clear hr
    refine hK.out _ _ ⟨(hb.cell (World.block_lt_of_cell? _ _ hHeld.1)).trans hHeld.1, (hb.cell (World.block_lt_of_cell? _ _ hHeld.2)).trans hHeld.2⟩ (fun hHeld => ?_)
    clear hK K
    refine normA (N := 167) ?_
    refine last_ (i := 19) (N := some 172) #[true, true, true, true, true, true, true, true, true, true, true, true, true, true, true, true, true, true, true, true, false, false] rfl rfl (one_of HT_.out (by kernel_rfl)) (by decide) (fun K hK => ?_)
    refine goes_ Try.func16 (by kernel_rfl) rfl #[.slice A3 nD c3, .slice Ao nD co] (by rfl) rfl rfl (by simp only [List.map_toArray, List.map_cons, List.map_nil]; rfl) ?_
    with_reducible refine (same_B2 HO3.out (Kd.R_below HRO.out B3.out) HND.out HDL.out HDE.out).mono ?_
    rintro e w5 ⟨rfl, hb⟩
    refine ⟨_, rfl, ?_⟩
    have T5 := Aside0.mk (T3.out.below hb)
    clear hb
    refine hK.out _ _ ?_
    clear hK K
    refine normA (N := 172) ?_
    refine pureA (i := 20) (N := some 173) HT_ ?_
    refine pureA (i := 21) (N := some 174) HT_ ?_
    refine done_ (done_of HT_.out (by kernel_rfl)) ?_
    go_wp2
    go_roundg k1
    case measure => have := HI.out; omega
    case rel =>
     have hxs : (j + 1).toNat = j.toNat + 1 := by have := H0.out; omega
     exact ⟨j + 1, F, R, G, Q, s, by first | rfl | simp [hw], ⟨by have := H0.out; omega⟩, ⟨by have := HI.out; omega⟩, ⟨by rw [hxs]; exact T5.out⟩⟩
theorem does_early (a0 a1 a2 : Int) (A3 : Option Addr) (cp n : Nat) (w : World) (hc : decide ((n : Int) > 100) = true ∨ (decide ((n : Int) > 100) = false ∧ decide (a2 < 0) = true) ∨ (decide ((n : Int) > 100) = false ∧ decide (a2 < 0) = false ∧ decide (a2 > 100) = true ∧ decide (a2 < 1020) = true) ∨ (decide ((n : Int) > 100) = false ∧ decide (a2 < 0) = false ∧ decide (a2 > 100) = true ∧ decide (a2 < 1020) = false ∧ decide (a2 > 1030) = true)) :
  Calls Try.prog 5 #[.int .i64 a0, .int .i64 a1, .int .i64 a2, .slice A3 n cp] w fun e w' => e = .returned (.bool true) ∧ Below w.heap.size w w' := by
 go_enter Try.func5, Try.ntmps5
 rcases hc with q1 | ⟨q1, q2⟩ | ⟨q1, q2, q3, q4⟩ | ⟨q1, q2, q3, q4, q5⟩
 all_goals
  go_wp2
  go_ret
  exact ⟨rfl, Below.refl _ _⟩
theorem does_bad (a0 a1 a2 : Int) (A3 : Option Addr) (cp n : Nat) (w : World) (hv : ¬ (1 ≤ a0 ∧ a0 ≤ 16 ∧ 1 ≤ a1 ∧ a1 ≤ 100)) (hl : ¬ (n : Int) > 100) (hq2 : 0 ≤ a2 ∧ a2 ≤ 1030) (hm : (decide (a2 > 100) = false ∧ True) ∨ (decide (a2 > 100) = true ∧ decide (a2 < 1020) = false)) :
  Calls Try.prog 5 #[.int .i64 a0, .int .i64 a1, .int .i64 a2, .slice A3 n cp] w fun e w' => e = .returned (.bool true) ∧ Below w.heap.size w w' := by
 have HV := Aside0.mk hv
 have q1 : decide ((n : Int) > 100) = false := decide_eq_false hl
 have q2 : decide (a2 < 0) = false := decide_eq_false (by omega)
 have q5 : decide (a2 > 1030) = false := decide_eq_false (by omega)
 have hc : decide (a0 < 1) = true ∨ (decide (a0 < 1) = false ∧ decide (a0 > 16) = true) ∨ (decide (a0 < 1) = false ∧ decide (a0 > 16) = false ∧ decide (a1 < 1) = true) ∨ (decide (a0 < 1) = false ∧ decide (a0 > 16) = false ∧ decide (a1 < 1) = false ∧ decide (a1 > 100) = true) := by
  simp only [decide_eq_true_eq, decide_eq_false_iff_not]
  omega
 clear hv hl hq2
 go_enter Try.func5, Try.ntmps5
 go_upto_region 1 with (fail)
 go_cut [39] (fun v39 wc => v39 = .bool false ∧ Aside0 (w = wc))
 case first =>
  rcases hm with ⟨q3, q4⟩ | ⟨q3, q4⟩
  all_goals
   go_wp2
   go_meet
   case rel => exact ⟨rfl, ⟨rfl⟩⟩
 case rest =>
  obtain ⟨rfl, HWW⟩ := hcut
  have hww := HWW.out
  subst hww
  clear hm q1 q2 q5 HWW
  rcases hc with q6 | ⟨q6, q7⟩ | ⟨q6, q7, q8⟩ | ⟨q6, q7, q8, q9⟩
  all_goals
   go_wp2_with (first
    | (go_at_call 9; (with_reducible refine (new_no _ _ _ HV.out).mono ?_); rintro x_ w_ ⟨rfl, rfl⟩)
    | (go_at_call 10; (with_reducible refine (awake_a _).mono ?_); rintro x_ w9 ⟨rfl, hb⟩; have B9 := Aside0.mk (below_step (Below.refl _ _) hb); clear hb))
   go_ret
   exact ⟨rfl, B9.out⟩
theorem thalweglaw14_SenderDoes.calls (a0 a1 a2 : Int) (A3 : Option Addr) (c3 : Nat) (l3 : List S38) (r : Bool) (w : World) (hr3 : Kd.C k38 w A3 l3.length l3) (hc3 : l3.length ≤ c3) (h : thalweglaw14_SenderDoes.f a0 a1 a2 l3 = some r) :
  Calls Try.prog 5 #[.int .i64 a0, .int .i64 a1, .int .i64 a2, .slice A3 l3.length c3] w fun e w' => e = .returned (.bool r) ∧ Below w.heap.size w w' := by
 unfold thalweglaw14_SenderDoes.f at h
 by_cases hs : OkS14 l3
 ·rw [if_pos hs] at h
  have hr : true = r := Option.some.inj h
  subst hr
  by_cases hl : (l3.length : Int) > 100
  ·exact does_early a0 a1 a2 A3 c3 _ w (.inl (decide_eq_true hl))
  have q1 := decide_eq_false hl
  by_cases h2 : a2 < 0
  ·exact does_early a0 a1 a2 A3 c3 _ w (.inr (.inl ⟨q1, decide_eq_true h2⟩))
  have q2 := decide_eq_false h2
  have go : a2 ≤ 1030 → ((decide (a2 > 100) = false ∧ True) ∨ (decide (a2 > 100) = true ∧ decide (a2 < 1020) = false)) → Calls Try.prog 5 #[.int .i64 a0, .int .i64 a1, .int .i64 a2, .slice A3 l3.length c3] w fun e w' => e = .returned (.bool true) ∧ Below w.heap.size w w' := by
   intro h5 hm
   by_cases hv : 1 ≤ a0 ∧ a0 ≤ 16 ∧ 1 ≤ a1 ∧ a1 ≤ 100
   ·exact does_ok a0 a1 a2 A3 c3 _ l3 w hr3 rfl hs hv hl ⟨by omega, h5⟩ hm
   ·exact does_bad a0 a1 a2 A3 c3 _ w hv hl ⟨by omega, h5⟩ hm
  by_cases h3 : a2 > 100
  ·have q3 := decide_eq_true h3
   by_cases h4 : a2 < 1020
   ·exact does_early a0 a1 a2 A3 c3 _ w (.inr (.inr (.inl ⟨q1, q2, q3, decide_eq_true h4⟩)))
   have q4 := decide_eq_false h4
   by_cases h5 : a2 > 1030
   ·exact does_early a0 a1 a2 A3 c3 _ w (.inr (.inr (.inr ⟨q1, q2, q3, q4, decide_eq_true h5⟩)))
   ·exact go (by omega) (.inr ⟨q3, q4⟩)
  ·exact go (by omega) (.inl ⟨decide_eq_false h3, trivial⟩)
 ·rw [if_neg hs] at h
  cases h
end Go.Proofs.Ytclbempnhelmoaa.P
namespace Go.Proofs.Ytclbempnhelmoaa.P
open Go.RowKit YtclbempnhelmoaaW.PrintWords
def thalweglaw14_SenderDoes.Pure : Prop := ∀ (a0 : Int) (a1 : Int) (a2 : Int) (l3 : List S38), (Lit.int .i64 a0).wf = true → (Lit.int .i64 a1).wf = true → (Lit.int .i64 a2).wf = true → (l3.length ≤ maxLen ∧ ∀ x0_ ∈ l3, ((Lit.int .i64 x0_.f0).wf = true ∧ ((Lit.int .i64 x0_.f1.f0).wf = true ∧ (Lit.int .i64 x0_.f1.f1).wf = true ∧ (True ∧ (Lit.int .i64 x0_.f1.f2.f1).wf = true ∧ (Lit.int .i64 x0_.f1.f2.f2).wf = true ∧ (Lit.int .i64 x0_.f1.f2.f3).wf = true ∧ (Lit.int .i64 x0_.f1.f2.f4).wf = true ∧ (Lit.int .i64 x0_.f1.f2.f5).wf = true) ∧ ((Lit.int .i64 x0_.f1.f3.f0).wf = true ∧ (Lit.int .i64 x0_.f1.f3.f1).wf = true ∧ (Lit.int .i64 x0_.f1.f3.f2).wf = true) ∧ (Lit.int .i64 x0_.f1.f4).wf = true) ∧ ((Lit.int .i64 x0_.f2.f0).wf = true ∧ (Lit.int .i64 x0_.f2.f1).wf = true ∧ (Lit.int .i64 x0_.f2.f2).wf = true ∧ (Lit.int .i64 x0_.f2.f3).wf = true))) → thalweglaw14_SenderDoes.f a0 a1 a2 l3 = some true
end Go.Proofs.Ytclbempnhelmoaa.P
namespace Go.Proofs.Ytclbempnhelmoaa.Pure
open Go.RowKit Go.Proofs.Ytclbempnhelmoaa.P
theorem SenderDoes : thalweglaw14_SenderDoes.Pure := fun a0 a1 a2 l3 _ _ _ h => if_pos fun o ho => by
 have k := h.2 o ho
 exact ⟨k.2.1.2.2.1.2.1, k.2.1.2.2.1.2.2.2.2.1, k.2.1.2.2.2.1.1⟩
end Go.Proofs.Ytclbempnhelmoaa.Pure
namespace Go.Proofs.YtclbempnhelmoaaW.Opn
open Go.RowKit YtclbempnhelmoaaW.PrintWords Go.ChangeShapes Go.WideShapes Go.Deep
def Opens (P : Program) (t : TypeId) {α : Type} (d : Kd α) (wf : α → Prop) : Prop :=
 ∀ {H : Type} (enc : TypeId × Value → H) (w : World) (base : Nat) (spare : Nat → Bool) (held : Bool) (fuel : Nat) (cs : List Value) (y : DataW H × List MemPlace),
  DataW.trod enc P w base spare held fuel t cs = some y → ∃ x : α, d.K w x cs ∧ wf x
theorem opens_int {P : Program} {t : TypeId} {k : IntKind} (ht : P.underlying t = some (.int k)) : Opens P t (Kd.int k) (fun x => (Lit.int k x).wf = true) := by
 intro H enc w base spare held fuel cs y h
 obtain ⟨n, rfl, _, hw⟩ := DataW.trod_int ht h
 exact ⟨n, rfl, hw⟩
theorem opens_bool {P : Program} {t : TypeId} (ht : P.underlying t = some .bool) : Opens P t Kd.bool (fun _ => True) := by
 intro H enc w base spare held fuel cs y h
 obtain ⟨n, rfl, _⟩ := DataW.trod_bool ht h
 exact ⟨n, rfl, trivial⟩
theorem opens_iso {P : Program} {t : TypeId} {α β : Type} {d : Kd α} {wf : α → Prop} (f : β → α) (g : α → β) (hg : ∀ a, f (g a) = a) (h : Opens P t d wf) : Opens P t (Kd.iso d f) (fun b => wf (f b)) := by
 intro H enc w base spare held fuel cs y hy
 obtain ⟨x, hx, hw⟩ := h enc w base spare held fuel cs y hy
 exact ⟨g x, by show d.K w (f (g x)) cs; rw [hg]; exact hx, by show wf (f (g x)); rw [hg]; exact hw⟩
def OpensL (P : Program) : (ts : List TypeId) → {α : Type} → (d : Kd α) → (wf : α → Prop) → Prop := fun ts {α} d wf =>
 ∀ {H : Type} (enc : TypeId × Value → H) (w : World) (base : Nat) (spare : Nat → Bool) (held : Bool) (n : Nat) (cs : List Value) (xs : List (DataW H × List MemPlace)) (off : Nat),
  (∀ (i : Nat) (t : TypeId), ts[i]? = some t → ∃ y, DataW.trod enc P w base spare held n t ((cs.drop (off + ((ts.take i).map P.cellsOf).sum)).take (P.cellsOf t)) = some y) →
  ∃ x : α, d.K w x ((cs.drop off).take ((ts.map P.cellsOf).sum)) ∧ wf x
theorem opensL_one {P : Program} {t : TypeId} {α : Type} {d : Kd α} {wf : α → Prop} (h : Opens P t d wf) : OpensL P [t] d wf := by
 intro H enc w base spare held n cs xs off hx
 obtain ⟨y, hy⟩ := hx 0 t rfl
 simpa using h enc w base spare held n _ y (by simpa using hy)
theorem opensL_cons {P : Program} {t : TypeId} {ts : List TypeId} {α β : Type} {d : Kd α} {d' : Kd β} {wf : α → Prop} {wf' : β → Prop} (h : Opens P t d wf) (h' : OpensL P ts d' wf') :
  OpensL P (t :: ts) (Kd.pair d d') (fun x => wf x.1 ∧ wf' x.2) := by
 intro H enc w base spare held n cs xs off hx
 obtain ⟨y, hy⟩ := hx 0 t rfl
 obtain ⟨x, hk, hw⟩ := h enc w base spare held n _ y (by simpa using hy)
 obtain ⟨x', hk', hw'⟩ := h' enc w base spare held n cs xs (off + P.cellsOf t) (fun i u hu => by
  have := hx (i + 1) u hu
  simpa [Nat.add_assoc] using this)
 refine ⟨(x, x'), ⟨(cs.drop off).take (P.cellsOf t), (cs.drop (off + P.cellsOf t)).take ((ts.map P.cellsOf).sum), ?_, hk, hk'⟩, hw, hw'⟩
 simp only [List.map_cons, List.sum_cons]
 rw [List.take_add, List.drop_drop]
def lineB (P : Program) : List Field → Nat → Bool
 | [], _ => true
 | f :: fs, off => (f.offset == off) && lineB P fs (off + P.cellsOf f.type)
theorem line_at {P : Program} : ∀ (fs : List Field) (off : Nat), lineB P fs off = true → ∀ (i : Nat) (f : Field), fs[i]? = some f → f.offset = off + (((fs.map (·.type)).take i).map P.cellsOf).sum := by
 intro fs
 induction fs with
 | nil => intro off _ i f h; simp at h
 | cons g gs ih =>
  intro off hb i f h
  unfold lineB at hb
  rw [Bool.and_eq_true, beq_iff_eq] at hb
  cases i with
  | zero =>
   simp at h
   subst h
   simpa using hb.1
  | succ i =>
   have := ih _ hb.2 i f (by simpa using h)
   simp only [List.map_cons, List.take_succ_cons, List.sum_cons]
   omega
theorem opens_struct {P : Program} {t : TypeId} {fs : Array Field} {α : Type} {d : Kd α} {wf : α → Prop} (ht : P.underlying t = some (.struct fs)) (hl : lineB P fs.toList 0 = true) (hc : P.cellsOf t = ((fs.toList.map (·.type)).map P.cellsOf).sum)
  (h : OpensL P (fs.toList.map (·.type)) d wf) : Opens P t d wf := by
 intro H enc w base spare held fuel cs y hy
 obtain ⟨xs, n, _, _, hlen, hxl, hf⟩ := DataW.trod_struct ht hy
 obtain ⟨x, hk, hw⟩ := h enc w base spare held n cs xs 0 (fun i u hu => by
  rw [List.getElem?_map, Option.map_eq_some_iff] at hu
  obtain ⟨f, hf0, rfl⟩ := hu
  have hi : i < fs.size := by
   have := (List.getElem?_eq_some_iff.1 hf0).1
   simpa using this
  have h1 := hf i f (by rw [← Array.getElem?_toList]; exact hf0)
  rw [line_at _ 0 hl i f hf0] at h1
  exact ⟨_, h1.trans (List.getElem?_eq_getElem (by omega))⟩)
 rw [← hc, List.drop_zero, ← hlen, List.take_length] at hk
 exact ⟨x, hk, hw⟩
theorem reads_build {P : Program} {e : TypeId} {α : Type} {d : Kd α} {wf : α → Prop} (hs : P.cellsOf e = d.sz) (w : World) (ad : Addr) : ∀ (len : Nat), (∀ i, i < len → ∃ (x : α) (c : List Value), c.length = d.sz ∧ d.K w x c ∧ wf x ∧ ∀ j u, c[j]? = some u → w.cell? (ad.add (i * d.sz + j)) = some u) →
  ∃ xs : List α, xs.length = len ∧ (∀ x ∈ xs, wf x) ∧ ∀ j p, xs[j]? = some p → ∃ c, c.length = d.sz ∧ d.K w p c ∧ ∀ i u, c[i]? = some u → w.cell? (ad.add (j * d.sz + i)) = some u := by
 intro len
 induction len with
 | zero => intro _; exact ⟨[], rfl, by simp, by simp⟩
 | succ n ih =>
  intro h
  obtain ⟨xs, hl, hw, hx⟩ := ih (fun i hi => h i (by omega))
  obtain ⟨x, c, hc, hk, hwx, hcell⟩ := h n (by omega)
  refine ⟨xs ++ [x], by simp [hl], ?_, ?_⟩
  ·intro y hy
   rcases List.mem_append.1 hy with hy | hy
   ·exact hw y hy
   ·rw [List.mem_singleton.1 hy]; exact hwx
  ·intro j p hj
   rcases Nat.lt_or_ge j xs.length with hjl | hjl
   ·rw [List.getElem?_append_left hjl] at hj
    exact hx j p hj
   ·have : j = xs.length := by
     have := (List.getElem?_eq_some_iff.1 hj).1
     simp at this
     omega
    subst this
    have hp : x = p := by simpa using hj
    subst hp
    exact ⟨c, hc, hk, by rw [hl]; exact hcell⟩
theorem opens_slice {P : Program} {t e : TypeId} {α : Type} {d : Kd α} {wf : α → Prop} (ht : P.underlying t = some (.slice e)) (hs : P.cellsOf e = d.sz) (h : Opens P e d wf) : Opens P t (Kd.slice e d) (fun l => l.length ≤ maxLen ∧ ∀ x ∈ l, wf x) := by
 intro H enc w base spare held fuel cs y hy
 rcases open_slice ht hy with ⟨rfl, _⟩ | ⟨a, len, cap, m, n, D, Pl, rfl, hb, hl, hm, hmm, hx, hi⟩
 ·exact ⟨[], ⟨none, 0, rfl, Nat.le_refl _, rfl, by simp, by simp⟩, by simp, by simp⟩
 ·have hle : len ≤ m := by rw [hmm]; split <;> omega
  obtain ⟨xs, hxl, hwf, hxs⟩ := reads_build (P := P) (e := e) (d := d) (wf := wf) hs w a len (fun i hlt => by
   obtain ⟨cs', hc, ht'⟩ := hi i (by omega)
   obtain ⟨_, hcl, hat⟩ := World.cells?_some hc
   obtain ⟨x, hk, hwx⟩ := h enc w base spare held n cs' _ ht'
   refine ⟨x, cs', by omega, hk, hwx, fun j u hj => ?_⟩
   have hjl := (List.getElem?_eq_some_iff.1 hj).1
   have := hat j (by omega)
   rw [← Go.Deep.add_add, ← hs, this, hj])
  have hm' : len ≤ maxLen := by omega
  subst hxl
  have hm2 : xs.length ≤ 9223372036854775807 := by unfold maxLen at hm'; omega
  exact ⟨xs, ⟨some a, cap, rfl, hl, rfl, hm2, fun _ => ⟨a, rfl, hxs⟩⟩, hm', hwf⟩
end Go.Proofs.YtclbempnhelmoaaW.Opn
namespace Go.Proofs.Ytclbempnhelmoaa.senderDoes
open Go.ChangeShapes Go.WideShapes Go.ChangeAt Go.RowKit Go.Proofs.YtclbempnhelmoaaW YtclbempnhelmoaaW.PrintWords Go.Proofs.Ytclbempnhelmoaa.P
open Go.ChangeMaps (open_string shut_string)
theorem own : ownKnob Try.prog.godebug = none := by kernel_rfl
theorem laidOut : laidOutB Try.prog = true := by kernel_rfl
theorem opn30 : Opn.Opens Try.prog 30 k30 (fun x => (True ∧ (Lit.int .i64 x.f1).wf = true ∧ (Lit.int .i64 x.f2).wf = true ∧ (Lit.int .i64 x.f3).wf = true ∧ (Lit.int .i64 x.f4).wf = true ∧ (Lit.int .i64 x.f5).wf = true)) :=
 Opn.opens_iso (fun x : S30 => (x.f0, x.f1, x.f2, x.f3, x.f4, x.f5)) (fun a => ⟨a.1, a.2.1, a.2.2.1, a.2.2.2.1, a.2.2.2.2.1, a.2.2.2.2.2⟩) (fun _ => rfl) (Opn.opens_struct Try.underlying30 (by kernel_rfl) (by kernel_rfl) (Opn.opensL_cons (Opn.opens_bool Try.underlying4) (Opn.opensL_cons (Opn.opens_int Try.underlying3) (Opn.opensL_cons (Opn.opens_int Try.underlying3) (Opn.opensL_cons (Opn.opens_int Try.underlying3) (Opn.opensL_cons (Opn.opens_int Try.underlying3) (Opn.opensL_one (Opn.opens_int Try.underlying3))))))))
theorem opn32 : Opn.Opens Try.prog 32 k32 (fun x => ((Lit.int .i64 x.f0).wf = true ∧ (Lit.int .i64 x.f1).wf = true ∧ (Lit.int .i64 x.f2).wf = true)) :=
 Opn.opens_iso (fun x : S32 => (x.f0, x.f1, x.f2)) (fun a => ⟨a.1, a.2.1, a.2.2⟩) (fun _ => rfl) (Opn.opens_struct Try.underlying32 (by kernel_rfl) (by kernel_rfl) (Opn.opensL_cons (Opn.opens_int Try.underlying3) (Opn.opensL_cons (Opn.opens_int Try.underlying3) (Opn.opensL_one (Opn.opens_int Try.underlying3)))))
theorem opn34 : Opn.Opens Try.prog 34 k34 (fun x => ((Lit.int .i64 x.f0).wf = true ∧ (Lit.int .i64 x.f1).wf = true ∧ (True ∧ (Lit.int .i64 x.f2.f1).wf = true ∧ (Lit.int .i64 x.f2.f2).wf = true ∧ (Lit.int .i64 x.f2.f3).wf = true ∧ (Lit.int .i64 x.f2.f4).wf = true ∧ (Lit.int .i64 x.f2.f5).wf = true) ∧ ((Lit.int .i64 x.f3.f0).wf = true ∧ (Lit.int .i64 x.f3.f1).wf = true ∧ (Lit.int .i64 x.f3.f2).wf = true) ∧ (Lit.int .i64 x.f4).wf = true)) :=
 Opn.opens_iso (fun x : S34 => (x.f0, x.f1, x.f2, x.f3, x.f4)) (fun a => ⟨a.1, a.2.1, a.2.2.1, a.2.2.2.1, a.2.2.2.2⟩) (fun _ => rfl) (Opn.opens_struct Try.underlying34 (by kernel_rfl) (by kernel_rfl) (Opn.opensL_cons (Opn.opens_int Try.underlying3) (Opn.opensL_cons (Opn.opens_int Try.underlying3) (Opn.opensL_cons opn30 (Opn.opensL_cons opn32 (Opn.opensL_one (Opn.opens_int Try.underlying3)))))))
theorem opn36 : Opn.Opens Try.prog 36 k36 (fun x => ((Lit.int .i64 x.f0).wf = true ∧ (Lit.int .i64 x.f1).wf = true ∧ (Lit.int .i64 x.f2).wf = true ∧ (Lit.int .i64 x.f3).wf = true)) :=
 Opn.opens_iso (fun x : S36 => (x.f0, x.f1, x.f2, x.f3)) (fun a => ⟨a.1, a.2.1, a.2.2.1, a.2.2.2⟩) (fun _ => rfl) (Opn.opens_struct Try.underlying36 (by kernel_rfl) (by kernel_rfl) (Opn.opensL_cons (Opn.opens_int Try.underlying3) (Opn.opensL_cons (Opn.opens_int Try.underlying3) (Opn.opensL_cons (Opn.opens_int Try.underlying3) (Opn.opensL_one (Opn.opens_int Try.underlying3))))))
theorem opn38 : Opn.Opens Try.prog 38 k38 (fun x => ((Lit.int .i64 x.f0).wf = true ∧ ((Lit.int .i64 x.f1.f0).wf = true ∧ (Lit.int .i64 x.f1.f1).wf = true ∧ (True ∧ (Lit.int .i64 x.f1.f2.f1).wf = true ∧ (Lit.int .i64 x.f1.f2.f2).wf = true ∧ (Lit.int .i64 x.f1.f2.f3).wf = true ∧ (Lit.int .i64 x.f1.f2.f4).wf = true ∧ (Lit.int .i64 x.f1.f2.f5).wf = true) ∧ ((Lit.int .i64 x.f1.f3.f0).wf = true ∧ (Lit.int .i64 x.f1.f3.f1).wf = true ∧ (Lit.int .i64 x.f1.f3.f2).wf = true) ∧ (Lit.int .i64 x.f1.f4).wf = true) ∧ ((Lit.int .i64 x.f2.f0).wf = true ∧ (Lit.int .i64 x.f2.f1).wf = true ∧ (Lit.int .i64 x.f2.f2).wf = true ∧ (Lit.int .i64 x.f2.f3).wf = true))) :=
 Opn.opens_iso (fun x : S38 => (x.f0, x.f1, x.f2)) (fun a => ⟨a.1, a.2.1, a.2.2⟩) (fun _ => rfl) (Opn.opens_struct Try.underlying38 (by kernel_rfl) (by kernel_rfl) (Opn.opensL_cons (Opn.opens_int Try.underlying3) (Opn.opensL_cons opn34 (Opn.opensL_one opn36))))
theorem lifted (os : Os) (started : os.Started) (H : Type) (enc : TypeId × Value → H) :
  ReturnsInHanded {} Try.checked os 5 .any (Rows.senderDoesSpec.pre6 enc Try.prog Try.f5 Rows.senderDoesRow.domain false) (Rows.senderDoesSpec.post enc Try.prog Try.f5 false true false false) := by
 refine returnsInHanded_of_change_sized (C := Try.checked) own started (by kernel_rfl) Try.func5
  (ChangeSpec.witness6 (enc := enc) (C := Try.checked) false ⟨#[], #[.int .i64 0, .int .i64 0, .int .i64 0, .slice none 0 0], []⟩ 8 (by kernel_rfl) (by kernel_rfl) (by kernel_rfl) (by kernel_rfl)) ?_
 intro W base args ds gs before hval0 hW hcnd hsz0 _
 have hval : ∀ (j : Nat) t v, Try.f5.params[j]? = some t → args[j]? = some v → Value.okWide Try.prog W .any base t v := hval0
 have hW' := hW
 obtain ⟨p, q, hA0, hV, rfl, hfz, hnd⟩ := hW
 have hA : DataW.TrodAll enc Try.prog W 0 (fun _ => true) true Try.f5.params.toList args.toList ds p := hA0
 rw [Try.params5] at hA hval
 obtain ⟨v0, vs0, d0, ds0, p0, q0, hargs, rfl, rfl, h0, r0⟩ := trodAll_cons hA
 obtain ⟨v1, vs1, d1, ds1, p1, q1, rfl, rfl, rfl, h1, r1⟩ := trodAll_cons r0
 obtain ⟨v2, vs2, d2, ds2, p2, q2, rfl, rfl, rfl, h2, r2⟩ := trodAll_cons r1
 obtain ⟨v3, vs3, d3, ds3, p3, q3, rfl, rfl, rfl, h3, r3⟩ := trodAll_cons r2
 obtain ⟨rfl, rfl, rfl⟩ := trodAll_nil r3
 obtain rfl : args = #[v0, v1, v2, v3] := by cases args; simp_all
 obtain ⟨rfl, rfl⟩ := trodVars_none hV
 obtain ⟨a0, rfl, rfl, rfl, w0⟩ := open_int Try.underlying3 (hval 0 3 v0 rfl rfl) h0
 obtain ⟨a1, rfl, rfl, rfl, w1⟩ := open_int Try.underlying3 (hval 1 3 v1 rfl rfl) h1
 obtain ⟨a2, rfl, rfl, rfl, w2⟩ := open_int Try.underlying3 (hval 2 3 v2 rfl rfl) h2
 have k3 := h3
 have lt3 : ∀ x ∈ p3, x.block < W.heap.size := by obtain ⟨m, hm⟩ := k3; exact DataW.trod_lt m _ _ _ hm
 obtain ⟨a3, len3, cap3, rfl⟩ := okWide_slice Try.underlying22 (hval 3 22 v3 rfl rfl)
 obtain ⟨l3, K3, W3⟩ : ∃ l : List S38, (Kd.slice 38 k38).K W l [.slice a3 len3 cap3] ∧ (l.length ≤ maxLen ∧ ∀ x0_ ∈ l, ((Lit.int .i64 x0_.f0).wf = true ∧ ((Lit.int .i64 x0_.f1.f0).wf = true ∧ (Lit.int .i64 x0_.f1.f1).wf = true ∧ (True ∧ (Lit.int .i64 x0_.f1.f2.f1).wf = true ∧ (Lit.int .i64 x0_.f1.f2.f2).wf = true ∧ (Lit.int .i64 x0_.f1.f2.f3).wf = true ∧ (Lit.int .i64 x0_.f1.f2.f4).wf = true ∧ (Lit.int .i64 x0_.f1.f2.f5).wf = true) ∧ ((Lit.int .i64 x0_.f1.f3.f0).wf = true ∧ (Lit.int .i64 x0_.f1.f3.f1).wf = true ∧ (Lit.int .i64 x0_.f1.f3.f2).wf = true) ∧ (Lit.int .i64 x0_.f1.f4).wf = true) ∧ ((Lit.int .i64 x0_.f2.f0).wf = true ∧ (Lit.int .i64 x0_.f2.f1).wf = true ∧ (Lit.int .i64 x0_.f2.f2).wf = true ∧ (Lit.int .i64 x0_.f2.f3).wf = true))) := by
  obtain ⟨fuel, hf⟩ := h3
  exact (Opn.opens_slice Try.underlying22 (by kernel_rfl) opn38) enc W 0 (fun _ => true) true fuel _ _ hf
 obtain ⟨A3, c3, E3, g3, C3⟩ := K3
 simp only [List.cons.injEq, Value.slice.injEq, and_true] at E3
 obtain ⟨rfl, rfl, rfl⟩ := E3
 have hk := Pure.SenderDoes a0 a1 a2 l3 w0 w1 w2 W3
 clear hA0 hval0 hsz0
 refine (thalweglaw14_SenderDoes.calls (a0 := a0) (a1 := a1) (a2 := a2) (A3 := a3) (c3 := cap3) (l3 := l3) (r := true) (w := W) (hr3 := C3) (hc3 := g3) (h := hk)).mono fun e W' ⟨he, bel⟩ => ?_
 subst he
 exact ⟨_, rfl, _, _, _, [], _, [], hW', trodAll_mk1 (shut_bool Try.underlying4 _), (trodAll_cons_mk (shut_int Try.underlying3 w0) (trodAll_cons_mk (shut_int Try.underlying3 w1) (trodAll_cons_mk (shut_int Try.underlying3 w2) (trodAll_cons_mk (Below.trod laidOut (by kernel_rfl) (of_decide_eq_true (by kernel_rfl)) k3 bel lt3) trodAll_mk0)))), rfl, bel.frame _, fun h => by cases h⟩
theorem over : Rows.senderDoesRow.holds Try.pinned (OpenSpec.ofChange Rows.senderDoesSpec) :=
 OpenClaim.holds_of_wide 5 Try.f5 rfl rfl rfl rfl rfl rfl rfl ⟨rfl, rfl, rfl, rfl, rfl⟩ rfl rfl rfl rfl rfl (by kernel_rfl) Try.func5 (by kernel_rfl)
  (of_decide_eq_true (by kernel_rfl)) (by unfold Func.isWrapper; first | (rw [if_pos (by decide +kernel)]; kernel_rfl) | (rw [if_neg (by decide +kernel)]; exact ⟨rfl, rfl⟩))
  (fun os started H enc _ => lifted os started H enc)
theorem proved : Rows.SenderDoesSaid := over
end Go.Proofs.Ytclbempnhelmoaa.senderDoes
namespace Go.Proofs.Ytclbempnhelmoaa
theorem senderDoes_holds : Rows.SenderDoesSaid := senderDoes.proved
end Go.Proofs.Ytclbempnhelmoaa
