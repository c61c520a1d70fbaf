/- Walks. -/
import Derived.Test.YtpgmmnlkiogamaaXFramePartsa
import Derived.Test.YtpgmmnlkiogamaaXFramePartsb
import Derived.Test.YtpgmmnlkiogamaaXFramePartsc
set_option linter.unusedVariables false
set_option linter.unusedSimpArgs false
set_option maxHeartbeats 8000000
set_option maxRecDepth 100000
namespace Go.Proofs.Ytpgmmnlkiogamaa.P
open Go.RowKit YtpgmmnlkiogamaaW.PrintWords YtpgmmnlkiogamaaW.PrintLast YtpgmmnlkiogamaaW.PrintMore
attribute [local go_sem] max2_int min2_int max_two min_two max_three min_three max_four min_four
def batch_Parse.l0 : Nat → List Int → Int → Int → Int → Int → List (S62) → Option (Int × (List (S62)) × Int × Int)
 | 0, _, _, _, _, _, _ => none
 | k + 1, x0, x1, x47, x48, x366000, x366001 => if x48 < x47 then ((object_Parse.f x0 x1).bind fun bt366 => (if bt366.2.2.2.2.2.2.2.2.2.2.2.2.2 = 0 then (if x366001.length < 1466015503701 then (batch_Parse.l0 k x0 bt366.2.2.2.2.2.2.2.2.2.2.2.2.1 x47 (wrap64 (x48 + 1)) x366000 (x366001 ++ [(⟨bt366.1, bt366.2.1, (⟨bt366.2.2.1, bt366.2.2.2.1, bt366.2.2.2.2.1, bt366.2.2.2.2.2.1, bt366.2.2.2.2.2.2.1, bt366.2.2.2.2.2.2.2.1⟩ : S58), (⟨bt366.2.2.2.2.2.2.2.2.1, bt366.2.2.2.2.2.2.2.2.2.1, bt366.2.2.2.2.2.2.2.2.2.2.1⟩ : S60), bt366.2.2.2.2.2.2.2.2.2.2.2.1⟩ : S62)])) else (none)) else (some (0, ([] : List (S62)), 0, bt366.2.2.2.2.2.2.2.2.2.2.2.2.2)))) else ((batch_Check.f k x366000 x366001).bind fun t384 => (if t384 = 0 then (some (x366000, x366001, x1, 0)) else (none)))
def batch_Parse.f (k : Nat) (l0 : List Int) (a1 : Int) : Option (Int × (List (S62)) × Int × Int) := (wire_Get.f l0 a1 2).bind fun bt359 => (if bt359.2.2 = 0 then ((wire_Get.f l0 bt359.2.1 1).bind fun bt362 => (if bt362.2.2 = 0 then (if bt362.1 = 0 then (none) else (if bt362.1 > 32 then (none) else (batch_Parse.l0 k l0 bt362.2.1 bt362.1 0 bt359.1 ([] : List (S62))))) else (some (0, ([] : List (S62)), 0, bt362.2.2)))) else (some (0, ([] : List (S62)), 0, bt359.2.2)))
theorem batch_Parse.mono_l : ∀ k, (∀ y0 y1 y2 y3 y4 y5, LeO (batch_Parse.l0 k y0 y1 y2 y3 y4 y5) (batch_Parse.l0 (k + 1) y0 y1 y2 y3 y4 y5))
 | 0 => fun _ _ _ _ _ _ r h => by simp [batch_Parse.l0] at h
 | k + 1 => by
  have ih0 := batch_Parse.mono_l k
  ·intro y0 y1 y2 y3 y4 y5
   unfold batch_Parse.l0
   repeat' first
   | (with_reducible exact ih0 _ _ _ _ _ _)
   | (with_reducible exact batch_Check.mono _ _ _)
   | (with_reducible exact LeO.refl _)
   | (with_reducible exact LeO.none _)
   | (with_reducible refine LeO.ite ?_ ?_)
   | (with_reducible refine LeO.bind ?_ (fun _ => ?_))
   | exact ih0 _ _ _ _ _ _
   | exact batch_Check.mono _ _ _
   | exact LeO.none _
   | refine LeO.ite ?_ ?_
   | refine LeO.bind ?_ (fun _ => ?_)
theorem batch_Parse.mono : ∀ a0 a1 k, LeO (batch_Parse.f k a0 a1) (batch_Parse.f (k + 1) a0 a1) := by
 intro a0 a1 k
 have ih0 := batch_Parse.mono_l k
 unfold batch_Parse.f
 repeat' first
   | (with_reducible exact ih0 _ _ _ _ _ _)
   | (with_reducible exact batch_Check.mono _ _ _)
   | (with_reducible exact LeO.refl _)
   | (with_reducible exact LeO.none _)
   | (with_reducible refine LeO.ite ?_ ?_)
   | (with_reducible refine LeO.bind ?_ (fun _ => ?_))
   | exact ih0 _ _ _ _ _ _
   | exact batch_Check.mono _ _ _
   | exact LeO.none _
   | refine LeO.ite ?_ ?_
   | refine LeO.bind ?_ (fun _ => ?_)
theorem batch_Parse.calls (k : Nat) (A0 : Option Addr) (c0 : Nat) (l0 : List Int) (a1 : Int) (r1 : Int) (r2 : List (S62)) (r3 : Int) (r4 : Int) (w : World) (hr0 : Kd.C (Kd.int .u8) w A0 l0.length l0) (hc0 : l0.length ≤ c0) (h : batch_Parse.f k l0 a1 = some (r1, r2, r3, r4)) :
  Calls Try.prog 66 #[.slice A0 l0.length c0, .int .i64 a1] w fun e w' => ∃ v1_ : Value, e = .returned (.tuple #[.agg #[.int .i64 r1, v1_], .int .i64 r3, .int .i64 r4]) ∧ Kd.R k62 62 w' w.heap.size (fun _ => True) v1_ r2 ∧ Below w.heap.size w w' := by
 have hu45 := Try.underlying45; have hu62 := Try.underlying62; have HR0 := Aside0.mk hr0; have HC0 := Aside0.mk hc0; clear hr0 hc0; have HB := Aside0.mk (Below.refl w.heap.size w)
 have H : ((wire_Get.f l0 a1 2).bind fun bt359 => (if bt359.2.2 = 0 then ((wire_Get.f l0 bt359.2.1 1).bind fun bt362 => (if bt362.2.2 = 0 then (if bt362.1 = 0 then (none) else (if bt362.1 > 32 then (none) else (batch_Parse.l0 k l0 bt362.2.1 bt362.1 0 bt359.1 ([] : List (S62))))) else (some (0, ([] : List (S62)), 0, bt362.2.2)))) else (some (0, ([] : List (S62)), 0, bt359.2.2)))) = some (r1, r2, r3, r4) := h
 clear h; replace H := Option.bind_eq_some_iff.mp H
 obtain ⟨⟨t359, t360, t361⟩, A30, H⟩ := H
 replace H : (if t361 = 0 then ((wire_Get.f l0 t360 1).bind fun bt362 => (if bt362.2.2 = 0 then (if bt362.1 = 0 then (none) else (if bt362.1 > 32 then (none) else (batch_Parse.l0 k l0 bt362.2.1 bt362.1 0 t359 ([] : List (S62))))) else (some (0, ([] : List (S62)), 0, bt362.2.2)))) else (some (0, ([] : List (S62)), 0, t361))) = some (r1, r2, r3, r4) := H
 have A3 := Aside0.mk A30; clear A30
 by_cases c4 : t361 = 0
 ·rw [if_pos c4] at H
  have c4b0 : (t361 == 0) = true := beq_iff_eq.mpr c4
  have c4b1 : (t361 != 0) = false := bne_eq_false_iff_eq.mpr c4
  clear c4; replace H := Option.bind_eq_some_iff.mp H
  obtain ⟨⟨t362, t363, t364⟩, A50, H⟩ := H
  replace H : (if t364 = 0 then (if t362 = 0 then (none) else (if t362 > 32 then (none) else (batch_Parse.l0 k l0 t363 t362 0 t359 ([] : List (S62))))) else (some (0, ([] : List (S62)), 0, t364))) = some (r1, r2, r3, r4) := H
  have A5 := Aside0.mk A50; clear A50
  by_cases c6 : t364 = 0
  ·rw [if_pos c6] at H
   have c6b0 : (t364 == 0) = true := beq_iff_eq.mpr c6
   have c6b1 : (t364 != 0) = false := bne_eq_false_iff_eq.mpr c6
   clear c6
   by_cases c7 : t362 = 0
   ·rw [if_pos c7] at H
    exact absurd H (by simp)
   rw [if_neg c7] at H
   have c7b0 : (t362 == 0) = false := beq_eq_false_iff_ne.mpr c7
   have c7b1 : (t362 != 0) = true := bne_iff_ne.mpr c7
   by_cases c8 : t362 > 32
   ·rw [if_pos c8] at H
    exact absurd H (by simp)
   rw [if_neg c8] at H; have c8b0 : decide (32 < t362) = false := decide_eq_false c8; clear c8
   have H' := Aside0.mk H
   clear H
   go_enter Try.func66, Try.ntmps66
   go_wp2_with (first | ((with_reducible refine gate_dst (N := 4) rfl ?_); refine bx #[.int .i64 0, .slice none 0 0] 45 ?_; intro gb358 hg w9 hbox hb; have BK358 := Aside0.mk hbox; have GW358 := ge HB hg; have GE358 := ge HB hg; replace HB := bs HB hb; clear hb hbox hg) | ((with_reducible refine gate_callee (f := 27) rfl ?_); refine gL (some 17) Try.func27 #[.slice A0 l0.length c0, .int .i64 a1, .int .i64 2] ?_; (with_reducible refine (wire_Get.calls _ _ l0 a1 2 t359 t360 t361 _ ?side1 ?side2 A3.out).mono ?_); (case side1 => repeat (first | exact (Kd.C_below HR0.out HB.out) | (with_reducible refine Kd.C_alloc ?_ _) | (with_reducible refine Kd.C_drewN ?_ _) | (with_reducible refine Kd.C_drew ?_))); (case side2 => exact HC0.out); rintro e w10 ⟨rfl, hb⟩; refine ⟨_, rfl, ?_⟩; replace BK358 := kb BK358 hb; replace HB := bs HB hb; (try clear hb); (try clear hb2); (try clear hk); (try clear hi)) | ((with_reducible refine gate_callee (f := 27) rfl ?_); refine gL (some 28) Try.func27 #[.slice A0 l0.length c0, .int .i64 t360, .int .i64 1] ?_; (with_reducible refine (wire_Get.calls _ _ l0 t360 1 t362 t363 t364 _ ?side1 ?side2 A5.out).mono ?_); (case side1 => repeat (first | exact (Kd.C_below HR0.out HB.out) | (with_reducible refine Kd.C_alloc ?_ _) | (with_reducible refine Kd.C_drewN ?_ _) | (with_reducible refine Kd.C_drew ?_))); (case side2 => exact HC0.out); rintro e w11 ⟨rfl, hb⟩; refine ⟨_, rfl, ?_⟩; replace BK358 := kb BK358 hb; replace HB := bs HB hb; (try clear hb); (try clear hb2); (try clear hk); (try clear hi)) | ((with_reducible refine gate_dst (N := 10) rfl ?_); refine bx #[.int .i64 0, .slice none 0 0] 45 ?_; intro gb365 hg w12 hbox hb; have BK365 := Aside0.mk hbox; have GW365 := ge HB hg; have GE365 := ge HB hg; replace HB := bs HB hb; have NB358_365 := nL BK358 hg; have NB365_358 := nG BK358 hg; replace BK358 := kb BK358 hb; clear hb hbox hg; have hnb13 := NB365_358.out; have hnc13 := NB358_365.out; obtain ⟨q14_0, q14_1⟩ := cA2 BK365; obtain ⟨f14_0, f14_1⟩ := fA2 BK365))
   go_loopg [1, 48] k (fun kq v1 v48 w' => ∃ (x1_1 : Int) (x48_1 : Int) (x359000_1 : Int) (x366001_1 : List (S62)) (u366001 : Value), v1 = .int .i64 x1_1 ∧ v48 = .int .i64 x48_1 ∧ Aside0 (batch_Parse.l0 kq l0 x1_1 t362 x48_1 t359 x366001_1 = some (r1, r2, r3, r4)) ∧ Aside0 (kq ≤ k) ∧ Aside0 (Kd.R k62 62 w' w.heap.size (fun _ => True) u366001 x366001_1) ∧ Aside0 (w'.heap[gb358]? = some (.cells #[.int .i64 x359000_1, (.slice none 0 0)] 45 (0, 0))) ∧ Aside0 (w'.heap[gb365]? = some (.cells #[.int .i64 t359, u366001] 45 (0, 0))) ∧ Aside0 (Below w.heap.size w w'))
   case atStart => exact ⟨(t363), (0), (0), (([] : List (S62))), (.slice none 0 0), gv, gv, H', ⟨Nat.le_refl _⟩, ⟨gO⟩, ⟨by refine rK ?_; refine blk_far ?_ NB358_365.out _; refine rK ?_; refine blk_far ?_ NB358_365.out _; refine rK ?_; exact BK358.out⟩, ⟨by refine rK ?_; refine blk_put (cs := #[.int .i64 t359, .slice none 0 0]) ?_ 1 _ rfl; refine rK ?_; refine blk_put (cs := #[.int .i64 0, .slice none 0 0]) ?_ 0 _ rfl; refine rK ?_; exact BK365.out⟩, ⟨uB HB⟩⟩
   case round =>
    clear H'; (try clear c1); (try clear c2); (try clear p2); (try clear c4); (try clear c4b0); (try clear c4b1); (try clear c6); (try clear c6b0); (try clear c6b1); (try clear c7); (try clear c7b0); (try clear c7b1); (try clear c8); (try clear c8b0); (try clear c13); (try clear q14_0); (try clear q14_1); (try clear f14_0); (try clear f14_1); obtain ⟨x1_1, x48_1, x359000_1, x366001_1, u366001, rfl, rfl, HA, HK1, HO_366001, BK358, BK365, HB⟩ := hrel
    cases gk with
    | zero => exact absurd HA.out (by simp [batch_Parse.l0])
    | succ k1 =>
     have H := HA.out
     clear HA
     simp only [batch_Parse.l0] at H
     by_cases c15 : x48_1 < t362
     ·rw [if_pos c15] at H
      have c15b0 : decide (x48_1 < t362) = true := decide_eq_true c15; clear c15; replace H := Option.bind_eq_some_iff.mp H
      obtain ⟨⟨t366, t367, t368, t369, t370, t371, t372, t373, t374, t375, t376, t377, t378, t379⟩, A160, H⟩ := H
      replace H : (if t379 = 0 then (if x366001_1.length < 1466015503701 then (batch_Parse.l0 k1 l0 t378 t362 (wrap64 (x48_1 + 1)) t359 (x366001_1 ++ [(⟨t366, t367, (⟨t368, t369, t370, t371, t372, t373⟩ : S58), (⟨t374, t375, t376⟩ : S60), t377⟩ : S62)])) else (none)) else (some (0, ([] : List (S62)), 0, t379))) = some (r1, r2, r3, r4) := H
      have A16 := Aside0.mk A160; clear A160
      by_cases c17 : t379 = 0
      ·rw [if_pos c17] at H
       have c17b0 : (t379 == 0) = true := beq_iff_eq.mpr c17
       have c17b1 : (t379 != 0) = false := bne_eq_false_iff_eq.mpr c17
       clear c17
       by_cases c18 : x366001_1.length < 1466015503701
       rotate_left
       ·rw [if_neg c18] at H
        exact absurd H (by simp)
       rw [if_pos c18] at H; have LMc18 := Aside0.mk c18; clear c18
       obtain ⟨y381, hy381⟩ : ∃ y_ : List (S62), y_ = (x366001_1 ++ [(⟨t366, t367, (⟨t368, t369, t370, t371, t372, t373⟩ : S58), (⟨t374, t375, t376⟩ : S60), t377⟩ : S62)]) := ⟨_, rfl⟩
       replace H : (batch_Parse.l0 k1 l0 t378 t362 (wrap64 (x48_1 + 1)) t359 y381) = some (r1, r2, r3, r4) := by first | (rw [hy381]; with_reducible exact H) | (have H2_ := (Option.bind_some _ _).symm.trans H; rw [hy381]; with_reducible exact H2_) | (have H2_ := (Option.bind_some _ _).symm.trans H; with_reducible exact H2_) | with_reducible exact H | (rw [hy381]; exact H) | exact H
       have Ny381 := Aside0.mk hy381; clear hy381
       have H' := Aside0.mk H
       clear H
       go_wp2_with (first | ((with_reducible refine gate_callee (f := 87) rfl ?_); refine gL (some 53) Try.func87 #[.slice A0 l0.length c0, .int .i64 x1_1] ?_; (with_reducible refine (object_Parse.calls _ _ l0 x1_1 t366 t367 t368 t369 t370 t371 t372 t373 t374 t375 t376 t377 t378 t379 _ ?side1 ?side2 A16.out).mono ?_); (case side1 => repeat (first | exact (Kd.C_below HR0.out HB.out) | (with_reducible refine Kd.C_alloc ?_ _) | (with_reducible refine Kd.C_drewN ?_ _) | (with_reducible refine Kd.C_drew ?_))); (case side2 => exact HC0.out); rintro e w19 ⟨rfl, hb⟩; refine ⟨_, rfl, ?_⟩; replace HO_366001 := Aside0.mk (Kd.R_below (uR HO_366001) hb); replace BK358 := kb BK358 hb; replace BK365 := kb BK365 hb; replace HB := bs HB hb; (try clear hb); (try clear hb2); (try clear hk); (try clear hi)) | ((with_reducible refine gate_dst (N := 11) rfl ?_); refine bx #[.int .i64 0, .int .i64 0, .bool false, .int .i64 0, .int .i64 0, .int .i64 0, .int .i64 0, .int .i64 0, .int .i64 0, .int .i64 0, .int .i64 0, .int .i64 0] 62 ?_; intro gb380 hg w20 hbox hb; replace HO_366001 := Aside0.mk (Kd.R_below (Kd.R_elderB (uR HO_366001) gb380 (Nat.le_of_eq hg.symm)) hb); have BK380 := Aside0.mk hbox; have GW380 := ge HB hg; have GE380 := ge HB hg; replace HB := bs HB hb; have NB358_380 := nL BK358 hg; have NB380_358 := nG BK358 hg; replace BK358 := kb BK358 hb; have NB365_380 := nL BK365 hg; have NB380_365 := nG BK365 hg; replace BK365 := kb BK365 hb; clear hb hbox hg; have hnb21 := NB380_358.out; have hnc21 := NB358_380.out; have hnb22 := NB380_365.out; have hnc22 := NB365_380.out; obtain ⟨q23_0, q23_1, q23_2, q23_3, q23_4, q23_5, q23_6, q23_7, q23_8, q23_9, q23_10, q23_11⟩ := cA12 BK380; obtain ⟨f23_0, f23_1, f23_2, f23_3, f23_4, f23_5, f23_6, f23_7, f23_8, f23_9, f23_10, f23_11⟩ := fA12 BK380; have hnb24 := NB365_358.out; have hnc24 := NB358_365.out; obtain ⟨q25_0, q25_1⟩ := cA2 BK365; obtain ⟨f25_0, f25_1⟩ := fA2 BK365) | ((with_reducible refine gate_builtin (b := .append) (xs := #[.tmp 62, .tmp 64]) rfl ?_); at_builtin; refine Kd.R_append k62 (w0 := w) w.heap.size rfl (.tmp 62) (.tmp 64) 43 62 (.agg #[(.int .i64 0), (.int .i64 0), (.bool false), (.int .i64 0), (.int .i64 0), (.int .i64 0), (.int .i64 0), (.int .i64 0), (.int .i64 0), (.int .i64 0), (.int .i64 0), (.int .i64 0)]) 96 rfl Try.underlying43 info62 rfl (by decide) (by omega) u366001 x366001_1 (⟨t366, t367, (⟨t368, t369, t370, t371, t372, t373⟩ : S58), (⟨t374, t375, t376⟩ : S60), t377⟩ : S62) [.int .i64 t366, .int .i64 t367, .bool t368, .int .i64 t369, .int .i64 t370, .int .i64 t371, .int .i64 t372, .int .i64 t373, .int .i64 t374, .int .i64 t375, .int .i64 t376, .int .i64 t377] (fun k_ => k_ ≠ gb380) (fun _ => False) rfl (by first | (go_simp; done) | (go_simp; rfl)) ?aP (fun _ hk => hk.elim) ?aF ?aO ?aB ?aS ?aL ?_; (case aP => exact k62_mkM _ _ _ (⟨t366, t367, (⟨t368, t369, t370, t371, t372, t373⟩ : S58), (⟨t374, t375, t376⟩ : S60), t377⟩ : S62)); (case aB => exact (uB HB)); (case aF => exact (fun k_ hk => Kd.freshB (g := gb380) (o := .cells #[.int .i64 t366, .int .i64 t367, .bool t368, .int .i64 t369, .int .i64 t370, .int .i64 t371, .int .i64 t372, .int .i64 t373, .int .i64 t374, .int .i64 t375, .int .i64 t376, .int .i64 t377] 62 (0, 0)) (by refine rK ?_; refine blk_put (cs := #[.int .i64 t366, .int .i64 t367, .bool t368, .int .i64 t369, .int .i64 t370, .int .i64 t371, .int .i64 t372, .int .i64 t373, .int .i64 t374, .int .i64 t375, .int .i64 t376, .int .i64 0]) ?_ 11 _ rfl; refine rK ?_; refine blk_put (cs := #[.int .i64 t366, .int .i64 t367, .bool t368, .int .i64 t369, .int .i64 t370, .int .i64 t371, .int .i64 t372, .int .i64 t373, .int .i64 t374, .int .i64 t375, .int .i64 0, .int .i64 0]) ?_ 10 _ rfl; refine rK ?_; refine blk_put (cs := #[.int .i64 t366, .int .i64 t367, .bool t368, .int .i64 t369, .int .i64 t370, .int .i64 t371, .int .i64 t372, .int .i64 t373, .int .i64 t374, .int .i64 0, .int .i64 0, .int .i64 0]) ?_ 9 _ rfl; refine rK ?_; refine blk_put (cs := #[.int .i64 t366, .int .i64 t367, .bool t368, .int .i64 t369, .int .i64 t370, .int .i64 t371, .int .i64 t372, .int .i64 t373, .int .i64 0, .int .i64 0, .int .i64 0, .int .i64 0]) ?_ 8 _ rfl; refine rK ?_; refine blk_put (cs := #[.int .i64 t366, .int .i64 t367, .bool t368, .int .i64 t369, .int .i64 t370, .int .i64 t371, .int .i64 t372, .int .i64 0, .int .i64 0, .int .i64 0, .int .i64 0, .int .i64 0]) ?_ 7 _ rfl; refine rK ?_; refine blk_put (cs := #[.int .i64 t366, .int .i64 t367, .bool t368, .int .i64 t369, .int .i64 t370, .int .i64 t371, .int .i64 0, .int .i64 0, .int .i64 0, .int .i64 0, .int .i64 0, .int .i64 0]) ?_ 6 _ rfl; refine rK ?_; refine blk_put (cs := #[.int .i64 t366, .int .i64 t367, .bool t368, .int .i64 t369, .int .i64 t370, .int .i64 0, .int .i64 0, .int .i64 0, .int .i64 0, .int .i64 0, .int .i64 0, .int .i64 0]) ?_ 5 _ rfl; refine rK ?_; refine blk_put (cs := #[.int .i64 t366, .int .i64 t367, .bool t368, .int .i64 t369, .int .i64 0, .int .i64 0, .int .i64 0, .int .i64 0, .int .i64 0, .int .i64 0, .int .i64 0, .int .i64 0]) ?_ 4 _ rfl; refine rK ?_; refine blk_put (cs := #[.int .i64 t366, .int .i64 t367, .bool t368, .int .i64 0, .int .i64 0, .int .i64 0, .int .i64 0, .int .i64 0, .int .i64 0, .int .i64 0, .int .i64 0, .int .i64 0]) ?_ 3 _ rfl; refine rK ?_; refine blk_put (cs := #[.int .i64 t366, .int .i64 t367, .bool false, .int .i64 0, .int .i64 0, .int .i64 0, .int .i64 0, .int .i64 0, .int .i64 0, .int .i64 0, .int .i64 0, .int .i64 0]) ?_ 2 _ rfl; refine rK ?_; refine blk_put (cs := #[.int .i64 t366, .int .i64 0, .bool false, .int .i64 0, .int .i64 0, .int .i64 0, .int .i64 0, .int .i64 0, .int .i64 0, .int .i64 0, .int .i64 0, .int .i64 0]) ?_ 1 _ rfl; refine rK ?_; refine blk_put (cs := #[.int .i64 0, .int .i64 0, .bool false, .int .i64 0, .int .i64 0, .int .i64 0, .int .i64 0, .int .i64 0, .int .i64 0, .int .i64 0, .int .i64 0, .int .i64 0]) ?_ 0 _ rfl; refine rK ?_; exact BK380.out) k_ hk)); (case aO => exact (by refine rR ?_; exact Kd.R_mono (Kd.R_far (p := ⟨gb380, 11, none⟩) (Kd.R_far (p := ⟨gb380, 10, none⟩) (Kd.R_far (p := ⟨gb380, 9, none⟩) (Kd.R_far (p := ⟨gb380, 8, none⟩) (Kd.R_far (p := ⟨gb380, 7, none⟩) (Kd.R_far (p := ⟨gb380, 6, none⟩) (Kd.R_far (p := ⟨gb380, 5, none⟩) (Kd.R_far (p := ⟨gb380, 4, none⟩) (Kd.R_far (p := ⟨gb380, 3, none⟩) (Kd.R_far (p := ⟨gb380, 2, none⟩) (Kd.R_far (p := ⟨gb380, 1, none⟩) (Kd.R_far (p := ⟨gb380, 0, none⟩) (Kd.R_mono HO_366001.out (fun k_ hk => (⟨hk, hk.2⟩ : _ ∧ k_ ≠ gb380))) (fun _ hk => hk.2) (.int .i64 t366)) (fun _ hk => hk.2) (.int .i64 t367)) (fun _ hk => hk.2) (.bool t368)) (fun _ hk => hk.2) (.int .i64 t369)) (fun _ hk => hk.2) (.int .i64 t370)) (fun _ hk => hk.2) (.int .i64 t371)) (fun _ hk => hk.2) (.int .i64 t372)) (fun _ hk => hk.2) (.int .i64 t373)) (fun _ hk => hk.2) (.int .i64 t374)) (fun _ hk => hk.2) (.int .i64 t375)) (fun _ hk => hk.2) (.int .i64 t376)) (fun _ hk => hk.2) (.int .i64 t377)) (fun _ hk => hk.1.2))); (case aS => exact (below_size (uB HB))); (case aL => have := LMc18.out; omega); intro v382 w26 ho hb hg hat; rw [← Ny381.out] at ho; have n0_ := Aside0.mk (blk_grown (g := gb358) (o := .cells #[.int .i64 x359000_1, .slice none 0 0] 45 (0, 0)) (by refine rK ?_; refine blk_far ?_ NB358_380.out _; refine rK ?_; refine blk_far ?_ NB358_380.out _; refine rK ?_; refine blk_far ?_ NB358_380.out _; refine rK ?_; refine blk_far ?_ NB358_380.out _; refine rK ?_; refine blk_far ?_ NB358_380.out _; refine rK ?_; refine blk_far ?_ NB358_380.out _; refine rK ?_; refine blk_far ?_ NB358_380.out _; refine rK ?_; refine blk_far ?_ NB358_380.out _; refine rK ?_; refine blk_far ?_ NB358_380.out _; refine rK ?_; refine blk_far ?_ NB358_380.out _; refine rK ?_; refine blk_far ?_ NB358_380.out _; refine rK ?_; refine blk_far ?_ NB358_380.out _; refine rK ?_; exact BK358.out) hg (Kd.R_ne HO_366001.out BK358.out (by decide))); have n1_ := Aside0.mk (blk_grown (g := gb365) (o := .cells #[.int .i64 t359, u366001] 45 (0, 0)) (by refine rK ?_; refine blk_far ?_ NB365_380.out _; refine rK ?_; refine blk_far ?_ NB365_380.out _; refine rK ?_; refine blk_far ?_ NB365_380.out _; refine rK ?_; refine blk_far ?_ NB365_380.out _; refine rK ?_; refine blk_far ?_ NB365_380.out _; refine rK ?_; refine blk_far ?_ NB365_380.out _; refine rK ?_; refine blk_far ?_ NB365_380.out _; refine rK ?_; refine blk_far ?_ NB365_380.out _; refine rK ?_; refine blk_far ?_ NB365_380.out _; refine rK ?_; refine blk_far ?_ NB365_380.out _; refine rK ?_; refine blk_far ?_ NB365_380.out _; refine rK ?_; refine blk_far ?_ NB365_380.out _; refine rK ?_; exact BK365.out) hg (Kd.R_ne HO_366001.out BK365.out (by decide))); have n2_ := Aside0.mk (blk_grown (g := gb380) (o := .cells #[.int .i64 t366, .int .i64 t367, .bool t368, .int .i64 t369, .int .i64 t370, .int .i64 t371, .int .i64 t372, .int .i64 t373, .int .i64 t374, .int .i64 t375, .int .i64 t376, .int .i64 t377] 62 (0, 0)) (by refine rK ?_; refine blk_put (cs := #[.int .i64 t366, .int .i64 t367, .bool t368, .int .i64 t369, .int .i64 t370, .int .i64 t371, .int .i64 t372, .int .i64 t373, .int .i64 t374, .int .i64 t375, .int .i64 t376, .int .i64 0]) ?_ 11 _ rfl; refine rK ?_; refine blk_put (cs := #[.int .i64 t366, .int .i64 t367, .bool t368, .int .i64 t369, .int .i64 t370, .int .i64 t371, .int .i64 t372, .int .i64 t373, .int .i64 t374, .int .i64 t375, .int .i64 0, .int .i64 0]) ?_ 10 _ rfl; refine rK ?_; refine blk_put (cs := #[.int .i64 t366, .int .i64 t367, .bool t368, .int .i64 t369, .int .i64 t370, .int .i64 t371, .int .i64 t372, .int .i64 t373, .int .i64 t374, .int .i64 0, .int .i64 0, .int .i64 0]) ?_ 9 _ rfl; refine rK ?_; refine blk_put (cs := #[.int .i64 t366, .int .i64 t367, .bool t368, .int .i64 t369, .int .i64 t370, .int .i64 t371, .int .i64 t372, .int .i64 t373, .int .i64 0, .int .i64 0, .int .i64 0, .int .i64 0]) ?_ 8 _ rfl; refine rK ?_; refine blk_put (cs := #[.int .i64 t366, .int .i64 t367, .bool t368, .int .i64 t369, .int .i64 t370, .int .i64 t371, .int .i64 t372, .int .i64 0, .int .i64 0, .int .i64 0, .int .i64 0, .int .i64 0]) ?_ 7 _ rfl; refine rK ?_; refine blk_put (cs := #[.int .i64 t366, .int .i64 t367, .bool t368, .int .i64 t369, .int .i64 t370, .int .i64 t371, .int .i64 0, .int .i64 0, .int .i64 0, .int .i64 0, .int .i64 0, .int .i64 0]) ?_ 6 _ rfl; refine rK ?_; refine blk_put (cs := #[.int .i64 t366, .int .i64 t367, .bool t368, .int .i64 t369, .int .i64 t370, .int .i64 0, .int .i64 0, .int .i64 0, .int .i64 0, .int .i64 0, .int .i64 0, .int .i64 0]) ?_ 5 _ rfl; refine rK ?_; refine blk_put (cs := #[.int .i64 t366, .int .i64 t367, .bool t368, .int .i64 t369, .int .i64 0, .int .i64 0, .int .i64 0, .int .i64 0, .int .i64 0, .int .i64 0, .int .i64 0, .int .i64 0]) ?_ 4 _ rfl; refine rK ?_; refine blk_put (cs := #[.int .i64 t366, .int .i64 t367, .bool t368, .int .i64 0, .int .i64 0, .int .i64 0, .int .i64 0, .int .i64 0, .int .i64 0, .int .i64 0, .int .i64 0, .int .i64 0]) ?_ 3 _ rfl; refine rK ?_; refine blk_put (cs := #[.int .i64 t366, .int .i64 t367, .bool false, .int .i64 0, .int .i64 0, .int .i64 0, .int .i64 0, .int .i64 0, .int .i64 0, .int .i64 0, .int .i64 0, .int .i64 0]) ?_ 2 _ rfl; refine rK ?_; refine blk_put (cs := #[.int .i64 t366, .int .i64 0, .bool false, .int .i64 0, .int .i64 0, .int .i64 0, .int .i64 0, .int .i64 0, .int .i64 0, .int .i64 0, .int .i64 0, .int .i64 0]) ?_ 1 _ rfl; refine rK ?_; refine blk_put (cs := #[.int .i64 0, .int .i64 0, .bool false, .int .i64 0, .int .i64 0, .int .i64 0, .int .i64 0, .int .i64 0, .int .i64 0, .int .i64 0, .int .i64 0, .int .i64 0]) ?_ 0 _ rfl; refine rK ?_; exact BK380.out) hg (Kd.R_away HO_366001.out (fun _ hk => hk.2))); have n3_ := Aside0.mk (hb); have n4_ := Aside0.mk (ho); clear BK358; clear BK365; clear BK380; clear HB; clear HO_366001; have BK358 := n0_; have BK365 := n1_; have BK380 := n2_; have HB := n3_; have HO383 := n4_; clear n0_ n1_ n2_ n3_ n4_; clear ho hb hg hat; obtain ⟨Ao27, co27, eo27⟩ := Kd.R_slice HO383.out; subst eo27; obtain ⟨q28_0, q28_1⟩ := cA2 BK365; obtain ⟨f28_0, f28_1⟩ := fA2 BK365))
       go_roundg k1
       case measure => have := HK1.out; omega
       case rel => exact ⟨(t378), (wrap64 (x48_1 + 1)), (x359000_1), (y381), (.slice Ao27 y381.length co27), gv, gv, H', ⟨by have := HK1.out; omega⟩, ⟨by refine rR ?_; exact Kd.R_mono (Kd.R_far (p := ⟨gb365, 1, none⟩) (Kd.R_types HO383.out BK365.out (by decide)) (fun _ hk => hk.2) (.slice Ao27 y381.length co27)) (fun _ hk => trivial)⟩, ⟨by refine rK ?_; refine blk_far ?_ NB358_365.out _; refine rK ?_; exact BK358.out⟩, ⟨by refine rK ?_; refine blk_put (cs := #[.int .i64 t359, u366001]) ?_ 1 _ rfl; refine rK ?_; exact BK365.out⟩, ⟨uB HB⟩⟩
      rw [if_neg c17] at H
      have c17b0 : (t379 == 0) = false := beq_eq_false_iff_ne.mpr c17
      have c17b1 : (t379 != 0) = true := bne_iff_ne.mpr c17
      simp only [Option.some.injEq, Prod.mk.injEq] at H
      obtain ⟨rfl, rfl, rfl, rfl⟩ := H
      go_wp2_with (first | ((with_reducible refine gate_callee (f := 87) rfl ?_); refine gL (some 53) Try.func87 #[.slice A0 l0.length c0, .int .i64 x1_1] ?_; (with_reducible refine (object_Parse.calls _ _ l0 x1_1 t366 t367 t368 t369 t370 t371 t372 t373 t374 t375 t376 t377 t378 t379 _ ?side1 ?side2 A16.out).mono ?_); (case side1 => repeat (first | exact (Kd.C_below HR0.out HB.out) | (with_reducible refine Kd.C_alloc ?_ _) | (with_reducible refine Kd.C_drewN ?_ _) | (with_reducible refine Kd.C_drew ?_))); (case side2 => exact HC0.out); rintro e w29 ⟨rfl, hb⟩; refine ⟨_, rfl, ?_⟩; replace HO_366001 := Aside0.mk (Kd.R_below (uR HO_366001) hb); replace BK358 := kb BK358 hb; replace BK365 := kb BK365 hb; replace HB := bs HB hb; (try clear hb); (try clear hb2); (try clear hk); (try clear hi)) | ((with_reducible refine gate_dst (N := 11) rfl ?_); refine bx #[.int .i64 0, .int .i64 0, .bool false, .int .i64 0, .int .i64 0, .int .i64 0, .int .i64 0, .int .i64 0, .int .i64 0, .int .i64 0, .int .i64 0, .int .i64 0] 62 ?_; intro gb380 hg w30 hbox hb; replace HO_366001 := Aside0.mk (Kd.R_below (Kd.R_elderB (uR HO_366001) gb380 (Nat.le_of_eq hg.symm)) hb); have BK380 := Aside0.mk hbox; have GW380 := ge HB hg; have GE380 := ge HB hg; replace HB := bs HB hb; have NB358_380 := nL BK358 hg; have NB380_358 := nG BK358 hg; replace BK358 := kb BK358 hb; have NB365_380 := nL BK365 hg; have NB380_365 := nG BK365 hg; replace BK365 := kb BK365 hb; clear hb hbox hg; have hnb31 := NB380_358.out; have hnc31 := NB358_380.out; have hnb32 := NB380_365.out; have hnc32 := NB365_380.out; obtain ⟨q33_0, q33_1, q33_2, q33_3, q33_4, q33_5, q33_6, q33_7, q33_8, q33_9, q33_10, q33_11⟩ := cA12 BK380; obtain ⟨f33_0, f33_1, f33_2, f33_3, f33_4, f33_5, f33_6, f33_7, f33_8, f33_9, f33_10, f33_11⟩ := fA12 BK380; have hnb34 := NB358_365.out; have hnc34 := NB365_358.out; obtain ⟨q35_0, q35_1⟩ := cA2 BK358; obtain ⟨f35_0, f35_1⟩ := fA2 BK358))
      refine bodyPost_ret (results_ctt rfl _ _ gb358 45 #[.int .i64 0, .slice none 0 0] (0, 0) _ rfl (by refine rK ?_; refine blk_put (cs := #[.int .i64 0, .slice none 0 0]) ?_ 1 _ rfl; refine rK ?_; refine blk_put (cs := #[.int .i64 x359000_1, .slice none 0 0]) ?_ 0 _ rfl; refine rK ?_; refine blk_far ?_ NB358_380.out _; refine rK ?_; refine blk_far ?_ NB358_380.out _; refine rK ?_; refine blk_far ?_ NB358_380.out _; refine rK ?_; refine blk_far ?_ NB358_380.out _; refine rK ?_; refine blk_far ?_ NB358_380.out _; refine rK ?_; refine blk_far ?_ NB358_380.out _; refine rK ?_; refine blk_far ?_ NB358_380.out _; refine rK ?_; refine blk_far ?_ NB358_380.out _; refine rK ?_; refine blk_far ?_ NB358_380.out _; refine rK ?_; refine blk_far ?_ NB358_380.out _; refine rK ?_; refine blk_far ?_ NB358_380.out _; refine rK ?_; refine blk_far ?_ NB358_380.out _; refine rK ?_; exact BK358.out) Try.underlying45 rfl (by kernel_rfl)) rfl ?_
      exact ⟨_, gE, gO, uB HB⟩
     rw [if_neg c15] at H; have c15b0 : decide (x48_1 < t362) = false := decide_eq_false c15; clear c15; replace H := Option.bind_eq_some_iff.mp H; obtain ⟨t384, A360, H⟩ := H
     replace H : (if t384 = 0 then (some (t359, x366001_1, x1_1, 0)) else (none)) = some (r1, r2, r3, r4) := H
     have A36 := Aside0.mk A360; clear A360
     by_cases c37 : t384 = 0
     rotate_left
     ·rw [if_neg c37] at H
      exact absurd H (by simp)
     rw [if_pos c37] at H
     have c37b0 : (t384 == 0) = true := beq_iff_eq.mpr c37
     have c37b1 : (t384 != 0) = false := bne_eq_false_iff_eq.mpr c37
     clear c37
     simp only [Option.some.injEq, Prod.mk.injEq] at H
     obtain ⟨rfl, rfl, rfl, rfl⟩ := H; have hnb38 := NB365_358.out; have hnc38 := NB358_365.out; obtain ⟨q39_0, q39_1⟩ := cA2 BK365; obtain ⟨f39_0, f39_1⟩ := fA2 BK365; obtain ⟨Ao40, co40, eo40⟩ := Kd.R_slice HO_366001.out
     subst eo40
     go_wp2_with (first | ((with_reducible refine gate_callee (f := 53) rfl ?_); refine gL (some 70) Try.func53 #[.agg #[.int .i64 t359, .slice Ao40 x366001_1.length co40]] ?_; (with_reducible refine (batch_Check.calls k1 t359 _ _ x366001_1 t384 _ ?side1 ?side2 A36.out).mono ?_); (case side1 => exact rC (Kd.R_reads' HO_366001.out).2.2); (case side2 => exact (Kd.R_reads' HO_366001.out).2.1); rintro e w41 ⟨rfl, hb⟩; refine ⟨_, rfl, ?_⟩; replace HO_366001 := Aside0.mk (Kd.R_below (uR HO_366001) hb); replace BK358 := kb BK358 hb; replace BK365 := kb BK365 hb; replace HB := bs HB hb; (try clear hb); (try clear hb2); (try clear hk); (try clear hi); obtain ⟨q42_0, q42_1⟩ := cA2 BK365; obtain ⟨f42_0, f42_1⟩ := fA2 BK365; obtain ⟨q43_0, q43_1⟩ := cA2 BK358; obtain ⟨f43_0, f43_1⟩ := fA2 BK358))
     refine bodyPost_ret (results_ctt rfl _ _ gb358 45 #[.int .i64 t359, .slice Ao40 x366001_1.length co40] (0, 0) _ rfl (by refine rK ?_; refine blk_put (cs := #[.int .i64 t359, .slice none 0 0]) ?_ 1 _ rfl; refine rK ?_; refine blk_put (cs := #[.int .i64 x359000_1, .slice none 0 0]) ?_ 0 _ rfl; refine rK ?_; exact BK358.out) Try.underlying45 rfl (by kernel_rfl)) rfl ?_
     exact ⟨_, gE, by refine rR ?_; exact Kd.R_mono (Kd.R_far (p := ⟨gb358, 1, none⟩) (Kd.R_far (p := ⟨gb358, 0, none⟩) (Kd.R_types HO_366001.out BK358.out (by decide)) (fun _ hk => hk.2) (.int .i64 t359)) (fun _ hk => hk.2) (.slice Ao40 x366001_1.length co40)) (fun _ hk => trivial), uB HB⟩
  rw [if_neg c6] at H
  have c6b0 : (t364 == 0) = false := beq_eq_false_iff_ne.mpr c6
  have c6b1 : (t364 != 0) = true := bne_iff_ne.mpr c6
  simp only [Option.some.injEq, Prod.mk.injEq] at H
  obtain ⟨rfl, rfl, rfl, rfl⟩ := H
  go_enter Try.func66, Try.ntmps66
  go_wp2_with (first | ((with_reducible refine gate_dst (N := 4) rfl ?_); refine bx #[.int .i64 0, .slice none 0 0] 45 ?_; intro gb358 hg w44 hbox hb; have BK358 := Aside0.mk hbox; have GW358 := ge HB hg; have GE358 := ge HB hg; replace HB := bs HB hb; clear hb hbox hg) | ((with_reducible refine gate_callee (f := 27) rfl ?_); refine gL (some 17) Try.func27 #[.slice A0 l0.length c0, .int .i64 a1, .int .i64 2] ?_; (with_reducible refine (wire_Get.calls _ _ l0 a1 2 t359 t360 t361 _ ?side1 ?side2 A3.out).mono ?_); (case side1 => repeat (first | exact (Kd.C_below HR0.out HB.out) | (with_reducible refine Kd.C_alloc ?_ _) | (with_reducible refine Kd.C_drewN ?_ _) | (with_reducible refine Kd.C_drew ?_))); (case side2 => exact HC0.out); rintro e w45 ⟨rfl, hb⟩; refine ⟨_, rfl, ?_⟩; replace BK358 := kb BK358 hb; replace HB := bs HB hb; (try clear hb); (try clear hb2); (try clear hk); (try clear hi)) | ((with_reducible refine gate_callee (f := 27) rfl ?_); refine gL (some 28) Try.func27 #[.slice A0 l0.length c0, .int .i64 t360, .int .i64 1] ?_; (with_reducible refine (wire_Get.calls _ _ l0 t360 1 t362 t363 t364 _ ?side1 ?side2 A5.out).mono ?_); (case side1 => repeat (first | exact (Kd.C_below HR0.out HB.out) | (with_reducible refine Kd.C_alloc ?_ _) | (with_reducible refine Kd.C_drewN ?_ _) | (with_reducible refine Kd.C_drew ?_))); (case side2 => exact HC0.out); rintro e w46 ⟨rfl, hb⟩; refine ⟨_, rfl, ?_⟩; replace BK358 := kb BK358 hb; replace HB := bs HB hb; (try clear hb); (try clear hb2); (try clear hk); (try clear hi); obtain ⟨q47_0, q47_1⟩ := cA2 BK358; obtain ⟨f47_0, f47_1⟩ := fA2 BK358))
  refine bodyPost_ret (results_ctt rfl _ _ gb358 45 #[.int .i64 0, .slice none 0 0] (0, 0) _ rfl (by refine rK ?_; refine blk_put (cs := #[.int .i64 0, .slice none 0 0]) ?_ 1 _ rfl; refine rK ?_; refine blk_put (cs := #[.int .i64 0, .slice none 0 0]) ?_ 0 _ rfl; refine rK ?_; exact BK358.out) Try.underlying45 rfl (by kernel_rfl)) rfl ?_
  exact ⟨_, gE, gO, uB HB⟩
 rw [if_neg c4] at H
 have c4b0 : (t361 == 0) = false := beq_eq_false_iff_ne.mpr c4
 have c4b1 : (t361 != 0) = true := bne_iff_ne.mpr c4
 simp only [Option.some.injEq, Prod.mk.injEq] at H
 obtain ⟨rfl, rfl, rfl, rfl⟩ := H
 go_enter Try.func66, Try.ntmps66
 go_wp2_with (first | ((with_reducible refine gate_dst (N := 4) rfl ?_); refine bx #[.int .i64 0, .slice none 0 0] 45 ?_; intro gb358 hg w48 hbox hb; have BK358 := Aside0.mk hbox; have GW358 := ge HB hg; have GE358 := ge HB hg; replace HB := bs HB hb; clear hb hbox hg) | ((with_reducible refine gate_callee (f := 27) rfl ?_); refine gL (some 17) Try.func27 #[.slice A0 l0.length c0, .int .i64 a1, .int .i64 2] ?_; (with_reducible refine (wire_Get.calls _ _ l0 a1 2 t359 t360 t361 _ ?side1 ?side2 A3.out).mono ?_); (case side1 => repeat (first | exact (Kd.C_below HR0.out HB.out) | (with_reducible refine Kd.C_alloc ?_ _) | (with_reducible refine Kd.C_drewN ?_ _) | (with_reducible refine Kd.C_drew ?_))); (case side2 => exact HC0.out); rintro e w49 ⟨rfl, hb⟩; refine ⟨_, rfl, ?_⟩; replace BK358 := kb BK358 hb; replace HB := bs HB hb; (try clear hb); (try clear hb2); (try clear hk); (try clear hi); obtain ⟨q50_0, q50_1⟩ := cA2 BK358; obtain ⟨f50_0, f50_1⟩ := fA2 BK358))
 refine bodyPost_ret (results_ctt rfl _ _ gb358 45 #[.int .i64 0, .slice none 0 0] (0, 0) _ rfl (by refine rK ?_; refine blk_put (cs := #[.int .i64 0, .slice none 0 0]) ?_ 1 _ rfl; refine rK ?_; refine blk_put (cs := #[.int .i64 0, .slice none 0 0]) ?_ 0 _ rfl; refine rK ?_; exact BK358.out) Try.underlying45 rfl (by kernel_rfl)) rfl ?_
 exact ⟨_, gE, gO, uB HB⟩
def frame_read.f (k : Nat) (a0 : Int) (l1 : List Int) : Option (Int × Int × (List (S101)) × Int × (List (S62)) × (List (S106)) × Int × Int × Int × Int × ByteArray × Bool) := if a0 = 1 then (none) else (if a0 = 2 then ((batch_Parse.f k l1 0).bind fun bt393 => (if bt393.2.2.2 = 0 then (some (a0, 0, ([] : List (S101)), bt393.1, bt393.2.1, ([] : List (S106)), 0, 0, 0, 0, (⟨#[]⟩ : ByteArray), (bt393.2.2.1 == (l1.length : Int)))) else (none))) else (none))
theorem frame_read.mono : ∀ a0 a1 k, LeO (frame_read.f k a0 a1) (frame_read.f (k + 1) a0 a1) := by
 intro a0 a1 k
 unfold frame_read.f
 repeat' first
   | (with_reducible exact batch_Parse.mono _ _ _)
   | (with_reducible exact LeO.refl _)
   | (with_reducible exact LeO.none _)
   | (with_reducible refine LeO.ite ?_ ?_)
   | (with_reducible refine LeO.bind ?_ (fun _ => ?_))
   | exact batch_Parse.mono _ _ _
   | exact LeO.none _
   | refine LeO.ite ?_ ?_
   | refine LeO.bind ?_ (fun _ => ?_)
theorem frame_read.calls (k : Nat) (a0 : Int) (A1 : Option Addr) (c1 : Nat) (l1 : List Int) (r1 : Int) (r2 : Int) (r3 : List (S101)) (r4 : Int) (r5 : List (S62)) (r6 : List (S106)) (r7 : Int) (r8 : Int) (r9 : Int) (r10 : Int) (r11 : ByteArray) (r12 : Bool) (w : World) (hr1 : Kd.C (Kd.int .u8) w A1 l1.length l1) (hc1 : l1.length ≤ c1) (h : frame_read.f k a0 l1 = some (r1, r2, r3, r4, r5, r6, r7, r8, r9, r10, r11, r12)) :
  Calls Try.prog 48 #[.int .i64 a0, .slice A1 l1.length c1] w fun e w' => ∃ v2_ v4_ v5_ : Value, e = .returned (.tuple #[.agg #[.int .i64 r1, .int .i64 r2, v2_, .int .i64 r4, v4_, v5_, .int .i64 r7, .int .i64 r8, .int .i64 r9, .int .i64 r10, .string r11], .bool r12]) ∧ Kd.R k101 101 w' w.heap.size (fun _ => True) v2_ r3 ∧ Kd.R k62 62 w' w.heap.size (fun _ => True) v4_ r5 ∧ Kd.R k106 106 w' w.heap.size (fun _ => True) v5_ r6 ∧ Below w.heap.size w w' := by
 have hu50 := Try.underlying50; have hu42 := Try.underlying42; have hu45 := Try.underlying45; have hu48 := Try.underlying48; have HR1 := Aside0.mk hr1; have HC1 := Aside0.mk hc1; clear hr1 hc1; have HB := Aside0.mk (Below.refl w.heap.size w)
 have H : (if a0 = 1 then (none) else (if a0 = 2 then ((batch_Parse.f k l1 0).bind fun bt393 => (if bt393.2.2.2 = 0 then (some (a0, 0, ([] : List (S101)), bt393.1, bt393.2.1, ([] : List (S106)), 0, 0, 0, 0, (⟨#[]⟩ : ByteArray), (bt393.2.2.1 == (l1.length : Int)))) else (none))) else (none))) = some (r1, r2, r3, r4, r5, r6, r7, r8, r9, r10, r11, r12) := h
 clear h
 by_cases c3 : a0 = 1
 ·rw [if_pos c3] at H
  exact absurd H (by simp)
 rw [if_neg c3] at H
 have c3b0 : (a0 == 1) = false := beq_eq_false_iff_ne.mpr c3
 have c3b1 : (a0 != 1) = true := bne_iff_ne.mpr c3
 by_cases c4 : a0 = 2
 rotate_left
 ·rw [if_neg c4] at H
  exact absurd H (by simp)
 rw [if_pos c4] at H
 have c4b0 : (a0 == 2) = true := beq_iff_eq.mpr c4
 have c4b1 : (a0 != 2) = false := bne_eq_false_iff_eq.mpr c4
 clear c4; replace H := Option.bind_eq_some_iff.mp H
 obtain ⟨⟨t393, t394, t397, t398⟩, A50, H⟩ := H
 replace H : (if t398 = 0 then (some (a0, 0, ([] : List (S101)), t393, t394, ([] : List (S106)), 0, 0, 0, 0, (⟨#[]⟩ : ByteArray), (t397 == (l1.length : Int)))) else (none)) = some (r1, r2, r3, r4, r5, r6, r7, r8, r9, r10, r11, r12) := H
 have A5 := Aside0.mk A50; clear A50
 by_cases c6 : t398 = 0
 rotate_left
 ·rw [if_neg c6] at H
  exact absurd H (by simp)
 rw [if_pos c6] at H
 have c6b0 : (t398 == 0) = true := beq_iff_eq.mpr c6
 have c6b1 : (t398 != 0) = false := bne_eq_false_iff_eq.mpr c6
 clear c6
 simp only [Option.some.injEq, Prod.mk.injEq] at H
 obtain ⟨rfl, rfl, rfl, rfl, rfl, rfl, rfl, rfl, rfl, rfl, rfl, rfl⟩ := H
 go_enter Try.func48, Try.ntmps48
 go_wp2_with (first | ((with_reducible refine gate_dst (N := 4) rfl ?_); (try (refine gate_guard (by rfl) ?_; dsimp only)); refine bx #[.int .i64 0, .int .i64 0, .slice none 0 0, .int .i64 0, .slice none 0 0, .slice none 0 0, .int .i64 0, .int .i64 0, .int .i64 0, .int .i64 0, .string (⟨#[]⟩ : ByteArray)] 50 ?_; intro gb385 hg w7 hbox hb; have BK385 := Aside0.mk hbox; have GW385 := ge HB hg; have GE385 := ge HB hg; replace HB := bs HB hb; clear hb hbox hg) | ((with_reducible refine gate_dst (N := 6) rfl ?_); (try (refine gate_guard (by rfl) ?_; dsimp only)); refine bx #[.int .i64 0, .int .i64 0, .slice none 0 0, .int .i64 0, .slice none 0 0, .slice none 0 0, .int .i64 0, .int .i64 0, .int .i64 0, .int .i64 0, .string (⟨#[]⟩ : ByteArray)] 50 ?_; intro gb386 hg w8 hbox hb; have BK386 := Aside0.mk hbox; have GW386 := ge HB hg; have GE386 := ge HB hg; replace HB := bs HB hb; have NB385_386 := nL BK385 hg; have NB386_385 := nG BK385 hg; replace BK385 := kb BK385 hb; clear hb hbox hg; have hnb9 := NB386_385.out; have hnc9 := NB385_386.out; obtain ⟨q10_0, q10_1, q10_2, q10_3, q10_4, q10_5, q10_6, q10_7, q10_8, q10_9, q10_10⟩ := cA11 BK386; obtain ⟨f10_0, f10_1, f10_2, f10_3, f10_4, f10_5, f10_6, f10_7, f10_8, f10_9, f10_10⟩ := fA11 BK386) | ((with_reducible refine gate_callee (f := 66) rfl ?_); refine gL (some 25) Try.func66 #[.slice A1 l1.length c1, .int .i64 0] ?_; (with_reducible refine (batch_Parse.calls k _ _ l1 0 t393 t394 t397 t398 _ ?side1 ?side2 A5.out).mono ?_); (case side1 => exact Kd.C_below HR1.out (uB HB)); (case side2 => exact HC1.out); rintro e w11 ⟨v395, rfl, ho0, hb⟩; refine ⟨_, rfl, ?_⟩; have HO396 := Aside0.mk (Kd.R_lower ho0 (below_size (uB HB))); replace BK385 := kc BK385 hb; replace BK386 := kc BK386 hb; replace HB := bs HB hb; (try clear hb); (try clear hb2); (try clear hk); (try clear hi); (try clear ho0); obtain ⟨q12_0, q12_1, q12_2, q12_3, q12_4, q12_5, q12_6, q12_7, q12_8, q12_9, q12_10⟩ := cA11 BK386; obtain ⟨f12_0, f12_1, f12_2, f12_3, f12_4, f12_5, f12_6, f12_7, f12_8, f12_9, f12_10⟩ := fA11 BK386; obtain ⟨Ao13, co13, eo13⟩ := Kd.R_slice HO396.out; subst eo13; obtain ⟨q14_0, q14_1, q14_2, q14_3, q14_4, q14_5, q14_6, q14_7, q14_8, q14_9, q14_10⟩ := cA11 BK385; obtain ⟨f14_0, f14_1, f14_2, f14_3, f14_4, f14_5, f14_6, f14_7, f14_8, f14_9, f14_10⟩ := fA11 BK385))
 refine bodyPost_ret (results_ct rfl _ _ gb385 50 #[.int .i64 a0, .int .i64 0, .slice none 0 0, .int .i64 t393, .slice Ao13 t394.length co13, .slice none 0 0, .int .i64 0, .int .i64 0, .int .i64 0, .int .i64 0, .string (⟨#[]⟩ : ByteArray)] (0, 0) _ rfl (by refine rK ?_; refine blk_put (cs := #[.int .i64 a0, .int .i64 0, .slice none 0 0, .int .i64 t393, .slice Ao13 t394.length co13, .slice none 0 0, .int .i64 0, .int .i64 0, .int .i64 0, .int .i64 0, .string (⟨#[]⟩ : ByteArray)]) ?_ 10 _ rfl; refine rK ?_; refine blk_put (cs := #[.int .i64 a0, .int .i64 0, .slice none 0 0, .int .i64 t393, .slice Ao13 t394.length co13, .slice none 0 0, .int .i64 0, .int .i64 0, .int .i64 0, .int .i64 0, .string (⟨#[]⟩ : ByteArray)]) ?_ 9 _ rfl; refine rK ?_; refine blk_put (cs := #[.int .i64 a0, .int .i64 0, .slice none 0 0, .int .i64 t393, .slice Ao13 t394.length co13, .slice none 0 0, .int .i64 0, .int .i64 0, .int .i64 0, .int .i64 0, .string (⟨#[]⟩ : ByteArray)]) ?_ 8 _ rfl; refine rK ?_; refine blk_put (cs := #[.int .i64 a0, .int .i64 0, .slice none 0 0, .int .i64 t393, .slice Ao13 t394.length co13, .slice none 0 0, .int .i64 0, .int .i64 0, .int .i64 0, .int .i64 0, .string (⟨#[]⟩ : ByteArray)]) ?_ 7 _ rfl; refine rK ?_; refine blk_put (cs := #[.int .i64 a0, .int .i64 0, .slice none 0 0, .int .i64 t393, .slice Ao13 t394.length co13, .slice none 0 0, .int .i64 0, .int .i64 0, .int .i64 0, .int .i64 0, .string (⟨#[]⟩ : ByteArray)]) ?_ 6 _ rfl; refine rK ?_; refine blk_put (cs := #[.int .i64 a0, .int .i64 0, .slice none 0 0, .int .i64 t393, .slice Ao13 t394.length co13, .slice none 0 0, .int .i64 0, .int .i64 0, .int .i64 0, .int .i64 0, .string (⟨#[]⟩ : ByteArray)]) ?_ 5 _ rfl; refine rK ?_; refine blk_put (cs := #[.int .i64 a0, .int .i64 0, .slice none 0 0, .int .i64 t393, .slice none 0 0, .slice none 0 0, .int .i64 0, .int .i64 0, .int .i64 0, .int .i64 0, .string (⟨#[]⟩ : ByteArray)]) ?_ 4 _ rfl; refine rK ?_; refine blk_put (cs := #[.int .i64 a0, .int .i64 0, .slice none 0 0, .int .i64 0, .slice none 0 0, .slice none 0 0, .int .i64 0, .int .i64 0, .int .i64 0, .int .i64 0, .string (⟨#[]⟩ : ByteArray)]) ?_ 3 _ rfl; refine rK ?_; refine blk_put (cs := #[.int .i64 a0, .int .i64 0, .slice none 0 0, .int .i64 0, .slice none 0 0, .slice none 0 0, .int .i64 0, .int .i64 0, .int .i64 0, .int .i64 0, .string (⟨#[]⟩ : ByteArray)]) ?_ 2 _ rfl; refine rK ?_; refine blk_put (cs := #[.int .i64 a0, .int .i64 0, .slice none 0 0, .int .i64 0, .slice none 0 0, .slice none 0 0, .int .i64 0, .int .i64 0, .int .i64 0, .int .i64 0, .string (⟨#[]⟩ : ByteArray)]) ?_ 1 _ rfl; refine rK ?_; refine blk_put (cs := #[.int .i64 0, .int .i64 0, .slice none 0 0, .int .i64 0, .slice none 0 0, .slice none 0 0, .int .i64 0, .int .i64 0, .int .i64 0, .int .i64 0, .string (⟨#[]⟩ : ByteArray)]) ?_ 0 _ rfl; refine rK ?_; refine blk_far ?_ NB385_386.out _; refine rK ?_; refine blk_far ?_ NB385_386.out _; refine rK ?_; exact BK385.out) Try.underlying50 rfl (by kernel_rfl)) rfl ?_
 exact ⟨_, _, _, gE, gO, by refine rR ?_; exact Kd.R_mono (Kd.R_far (p := ⟨gb385, 10, none⟩) (Kd.R_far (p := ⟨gb385, 9, none⟩) (Kd.R_far (p := ⟨gb385, 8, none⟩) (Kd.R_far (p := ⟨gb385, 7, none⟩) (Kd.R_far (p := ⟨gb385, 6, none⟩) (Kd.R_far (p := ⟨gb385, 5, none⟩) (Kd.R_far (p := ⟨gb385, 4, none⟩) (Kd.R_far (p := ⟨gb385, 3, none⟩) (Kd.R_far (p := ⟨gb385, 2, none⟩) (Kd.R_far (p := ⟨gb385, 1, none⟩) (Kd.R_far (p := ⟨gb385, 0, none⟩) (Kd.R_far (p := ⟨gb386, 4, none⟩) (Kd.R_far (p := ⟨gb386, 3, none⟩) (Kd.R_types (Kd.R_types HO396.out BK386.out (by decide)) BK385.out (by decide)) (fun _ hk => hk.1.2) (.int .i64 t393)) (fun _ hk => hk.1.2) (.slice Ao13 t394.length co13)) (fun _ hk => hk.2) (.int .i64 a0)) (fun _ hk => hk.2) (.int .i64 0)) (fun _ hk => hk.2) (.slice none 0 0)) (fun _ hk => hk.2) (.int .i64 t393)) (fun _ hk => hk.2) (.slice Ao13 t394.length co13)) (fun _ hk => hk.2) (.slice none 0 0)) (fun _ hk => hk.2) (.int .i64 0)) (fun _ hk => hk.2) (.int .i64 0)) (fun _ hk => hk.2) (.int .i64 0)) (fun _ hk => hk.2) (.int .i64 0)) (fun _ hk => hk.2) (.string (⟨#[]⟩ : ByteArray))) (fun _ hk => trivial), gO, uB HB⟩
mutual
def frame_parts.l0 : Nat → List Int → List (S50) → Option ((List (S50)) × Bool)
 | 0, _, _ => none
 | k + 1, x0, x4 => if (x0.length : Int) > 0 then ((wire_Get.f x0 1 2).bind fun bt411 => (if bt411.2.2 = 0 then (frame_parts.j1 k x0 x4 bt411.1 bt411.2.1 (decide (bt411.1 > (wrap64 ((x0.length : Int) - bt411.2.1))))) else (frame_parts.j1 k x0 x4 bt411.1 bt411.2.1 true))) else (some (x4, true))
def frame_parts.j1 : Nat → List Int → List (S50) → Int → Int → Bool → Option ((List (S50)) × Bool)
 | 0, _, _, _, _, _ => none
 | k + 1, x0, x4, x5, x6, x28 => if x28 = true then (none) else (if 0 < (x0.length : Int) then (if 0 ≤ x6 then (if x6 ≤ (wrap64 (x6 + x5)) then (if (wrap64 (x6 + x5)) ≤ (x0.length : Int) then ((frame_read.f k (wrap64 (rd x0 0)) ((x0.take ((wrap64 (x6 + x5)) : Int).toNat).drop (x6 : Int).toNat)).bind fun bt420 => (if bt420.2.2.2.2.2.2.2.2.2.2.2 = true then (if x4.length < 977343669134 then (if 0 ≤ (wrap64 (x6 + x5)) then (frame_parts.l0 k (x0.drop ((wrap64 (x6 + x5)) : Int).toNat) (x4 ++ [(⟨bt420.1, (⟨bt420.2.1, bt420.2.2.1⟩ : S42), (⟨bt420.2.2.2.1, bt420.2.2.2.2.1⟩ : S45), bt420.2.2.2.2.2.1, (⟨bt420.2.2.2.2.2.2.1, bt420.2.2.2.2.2.2.2.1, bt420.2.2.2.2.2.2.2.2.1, bt420.2.2.2.2.2.2.2.2.2.1, bt420.2.2.2.2.2.2.2.2.2.2.1⟩ : S48)⟩ : S50)])) else (none)) else (none)) else (none))) else (none)) else (none)) else (none)) else (none))
end
def frame_parts.f (k : Nat) (l0 : List Int) : Option ((List (S50)) × Bool) := frame_parts.l0 k l0 ([] : List (S50))
theorem frame_parts.mono_l : ∀ k, (∀ y0 y1, LeO (frame_parts.l0 k y0 y1) (frame_parts.l0 (k + 1) y0 y1)) ∧ (∀ y0 y1 y2 y3 y4, LeO (frame_parts.j1 k y0 y1 y2 y3 y4) (frame_parts.j1 (k + 1) y0 y1 y2 y3 y4))
 | 0 => ⟨fun _ _ r h => by simp [frame_parts.l0] at h, fun _ _ _ _ _ r h => by simp [frame_parts.j1] at h⟩
 | k + 1 => by
  obtain ⟨ih0, ih1⟩ := frame_parts.mono_l k
  refine ⟨?_, ?_⟩
  ·intro y0 y1
   unfold frame_parts.l0
   repeat' first
   | (with_reducible exact ih0 _ _)
   | (with_reducible exact ih1 _ _ _ _ _)
   | (with_reducible exact frame_read.mono _ _ _)
   | (with_reducible exact LeO.refl _)
   | (with_reducible exact LeO.none _)
   | (with_reducible refine LeO.ite ?_ ?_)
   | (with_reducible refine LeO.bind ?_ (fun _ => ?_))
   | exact ih0 _ _
   | exact ih1 _ _ _ _ _
   | exact frame_read.mono _ _ _
   | exact LeO.none _
   | refine LeO.ite ?_ ?_
   | refine LeO.bind ?_ (fun _ => ?_)
  intro y0 y1 y2 y3 y4
  unfold frame_parts.j1
  repeat' first
  | (with_reducible exact ih0 _ _)
  | (with_reducible exact ih1 _ _ _ _ _)
  | (with_reducible exact frame_read.mono _ _ _)
  | (with_reducible exact LeO.refl _)
  | (with_reducible exact LeO.none _)
  | (with_reducible refine LeO.ite ?_ ?_)
  | (with_reducible refine LeO.bind ?_ (fun _ => ?_))
  | exact ih0 _ _
  | exact ih1 _ _ _ _ _
  | exact frame_read.mono _ _ _
  | exact LeO.none _
  | refine LeO.ite ?_ ?_
  | refine LeO.bind ?_ (fun _ => ?_)
theorem frame_parts.mono : ∀ a0 k, LeO (frame_parts.f k a0) (frame_parts.f (k + 1) a0) := by
 intro a0 k
 obtain ⟨ih0, ih1⟩ := frame_parts.mono_l k
 unfold frame_parts.f
 repeat' first
   | (with_reducible exact ih0 _ _)
   | (with_reducible exact ih1 _ _ _ _ _)
   | (with_reducible exact frame_read.mono _ _ _)
   | (with_reducible exact LeO.refl _)
   | (with_reducible exact LeO.none _)
   | (with_reducible refine LeO.ite ?_ ?_)
   | (with_reducible refine LeO.bind ?_ (fun _ => ?_))
   | exact ih0 _ _
   | exact ih1 _ _ _ _ _
   | exact frame_read.mono _ _ _
   | exact LeO.none _
   | refine LeO.ite ?_ ?_
   | refine LeO.bind ?_ (fun _ => ?_)
def frame_parts.T6 : Bool × List (List Nat × List Nat) := (true, [([], []), ([0], [0]), ([1], [1]), ([2], [2]), ([], []), ([], []), ([], []), ([], []), ([6, 7], [6, 7]), ([4, 5, 8], [4, 5, 8]), ([3, 9], [3, 9]), ([10], [10]), ([11], [11]), ([11], [11]), ([], []), ([14, 12, 10, 0, 1, 2, 3, 4, 5, 6, 7, 8, 9, 10, 11, 12, 14], [12, 14]), ([13, 15, 0, 1, 2, 3, 4, 5, 6, 7, 8, 9, 10, 11, 12, 13, 14, 15], [13])])
def frame_parts.B6 : List Nat := [0, 1, 3, 7, 0, 0, 0, 0, 192, 496, 1023, 2047, 4095, 4095, 0, 24575, 65535]
theorem frame_parts.tab6 : rtab .any (opsOf Try.f28 6) = frame_parts.T6 := by kernel_rfl
theorem frame_parts.bits6 : waitsOk frame_parts.T6.2 frame_parts.B6 = true := by kernel_rfl
def frame_parts.T9 : Bool × List (List Nat × List Nat) := (true, [([], []), ([], []), ([1], [1]), ([0, 2], [0, 2]), ([], []), ([], []), ([], []), ([5, 6], [5, 6]), ([4, 7], [4, 7]), ([3, 3, 0, 1, 2, 3], [0, 3]), ([8, 9, 0, 1, 2, 3, 4, 5, 6, 7, 8, 9], [4, 8])])
def frame_parts.B9 : List Nat := [0, 0, 2, 7, 0, 0, 0, 96, 240, 15, 1023]
theorem frame_parts.tab9 : rtab .any (opsOf Try.f28 9) = frame_parts.T9 := by kernel_rfl
theorem frame_parts.bits9 : waitsOk frame_parts.T9.2 frame_parts.B9 = true := by kernel_rfl
theorem frame_parts.calls (k : Nat) (P0_ : Nat → Prop) (A0 : Option Addr) (c0 : Nat) (l0 : List Int) (r1 : List (S50)) (r2 : Bool) (w : World) (hs0 : Kd.V (Kd.int .u8) 5 w w.heap.size (fun k_ => P0_ k_) (.slice A0 l0.length c0) l0) (h : frame_parts.f k l0 = some (r1, r2)) :
  Calls Try.prog 28 #[.slice A0 l0.length c0] w fun e w' => ∃ v0_ : Value, e = .returned (.tuple #[v0_, .bool r2]) ∧ Kd.S k50 50 w' w.heap.size (fun k_ => (w.heap.size ≤ k_)) v0_ r1 ∧ Below w.heap.size w w' := by
 have hu50 := Try.underlying50; have HO0 := Aside0.mk (show Kd.V (Kd.int .u8) 5 w w.heap.size (fun k_ => (P0_ k_ ∨ w.heap.size ≤ k_)) (.slice A0 l0.length c0) l0 from Kd.V_mono hs0 (fun k_ hk => .inl hk)); have HB := Aside0.mk (Below.refl w.heap.size w)
 have H : (frame_parts.l0 k l0 ([] : List (S50))) = some (r1, r2) := h
 clear h
 have H' := Aside0.mk H
 clear H
 go_enter Try.func28, Try.ntmps28
 go_wp2
 go_loopg [0, 4] k (fun kq v0 v4 w' => ∃ (x0_1 : List Int) (x4_1 : List (S50)), Aside0 (frame_parts.l0 kq x0_1 x4_1 = some (r1, r2)) ∧ Aside0 (kq ≤ k) ∧ Aside0 (Kd.V (Kd.int .u8) 5 w' w.heap.size (fun k_ => (P0_ k_ ∨ w.heap.size ≤ k_) ∧ some k_ ≠ (v4 : Value).ownBlock) v0 x0_1) ∧ Aside0 (Kd.S k50 50 w' w.heap.size (fun k_ => (w.heap.size ≤ k_)) v4 x4_1) ∧ Aside0 (Below w.heap.size w w'))
 case atStart => exact ⟨(l0), (([] : List (S50))), H', ⟨Nat.le_refl _⟩, ⟨by refine rV ?_; exact Kd.V_mono HO0.out (fun _ hk => ⟨hk, (by simp [Value.ownBlock])⟩)⟩, ⟨by first | exact Kd.S_nil _ _ _ _ _ | exact Kd.N_nil _ _ _ _ _ | exact Kd.V_nil _ _ _ _ _ | exact Kd.Q_nil _ _ _ _ _ | exact Kd.R_nil _ _ _ _ _⟩, ⟨uB HB⟩⟩
 case round =>
  clear H'; obtain ⟨x0_1, x4_1, HA, HK1, HO_0, HO_4, HB⟩ := hrel
  cases gk with
  | zero => exact absurd HA.out (by simp [frame_parts.l0])
  | succ k1 =>
   have H := HA.out
   clear HA
   simp only [frame_parts.l0] at H
   by_cases c2 : (x0_1.length : Int) > 0
   ·rw [if_pos c2] at H
    have c2b0 : decide (0 < (x0_1.length : Int)) = true := decide_eq_true c2
    have c2b1 : decide (0 < x0_1.length) = true := decide_eq_true (by omega)
    clear c2; replace H := Option.bind_eq_some_iff.mp H
    obtain ⟨⟨t411, t412, t413⟩, A30, H⟩ := H
    replace H : (if t413 = 0 then (frame_parts.j1 k1 x0_1 x4_1 t411 t412 (decide (t411 > (wrap64 ((x0_1.length : Int) - t412))))) else (frame_parts.j1 k1 x0_1 x4_1 t411 t412 true)) = some (r1, r2) := H
    have A3 := Aside0.mk A30; clear A30; have HC4 := Aside0.mk H; clear H; obtain ⟨Ao5, co5, eo5⟩ := Kd.V_slice HO_0.out
    subst eo5
    go_upto_region 4 with (first | ((with_reducible refine gate_callee (f := 27) rfl ?_); refine gL (some 15) Try.func27 #[.slice Ao5 x0_1.length co5, .int .i64 1, .int .i64 2] ?_; (with_reducible refine (wire_Get.calls _ _ x0_1 1 2 t411 t412 t413 _ ?side1 ?side2 A3.out).mono ?_); (case side1 => repeat (first | exact (Kd.V_reads' HO_0.out).2.2 | (with_reducible refine Kd.C_alloc ?_ _) | (with_reducible refine Kd.C_drewN ?_ _) | (with_reducible refine Kd.C_drew ?_))); (case side2 => exact (Kd.V_reads' HO_0.out).2.1); rintro e w6 ⟨rfl, hb⟩; refine ⟨_, rfl, ?_⟩; replace HO_0 := Aside0.mk (Kd.V_below (uV HO_0) hb); replace HO_4 := Aside0.mk (Kd.S_below (by (with_reducible repeat (first | apply Kd.S_alloc | apply Kd.S_drewN | apply Kd.S_drew)); exact HO_4.out) hb); replace HB := bs HB hb; (try clear hb); (try clear hb2); (try clear hk); (try clear hi)))
    (try simp only [Act.put, List.setIfInBounds_toArray, List.set_cons_zero, List.set_cons_succ])
    go_cut [28] (fun v28 wc => ∃ (kq : Nat) (x28_3 : Bool), v28 = .bool x28_3 ∧ Aside0 (frame_parts.j1 kq x0_1 x4_1 t411 t412 x28_3 = some (r1, r2)) ∧ Aside0 (kq ≤ k1) ∧ Aside0 (Kd.V (Kd.int .u8) 5 wc w.heap.size (fun k_ => (P0_ k_ ∨ w.heap.size ≤ k_) ∧ some k_ ≠ (u4 : Value).ownBlock) (.slice Ao5 x0_1.length co5) x0_1) ∧ Aside0 (Kd.S k50 50 wc w.heap.size (fun k_ => (w.heap.size ≤ k_)) u4 x4_1) ∧ Aside0 (Below w.heap.size w wc))
    case first =>
     have H := HC4.out
     clear HC4
     by_cases c7 : t413 = 0
     ·rw [if_pos c7] at H
      have c7b0 : (t413 == 0) = true := beq_iff_eq.mpr c7
      have c7b1 : (t413 != 0) = false := bne_eq_false_iff_eq.mpr c7
      clear c7
      (first | rw [c7b0] | (simp only [i64_w, i32_w]; rw [c7b0]) | rw [c7b1] | skip)
      have H' := Aside0.mk H
      clear H
      go_wp2
      go_meet
      case rel => exact ⟨_, (decide (t411 > (wrap64 ((x0_1.length : Int) - t412)))), gv, H', ⟨by have := HK1.out; first | omega | exact Nat.le_refl _⟩, ⟨uV HO_0⟩, ⟨by (with_reducible repeat (first | apply Kd.S_alloc | apply Kd.S_drewN | apply Kd.S_drew)); exact HO_4.out⟩, ⟨uB HB⟩⟩
     rw [if_neg c7] at H
     have c7b0 : (t413 == 0) = false := beq_eq_false_iff_ne.mpr c7
     have c7b1 : (t413 != 0) = true := bne_iff_ne.mpr c7
     (first | rw [c7b0] | (simp only [i64_w, i32_w]; rw [c7b0]) | rw [c7b1] | skip)
     have H' := Aside0.mk H
     clear H
     go_wp2
     go_meet
     case rel => exact ⟨_, (true), gv, H', ⟨by have := HK1.out; first | omega | exact Nat.le_refl _⟩, ⟨uV HO_0⟩, ⟨by (with_reducible repeat (first | apply Kd.S_alloc | apply Kd.S_drewN | apply Kd.S_drew)); exact HO_4.out⟩, ⟨uB HB⟩⟩
    case rest =>
     clear HC4; (try clear c2); (try clear c2b0); (try clear c2b1); (try clear p2); (try clear p6); (try clear c7); (try clear c7b0); (try clear c7b1); obtain ⟨kq, x28_3, rfl, HA, HJ3, HO_0, HO_4, HB⟩ := hcut
     cases kq with
     | zero => exact absurd HA.out (by simp [frame_parts.j1])
     | succ kj3 =>
      have H := HA.out
      clear HA
      simp only [frame_parts.j1] at H
      by_cases c8 : x28_3 = true
      ·subst c8
       rw [if_pos rfl] at H
       exact absurd H (by simp)
      replace c8 := Bool.eq_false_iff.mpr c8
      subst c8
      rw [if_neg (show ¬ (false = true) by decide)] at H
      by_cases c9 : 0 < (x0_1.length : Int)
      rotate_left
      ·rw [if_neg c9] at H
       exact absurd H (by simp)
      rw [if_pos c9] at H; have c9b0 := decide_eq_true c9
      have c9b1 : decide (0 < x0_1.length) = true := decide_eq_true (by omega)
      clear c9
      by_cases c10 : 0 ≤ t412
      rotate_left
      ·rw [if_neg c10] at H
       exact absurd H (by simp)
      rw [if_pos c10] at H; have c10b0 := eq_true c10; have c10b1 := decide_eq_true c10; clear c10
      by_cases c11 : t412 ≤ (wrap64 (t412 + t411))
      rotate_left
      ·rw [if_neg c11] at H
       exact absurd H (by simp)
      rw [if_pos c11] at H; have c11b0 := eq_true c11; have c11b1 := decide_eq_true c11
      by_cases c12 : (wrap64 (t412 + t411)) ≤ (x0_1.length : Int)
      rotate_left
      ·rw [if_neg c12] at H
       exact absurd H (by simp)
      rw [if_pos c12] at H; have c12b0 := eq_true c12; have c12b1 := decide_eq_true c12
      obtain ⟨y415, hy415⟩ : ∃ y_ : List Int, y_ = ((x0_1.take ((wrap64 (t412 + t411)) : Int).toNat).drop (t412 : Int).toNat) := ⟨_, rfl⟩
      replace H : ((frame_read.f kj3 (wrap64 (rd x0_1 0)) y415).bind fun bt420 => (if bt420.2.2.2.2.2.2.2.2.2.2.2 = true then (if x4_1.length < 977343669134 then (if 0 ≤ (wrap64 (t412 + t411)) then (frame_parts.l0 kj3 (x0_1.drop ((wrap64 (t412 + t411)) : Int).toNat) (x4_1 ++ [(⟨bt420.1, (⟨bt420.2.1, bt420.2.2.1⟩ : S42), (⟨bt420.2.2.2.1, bt420.2.2.2.2.1⟩ : S45), bt420.2.2.2.2.2.1, (⟨bt420.2.2.2.2.2.2.1, bt420.2.2.2.2.2.2.2.1, bt420.2.2.2.2.2.2.2.2.1, bt420.2.2.2.2.2.2.2.2.2.1, bt420.2.2.2.2.2.2.2.2.2.2.1⟩ : S48)⟩ : S50)])) else (none)) else (none)) else (none))) = some (r1, r2) := by first | (rw [hy415]; with_reducible exact H) | (have H2_ := (Option.bind_some _ _).symm.trans H; rw [hy415]; with_reducible exact H2_) | (have H2_ := (Option.bind_some _ _).symm.trans H; with_reducible exact H2_) | with_reducible exact H | (rw [hy415]; exact H) | exact H
      have Ny415 := Aside0.mk hy415; clear hy415; replace H := Option.bind_eq_some_iff.mp H
      obtain ⟨⟨t420, t421, t422, t425, t426, t429, t432, t433, t434, t435, t436, t437⟩, A130, H⟩ := H
      replace H : (if t437 = true then (if x4_1.length < 977343669134 then (if 0 ≤ (wrap64 (t412 + t411)) then (frame_parts.l0 kj3 (x0_1.drop ((wrap64 (t412 + t411)) : Int).toNat) (x4_1 ++ [(⟨t420, (⟨t421, t422⟩ : S42), (⟨t425, t426⟩ : S45), t429, (⟨t432, t433, t434, t435, t436⟩ : S48)⟩ : S50)])) else (none)) else (none)) else (none)) = some (r1, r2) := H
      have A13 := Aside0.mk A130; clear A130
      by_cases c14 : t437 = true
      ·subst c14
       rw [if_pos rfl] at H
       by_cases c15 : x4_1.length < 977343669134
       rotate_left
       ·rw [if_neg c15] at H
        exact absurd H (by simp)
       rw [if_pos c15] at H; have LMc15 := Aside0.mk c15; clear c15
       obtain ⟨y439, hy439⟩ : ∃ y_ : List (S50), y_ = (x4_1 ++ [(⟨t420, (⟨t421, t422⟩ : S42), (⟨t425, t426⟩ : S45), t429, (⟨t432, t433, t434, t435, t436⟩ : S48)⟩ : S50)]) := ⟨_, rfl⟩
       replace H : (if 0 ≤ (wrap64 (t412 + t411)) then (frame_parts.l0 kj3 (x0_1.drop ((wrap64 (t412 + t411)) : Int).toNat) y439) else (none)) = some (r1, r2) := by first | (rw [hy439]; with_reducible exact H) | (have H2_ := (Option.bind_some _ _).symm.trans H; rw [hy439]; with_reducible exact H2_) | (have H2_ := (Option.bind_some _ _).symm.trans H; with_reducible exact H2_) | with_reducible exact H | (rw [hy439]; exact H) | exact H
       have Ny439 := Aside0.mk hy439; clear hy439
       obtain ⟨ji16, hji16⟩ : ∃ j_ : Int, (wrap64 (t412 + t411)) = j_ := ⟨_, rfl⟩
       replace H : (if 0 ≤ (ji16) then (frame_parts.l0 kj3 (x0_1.drop ((ji16) : Int).toNat) y439) else (none)) = some (r1, r2) := by first | (rw [hji16] at H; exact H) | (simp only [hji16] at H ⊢; exact H)
       (try rw [hji16] at c11b0)
       (try rw [hji16] at c11b1)
       (try rw [hji16] at c11)
       (try rw [hji16] at c12b0)
       (try rw [hji16] at c12b1)
       (try rw [hji16] at c12)
       (try rw [hji16] at Ny415)
       (try rw [hji16] at A13)
       have hji16w : (IntKind.i64.wrap (t412 + t411)) = ji16 := (i64_w _).trans hji16
       by_cases c17 : 0 ≤ (ji16)
       rotate_left
       ·rw [if_neg c17] at H
        exact absurd H (by simp)
       rw [if_pos c17] at H; have c17b0 := eq_true c17; have c17b1 := decide_eq_true c17; clear c17; have c18b0 := eq_true (of_decide_eq_true gA : (ji16) ≤ (x0_1.length : Int))
       obtain ⟨y442, hy442⟩ : ∃ y_ : List Int, y_ = (x0_1.drop ((ji16) : Int).toNat) := ⟨_, rfl⟩
       replace H : (frame_parts.l0 kj3 y442 y439) = some (r1, r2) := by first | (rw [hy442]; with_reducible exact H) | (have H2_ := (Option.bind_some _ _).symm.trans H; rw [hy442]; with_reducible exact H2_) | (have H2_ := (Option.bind_some _ _).symm.trans H; with_reducible exact H2_) | with_reducible exact H | (rw [hy442]; exact H) | exact H
       have Ny442 := Aside0.mk hy442; clear hy442
       have H' := Aside0.mk H
       clear H
       try go_wp2
       replace HO_0 := Aside0.mk (Kd.V_drew HO_0.out); replace HO_4 := Aside0.mk (Kd.S_drew HO_4.out); replace HB := Aside0.mk (below_drew1 HB.out)
       have p414 : 0 ≤ (0 : Int) := (by omega)
       have q414 : 0 < (x0_1.length : Int) := of_decide_eq_true gA
       obtain ⟨ad414, e414, hx414_0⟩ := Kd.at_int (Kd.V_reads' HO_0.out).2.2 0 p414 q414
       cases e414
       have qi414 : (0 < x0_1.length) = True := eq_true (by omega)
       (try rw [show ((0 : Int)).toNat = 0 from rfl] at hx414_0)
       (try rw [Addr.add_zero'] at hx414_0)
       replace p414 := eq_true p414; replace q414 := eq_true q414
       have q20 : ((ji16) : Int) ≤ ((x0_1.length : Int) : Int) := of_decide_eq_true gA
       obtain ⟨i020, hi020, _, hsz20, _⟩ := info_parts info5
       have hroom20 : x0_1.length ≤ co5 := (Kd.V_reads' HO_0.out).2.1
       have hC20 : Kd.F (Kd.int .u8) _ _ (some ad414) x0_1.length x0_1 := (Kd.V_at (base := w.heap.size) HO_0.out).2.2
       have ql20 : (t412 : Int) ≤ ((ji16) : Int) := of_decide_eq_true gA
       have q020 : (0 : Int) ≤ (t412 : Int) := of_decide_eq_true gA
       have hcut20 := cut_mid (P := Try.prog) 26 5 .i64 .i64 Try.underlying26 hi020 1 hsz20 (some ad414) x0_1.length co5 t412 (ji16) q020 ql20 q20 hroom20; have hr20 := Kd.F_mid (lo := (t412 : Int).toNat) (hi := ((ji16) : Int).toNat) (c := co5) hC20 (by omega) (by omega) hroom20
       obtain ⟨A20, hA20⟩ : ∃ A1, A1 = (if co5 = (t412 : Int).toNat then (some ad414) else ((some ad414) : Option Addr).map (·.add ((t412 : Int).toNat * 1))) := ⟨_, rfl⟩
       obtain ⟨c20, hc20⟩ : ∃ c1, c1 = co5 - (t412 : Int).toNat := ⟨_, rfl⟩
       have hy20 : y415.length = ((ji16) : Int).toNat - (t412 : Int).toNat := (by rw [Ny415.out, List.length_drop, List.length_take] <;> omega)
       rw [show ((x0_1).take ((ji16) : Int).toNat).drop (t412 : Int).toNat = y415 from Ny415.out.symm] at hr20
       replace hr20 : Kd.F (Kd.int .u8) _ _ A20 y415.length y415 := (by rw [hA20]; exact hr20)
       rw [← hy20, ← hA20, ← hc20] at hcut20
       have HO419 := Aside0.mk (show Kd.V (Kd.int .u8) 5 _ w.heap.size _ (.slice A20 y415.length c20) y415 from Kd.V_mk (by rw [hy20, hc20]; exact Nat.sub_le_sub_right (Nat.le_trans (by omega) hroom20) _) hr20); have HC419 := Aside0.mk (show y415.length ≤ c20 from by rw [hy20, hc20]; exact Nat.sub_le_sub_right (Nat.le_trans (by omega) hroom20) _); clear hr20 hC20 hroom20 hi020 hsz20 hc20; have KY20 := Aside0.mk hy20; have KA20 := Aside0.mk hA20; clear hy20 hA20; replace q20 := eq_true q20
       refine start_ (n := 17) (S := fun w' => w'.cell? ad414 = some (.int .u8 (rd x0_1 0))) (ds := []) #[false, false, false, false, false, false, false, false, false, false, false, false, false, false, false, false, false] (by kernel_rfl) rfl rfl (hx414_0) (fun hHeld => ?_)
       refine with_tabW frame_parts.tab6 frame_parts.bits6 (fun HT_ HW_ => ?_)
       generalize wc.drew = w19 at HO_0 HO_4 HB HO419 hx414_0 hHeld ⊢
       refine pA 0 (some 30) ?_; refine pA 1 (some 31) ?_; refine pA 4 (some 34) ?_; refine pA 5 (some 35) ?_; refine pA 6 (some 36) ?_; refine pA 7 (some 37) ?_; refine pA 8 (some 38) ?_; refine pA 9 (some 39) ?_; refine tA 2 (some 32) ?_; refine pA 3 (some 33) ?_
       refine join_ (σ := Value × Value × Value × Nat) 2 #[true, true, true, true, true, true, true, true, true, true, true, true, true, true, true, false, false] (fun s_ => [(40, .tuple #[.agg #[.int .i64 t420, .int .i64 t421, s_.1, .int .i64 t425, s_.2.1, s_.2.2.1, .int .i64 t432, .int .i64 t433, .int .i64 t434, .int .i64 t435, .string t436], .bool true]), (8, .pointer (some ⟨s_.2.2.2, 0, none⟩)), (29, .tuple #[.agg #[.int .i64 t420, .int .i64 t421, s_.1, .int .i64 t425, s_.2.1, s_.2.2.1, .int .i64 t432, .int .i64 t433, .int .i64 t434, .int .i64 t435, .string t436], .bool true]), (41, .agg #[.int .i64 t420, .int .i64 t421, s_.1, .int .i64 t425, s_.2.1, s_.2.2.1, .int .i64 t432, .int .i64 t433, .int .i64 t434, .int .i64 t435, .string t436]), (42, .bool true)]) (fun s_ w' => (w'.cell? ad414 = some (.int .u8 (rd x0_1 0))) ∧ (Kd.V (Kd.int .u8) 5 w' w.heap.size (fun k_ => (P0_ k_ ∨ w.heap.size ≤ k_) ∧ some k_ ≠ (s_.1 : Value).ownBlock ∧ some k_ ≠ (s_.2.1 : Value).ownBlock ∧ some k_ ≠ (s_.2.2.1 : Value).ownBlock ∧ some k_ ≠ (u4 : Value).ownBlock ∧ k_ ≠ s_.2.2.2) (.slice A20 y415.length c20) y415) ∧ (Kd.R k101 101 w' w.heap.size (fun k_ => (w.heap.size ≤ k_)) s_.1 t422) ∧ (Kd.R k62 62 w' w.heap.size (fun k_ => (w.heap.size ≤ k_)) s_.2.1 t426) ∧ (Kd.R k106 106 w' w.heap.size (fun k_ => (w.heap.size ≤ k_)) s_.2.2.1 t429) ∧ (Kd.V (Kd.int .u8) 5 w' w.heap.size (fun k_ => (P0_ k_ ∨ w.heap.size ≤ k_) ∧ some k_ ≠ (s_.1 : Value).ownBlock ∧ some k_ ≠ (s_.2.1 : Value).ownBlock ∧ some k_ ≠ (s_.2.2.1 : Value).ownBlock ∧ some k_ ≠ (u4 : Value).ownBlock ∧ k_ ≠ s_.2.2.2) (.slice (some ad414) x0_1.length co5) x0_1) ∧ (Kd.S k50 50 w' w.heap.size (fun k_ => (w.heap.size ≤ k_) ∧ some k_ ≠ (s_.1 : Value).ownBlock ∧ some k_ ≠ (s_.2.1 : Value).ownBlock ∧ some k_ ≠ (s_.2.2.1 : Value).ownBlock ∧ k_ ≠ s_.2.2.2) u4 x4_1) ∧ (w'.heap[s_.2.2.2]? = some (.cells #[.int .i64 0, .int .i64 0, .slice none 0 0, .int .i64 0, .slice none 0 0, .slice none 0 0, .int .i64 0, .int .i64 0, .int .i64 0, .int .i64 0, .string (⟨#[]⟩ : ByteArray)] 50 (0, 0))) ∧ (w.heap.size ≤ s_.2.2.2) ∧ (w.heap.size ≤ s_.2.2.2) ∧ (Below w.heap.size w w')) ?_ ?_
       rotate_left
       ·intro hCont
        refine two_ (i := 10) (j := 14) (Ni := some 40) (Nj := some 8) #[true, true, true, true, true, true, true, true, true, true, true, false, false, false, false, false, false] #[true, true, true, true, true, true, true, true, true, true, false, false, false, false, true, false, false] rfl rfl rfl rfl (two_of HT_.out (by kernel_rfl)) (by decide) (by decide) (fun K hK => ?_) (fun K hK => ?_)
        ·skip
         refine gR Try.func48 #[.int .i64 (wrap64 (rd x0_1 0)), .slice A20 y415.length c20] ?_
         with_reducible refine (frame_read.calls kj3 (wrap64 (rd x0_1 0)) _ _ y415 t420 t421 t422 t425 t426 t429 t432 t433 t434 t435 t436 true _ ?side1 ?side2 A13.out).mono ?_
         (case side1 => repeat (first | exact (Kd.V_reads' HO419.out).2.2 | (with_reducible refine Kd.C_alloc ?_ _) | (with_reducible refine Kd.C_drewN ?_ _) | (with_reducible refine Kd.C_drew ?_)))
         (case side2 => exact (Kd.V_reads' HO419.out).2.1)
         rintro e w21 ⟨v423, v427, v430, rfl, ho0, ho1, ho2, hb⟩
         have HS0_ := (hb.cell (World.block_lt_of_cell? _ _ (hHeld))).trans (hHeld)
         refine ⟨_, rfl, ?_⟩
         replace HO_0 := Aside0.mk (Kd.V_mono (Kd.V_told (Kd.V_told (Kd.V_told (Kd.V_old (uV HO_0) hb) (Kd.R_base ho0)) (Kd.R_base ho1)) (Kd.R_base ho2)) (fun _ h_ => h_.1)); replace HO_4 := Aside0.mk (Kd.S_mono (Kd.S_told (Kd.S_told (Kd.S_told (Kd.S_old (by (with_reducible repeat (first | apply Kd.S_alloc | apply Kd.S_drewN | apply Kd.S_drew)); exact HO_4.out) hb) (Kd.R_base ho0)) (Kd.R_base ho1)) (Kd.R_base ho2)) (fun _ h_ => h_.1)); replace HO419 := Aside0.mk (Kd.V_mono (Kd.V_told (Kd.V_told (Kd.V_told (Kd.V_old (uV HO419) hb) (Kd.R_base ho0)) (Kd.R_base ho1)) (Kd.R_base ho2)) (fun _ h_ => h_.1)); have HO424 := Aside0.mk (Kd.R_lower (Kd.R_newM (M := fun k_ => (w.heap.size ≤ k_)) ho0 (below_size (uB HB)) (fun k_ h_ => h_)) (below_size (uB HB))); have HO428 := Aside0.mk (Kd.R_lower (Kd.R_newM (M := fun k_ => (w.heap.size ≤ k_)) ho1 (below_size (uB HB)) (fun k_ h_ => h_)) (below_size (uB HB))); have HO431 := Aside0.mk (Kd.R_lower (Kd.R_newM (M := fun k_ => (w.heap.size ≤ k_)) ho2 (below_size (uB HB)) (fun k_ h_ => h_)) (below_size (uB HB))); replace HB := bs HB hb; (try clear hb); (try clear hb2); (try clear hk); (try clear hi); (try clear ho0); (try clear ho1); (try clear ho2)
         refine hK.out _ _ (HS0_) (fun hHeld => ?_)
         clear hK K; refine nA 40 ?_; refine pA 11 (some 29) ?_; refine pA 12 (some 41) ?_; refine pA 13 (some 42) ?_
         refine oA 14 (some 8) (fun K hK => ?_)
         refine box_step ?hg (N := 8) ?hd (cs := #[.int .i64 0, .int .i64 0, .slice none 0 0, .int .i64 0, .slice none 0 0, .slice none 0 0, .int .i64 0, .int .i64 0, .int .i64 0, .int .i64 0, .string (⟨#[]⟩ : ByteArray)]) (t := 50) ?hr ?_
         (case hd => rfl)
         (case hg => rfl)
         (case hr => first | (go_simp; done) | (go_simp; rfl))
         intro gb438 hg w22 hbox hb
         have HS0_ := (hb.cell (World.block_lt_of_cell? _ _ (hHeld))).trans (hHeld); replace HO_0 := Aside0.mk (Kd.V_below (Kd.V_elderB (uV HO_0) gb438 (Nat.le_of_eq hg.symm)) hb); replace HO_4 := Aside0.mk (Kd.S_below (Kd.S_elderB (by (with_reducible repeat (first | apply Kd.S_alloc | apply Kd.S_drewN | apply Kd.S_drew)); exact HO_4.out) gb438 (Nat.le_of_eq hg.symm)) hb); replace HO419 := Aside0.mk (Kd.V_below (Kd.V_elderB (uV HO419) gb438 (Nat.le_of_eq hg.symm)) hb); replace HO424 := Aside0.mk (Kd.R_below (uR HO424) hb); replace HO428 := Aside0.mk (Kd.R_below (uR HO428) hb); replace HO431 := Aside0.mk (Kd.R_below (uR HO431) hb); have BK438 := Aside0.mk hbox; have GW438 := ge HB hg; have GE438 := ge HB hg; replace HB := bs HB hb; clear hb hbox hg
         refine hK.out _ _ (HS0_) (fun hHeld => ?_)
         clear hK K; refine nA 8 ?_
         exact norm_ (by simp only [putAll, Act.put, List.setIfInBounds_toArray, List.set_cons_zero, List.set_cons_succ]) (hCont (v423, v427, v430, gb438) _ ⟨hHeld, (by refine rV ?_; exact Kd.V_mono HO419.out (fun _ hk => by first | exact ⟨hk.1.1.1.1.1, ⟨hk.1.1.1.2, ⟨hk.1.1.2, ⟨hk.1.2, ⟨hk.1.1.1.1.2, hk.2⟩⟩⟩⟩⟩ | exact trivial | (simp [hk]; done) | simp_all)), (mR HO424), (mR HO428), (mR HO431), (by refine rV ?_; exact Kd.V_mono HO_0.out (fun _ hk => by first | exact ⟨hk.1.1.1.1.1, ⟨hk.1.1.1.2, ⟨hk.1.1.2, ⟨hk.1.2, ⟨hk.1.1.1.1.2, hk.2⟩⟩⟩⟩⟩ | exact trivial | (simp [hk]; done) | simp_all)), (by (with_reducible repeat (first | apply Kd.S_alloc | apply Kd.S_drewN | apply Kd.S_drew)); exact Kd.S_mono HO_4.out (fun _ hk => by first | exact ⟨hk.1.1.1.1, ⟨hk.1.1.1.2, ⟨hk.1.1.2, ⟨hk.1.2, hk.2⟩⟩⟩⟩ | exact trivial | (simp [hk]; done) | simp_all)), (uK BK438), GW438.out, GE438.out, (uB HB)⟩)
        skip
        refine box_step ?hg (N := 8) ?hd (cs := #[.int .i64 0, .int .i64 0, .slice none 0 0, .int .i64 0, .slice none 0 0, .slice none 0 0, .int .i64 0, .int .i64 0, .int .i64 0, .int .i64 0, .string (⟨#[]⟩ : ByteArray)]) (t := 50) ?hr ?_; (case hd => rfl); (case hg => rfl); (case hr => first | (go_simp; done) | (go_simp; rfl))
        intro gb438 hg w21 hbox hb
        have HS0_ := (hb.cell (World.block_lt_of_cell? _ _ (hHeld))).trans (hHeld); replace HO_0 := Aside0.mk (Kd.V_below (Kd.V_elderB (uV HO_0) gb438 (Nat.le_of_eq hg.symm)) hb); replace HO_4 := Aside0.mk (Kd.S_below (Kd.S_elderB (by (with_reducible repeat (first | apply Kd.S_alloc | apply Kd.S_drewN | apply Kd.S_drew)); exact HO_4.out) gb438 (Nat.le_of_eq hg.symm)) hb); replace HO419 := Aside0.mk (Kd.V_below (Kd.V_elderB (uV HO419) gb438 (Nat.le_of_eq hg.symm)) hb); have BK438 := Aside0.mk hbox; have GW438 := ge HB hg; have GE438 := ge HB hg; replace HB := bs HB hb; clear hb hbox hg
        refine hK.out _ _ (HS0_) (fun hHeld => ?_)
        clear hK K; refine nA 8 ?_
        refine oA 10 (some 40) (fun K hK => ?_)
        refine gR Try.func48 #[.int .i64 (wrap64 (rd x0_1 0)), .slice A20 y415.length c20] ?_
        with_reducible refine (frame_read.calls kj3 (wrap64 (rd x0_1 0)) _ _ y415 t420 t421 t422 t425 t426 t429 t432 t433 t434 t435 t436 true _ ?side1 ?side2 A13.out).mono ?_
        (case side1 => repeat (first | exact (Kd.V_reads' HO419.out).2.2 | (with_reducible refine Kd.C_alloc ?_ _) | (with_reducible refine Kd.C_drewN ?_ _) | (with_reducible refine Kd.C_drew ?_)))
        (case side2 => exact (Kd.V_reads' HO419.out).2.1)
        rintro e w22 ⟨v423, v427, v430, rfl, ho0, ho1, ho2, hb⟩
        have HS0_ := (hb.cell (World.block_lt_of_cell? _ _ (hHeld))).trans (hHeld)
        refine ⟨_, rfl, ?_⟩
        replace HO_0 := Aside0.mk (Kd.V_mono (Kd.V_told (Kd.V_told (Kd.V_told (Kd.V_old (uV HO_0) hb) (Kd.R_base ho0)) (Kd.R_base ho1)) (Kd.R_base ho2)) (fun _ h_ => h_.1)); replace HO_4 := Aside0.mk (Kd.S_mono (Kd.S_told (Kd.S_told (Kd.S_told (Kd.S_old (by (with_reducible repeat (first | apply Kd.S_alloc | apply Kd.S_drewN | apply Kd.S_drew)); exact HO_4.out) hb) (Kd.R_base ho0)) (Kd.R_base ho1)) (Kd.R_base ho2)) (fun _ h_ => h_.1)); replace HO419 := Aside0.mk (Kd.V_mono (Kd.V_told (Kd.V_told (Kd.V_told (Kd.V_old (uV HO419) hb) (Kd.R_base ho0)) (Kd.R_base ho1)) (Kd.R_base ho2)) (fun _ h_ => h_.1)); have HO424 := Aside0.mk (Kd.R_lower (Kd.R_newM (M := fun k_ => (w.heap.size ≤ k_)) ho0 (below_size (uB HB)) (fun k_ h_ => h_)) (below_size (uB HB))); have HO428 := Aside0.mk (Kd.R_lower (Kd.R_newM (M := fun k_ => (w.heap.size ≤ k_)) ho1 (below_size (uB HB)) (fun k_ h_ => h_)) (below_size (uB HB))); have HO431 := Aside0.mk (Kd.R_lower (Kd.R_newM (M := fun k_ => (w.heap.size ≤ k_)) ho2 (below_size (uB HB)) (fun k_ h_ => h_)) (below_size (uB HB))); replace BK438 := kb BK438 hb; replace HB := bs HB hb; (try clear hb); (try clear hb2); (try clear hk); (try clear hi); (try clear ho0); (try clear ho1); (try clear ho2)
        refine hK.out _ _ (HS0_) (fun hHeld => ?_)
        clear hK K; refine nA 40 ?_; refine pA 11 (some 29) ?_; refine pA 12 (some 41) ?_; refine pA 13 (some 42) ?_
        exact norm_ (by simp only [putAll, Act.put, List.setIfInBounds_toArray, List.set_cons_zero, List.set_cons_succ]) (hCont (v423, v427, v430, gb438) _ ⟨hHeld, (by refine rV ?_; exact Kd.V_mono HO419.out (fun _ hk => by first | exact ⟨hk.1.1.1.1.1, ⟨hk.1.1.2, ⟨hk.1.2, ⟨hk.2, ⟨hk.1.1.1.1.2, hk.1.1.1.2⟩⟩⟩⟩⟩ | exact trivial | (simp [hk]; done) | simp_all)), (mR HO424), (mR HO428), (mR HO431), (by refine rV ?_; exact Kd.V_mono HO_0.out (fun _ hk => by first | exact ⟨hk.1.1.1.1.1, ⟨hk.1.1.2, ⟨hk.1.2, ⟨hk.2, ⟨hk.1.1.1.1.2, hk.1.1.1.2⟩⟩⟩⟩⟩ | exact trivial | (simp [hk]; done) | simp_all)), (by (with_reducible repeat (first | apply Kd.S_alloc | apply Kd.S_drewN | apply Kd.S_drew)); exact Kd.S_mono HO_4.out (fun _ hk => by first | exact ⟨hk.1.1.1.1, ⟨hk.1.1.2, ⟨hk.1.2, ⟨hk.2, hk.1.1.1.2⟩⟩⟩⟩ | exact trivial | (simp [hk]; done) | simp_all)), (uK BK438), GW438.out, GE438.out, (uB HB)⟩)
       rintro ⟨v423, v427, v430, gb438⟩ w23 ⟨hS_, h0_, h1_, h2_, h3_, h4_, h5_, h6_, h7_, h8_, h9_⟩
       have n0_ : Aside0 (Kd.V (Kd.int .u8) 5 w23 w.heap.size (fun k_ => (P0_ k_ ∨ w.heap.size ≤ k_) ∧ some k_ ≠ (v423 : Value).ownBlock ∧ some k_ ≠ (v427 : Value).ownBlock ∧ some k_ ≠ (v430 : Value).ownBlock ∧ some k_ ≠ (u4 : Value).ownBlock ∧ k_ ≠ gb438) (.slice A20 y415.length c20) y415) := ⟨h0_⟩
       have n1_ : Aside0 (Kd.R k101 101 w23 w.heap.size (fun k_ => (w.heap.size ≤ k_)) v423 t422) := ⟨h1_⟩
       have n2_ : Aside0 (Kd.R k62 62 w23 w.heap.size (fun k_ => (w.heap.size ≤ k_)) v427 t426) := ⟨h2_⟩
       have n3_ : Aside0 (Kd.R k106 106 w23 w.heap.size (fun k_ => (w.heap.size ≤ k_)) v430 t429) := ⟨h3_⟩
       have n4_ : Aside0 (Kd.V (Kd.int .u8) 5 w23 w.heap.size (fun k_ => (P0_ k_ ∨ w.heap.size ≤ k_) ∧ some k_ ≠ (v423 : Value).ownBlock ∧ some k_ ≠ (v427 : Value).ownBlock ∧ some k_ ≠ (v430 : Value).ownBlock ∧ some k_ ≠ (u4 : Value).ownBlock ∧ k_ ≠ gb438) (.slice (some ad414) x0_1.length co5) x0_1) := ⟨h4_⟩
       have n5_ : Aside0 (Kd.S k50 50 w23 w.heap.size (fun k_ => (w.heap.size ≤ k_) ∧ some k_ ≠ (v423 : Value).ownBlock ∧ some k_ ≠ (v427 : Value).ownBlock ∧ some k_ ≠ (v430 : Value).ownBlock ∧ k_ ≠ gb438) u4 x4_1) := ⟨h5_⟩
       have n6_ : Aside0 (w23.heap[gb438]? = some (.cells #[.int .i64 0, .int .i64 0, .slice none 0 0, .int .i64 0, .slice none 0 0, .slice none 0 0, .int .i64 0, .int .i64 0, .int .i64 0, .int .i64 0, .string (⟨#[]⟩ : ByteArray)] 50 (0, 0))) := ⟨h6_⟩
       have n7_ : Aside0 (w.heap.size ≤ gb438) := ⟨h7_⟩
       have n8_ : Aside0 (w.heap.size ≤ gb438) := ⟨h8_⟩
       have n9_ : Aside0 (Below w.heap.size w w23) := ⟨h9_⟩
       clear HO_0; clear HO_4; clear HB; clear h0_ h1_ h2_ h3_ h4_ h5_ h6_ h7_ h8_ h9_; have HO419 := n0_; have HO424 := n1_; have HO428 := n2_; have HO431 := n3_; have HO_0 := n4_; have HO_4 := n5_; have BK438 := n6_; have GW438 := n7_; have GE438 := n8_; have HB := n9_; clear n0_ n1_ n2_ n3_ n4_ n5_ n6_ n7_ n8_ n9_
       have hHeld : w23.cell? ad414 = some (.int .u8 (rd x0_1 0)) := hS_
       obtain ⟨Ao26, co26, eo26⟩ := Kd.R_slice HO424.out
       (first | subst eo26 | (injection eo26 with f1_ f2_ f3_; have f4_ := f1_.symm; have f5_ := f3_.symm; clear f1_ f2_ f3_; subst f4_; subst f5_))
       obtain ⟨Ao29, co29, eo29⟩ := Kd.R_slice HO428.out
       (first | subst eo29 | (injection eo29 with f1_ f2_ f3_; have f4_ := f1_.symm; have f5_ := f3_.symm; clear f1_ f2_ f3_; subst f4_; subst f5_))
       obtain ⟨Ao31, co31, eo31⟩ := Kd.R_slice HO431.out
       (first | subst eo31 | (injection eo31 with f1_ f2_ f3_; have f4_ := f1_.symm; have f5_ := f3_.symm; clear f1_ f2_ f3_; subst f4_; subst f5_))
       refine norm_ (a' := ?_) ?_ ?_
       rotate_left
       ·simp only [putAll, Act.put, List.setIfInBounds_toArray, List.set_cons_zero, List.set_cons_succ]
        rfl
       refine oA 15 none (fun K hK => ?_)
       have hs24 := cE BK438 0; have hfs24 := fA1 BK438; have hs25 := cE BK438 1; have hfs25 := blk_frozen BK438.out 1; have hs27 := cE BK438 2; have hfs27 := blk_frozen BK438.out 2; have hs28 := cE BK438 3; have hfs28 := blk_frozen BK438.out 3; have hs30 := cE BK438 4; have hfs30 := blk_frozen BK438.out 4; have hs32 := cE BK438 5; have hfs32 := blk_frozen BK438.out 5; have hs33 := cE BK438 6; have hfs33 := blk_frozen BK438.out 6; have hs34 := cE BK438 7; have hfs34 := blk_frozen BK438.out 7; have hs35 := cE BK438 8; have hfs35 := blk_frozen BK438.out 8; have hs36 := cE BK438 9; have hfs36 := blk_frozen BK438.out 9; have hs37 := cE BK438 10; have hfs37 := blk_frozen BK438.out 10
       refine skip_ (w1 := ?_) (by rfl) rfl ?_ ?_
       rotate_left
       ·go_simp
        rfl
       refine hK.out _ _ (u8S hHeld BK438) (fun hHeld => ?_)
       clear hK K; refine pA 16 (some 9) ?_
       refine dA ?_
       try go_wp2
       have n0_ : Aside0 (Kd.V (Kd.int .u8) 5 (((((((((((w23.setCell ⟨gb438, 0, none⟩ (.int .i64 t420)).setCell ⟨gb438, 1, none⟩ (.int .i64 t421)).setCell ⟨gb438, 2, none⟩ (.slice Ao26 t422.length co26)).setCell ⟨gb438, 3, none⟩ (.int .i64 t425)).setCell ⟨gb438, 4, none⟩ (.slice Ao29 t426.length co29)).setCell ⟨gb438, 5, none⟩ (.slice Ao31 t429.length co31)).setCell ⟨gb438, 6, none⟩ (.int .i64 t432)).setCell ⟨gb438, 7, none⟩ (.int .i64 t433)).setCell ⟨gb438, 8, none⟩ (.int .i64 t434)).setCell ⟨gb438, 9, none⟩ (.int .i64 t435)).setCell ⟨gb438, 10, none⟩ (.string t436)) w.heap.size (fun k_ => (P0_ k_ ∨ w.heap.size ≤ k_) ∧ some k_ ≠ (u4 : Value).ownBlock ∧ some k_ ≠ (.slice Ao26 t422.length co26 : Value).ownBlock ∧ some k_ ≠ (.slice Ao29 t426.length co29 : Value).ownBlock ∧ some k_ ≠ (.slice Ao31 t429.length co31 : Value).ownBlock ∧ k_ ≠ gb438) (.slice (some ad414) x0_1.length co5) x0_1) := ⟨by refine rV ?_; exact Kd.V_mono (Kd.V_far (p := ⟨gb438, 10, none⟩) (Kd.V_far (p := ⟨gb438, 9, none⟩) (Kd.V_far (p := ⟨gb438, 8, none⟩) (Kd.V_far (p := ⟨gb438, 7, none⟩) (Kd.V_far (p := ⟨gb438, 6, none⟩) (Kd.V_far (p := ⟨gb438, 5, none⟩) (Kd.V_far (p := ⟨gb438, 4, none⟩) (Kd.V_far (p := ⟨gb438, 3, none⟩) (Kd.V_far (p := ⟨gb438, 2, none⟩) (Kd.V_far (p := ⟨gb438, 1, none⟩) (Kd.V_far (p := ⟨gb438, 0, none⟩) (Kd.V_mono HO_0.out (fun k_ hk => (⟨hk, hk.2.2.2.2.2⟩ : _ ∧ k_ ≠ gb438))) (fun _ hk => hk.2) (.int .i64 t420)) (fun _ hk => hk.2) (.int .i64 t421)) (fun _ hk => hk.2) (.slice Ao26 t422.length co26)) (fun _ hk => hk.2) (.int .i64 t425)) (fun _ hk => hk.2) (.slice Ao29 t426.length co29)) (fun _ hk => hk.2) (.slice Ao31 t429.length co31)) (fun _ hk => hk.2) (.int .i64 t432)) (fun _ hk => hk.2) (.int .i64 t433)) (fun _ hk => hk.2) (.int .i64 t434)) (fun _ hk => hk.2) (.int .i64 t435)) (fun _ hk => hk.2) (.string t436)) (fun _ hk => ⟨hk.1.1, ⟨hk.1.2.2.2.2.1, ⟨hk.1.2.1, ⟨hk.1.2.2.1, ⟨hk.1.2.2.2.1, hk.1.2.2.2.2.2⟩⟩⟩⟩⟩)⟩
       have n1_ : Aside0 (Kd.S k50 50 (((((((((((w23.setCell ⟨gb438, 0, none⟩ (.int .i64 t420)).setCell ⟨gb438, 1, none⟩ (.int .i64 t421)).setCell ⟨gb438, 2, none⟩ (.slice Ao26 t422.length co26)).setCell ⟨gb438, 3, none⟩ (.int .i64 t425)).setCell ⟨gb438, 4, none⟩ (.slice Ao29 t426.length co29)).setCell ⟨gb438, 5, none⟩ (.slice Ao31 t429.length co31)).setCell ⟨gb438, 6, none⟩ (.int .i64 t432)).setCell ⟨gb438, 7, none⟩ (.int .i64 t433)).setCell ⟨gb438, 8, none⟩ (.int .i64 t434)).setCell ⟨gb438, 9, none⟩ (.int .i64 t435)).setCell ⟨gb438, 10, none⟩ (.string t436)) w.heap.size (fun k_ => (w.heap.size ≤ k_) ∧ some k_ ≠ (.slice Ao26 t422.length co26 : Value).ownBlock ∧ some k_ ≠ (.slice Ao29 t426.length co29 : Value).ownBlock ∧ some k_ ≠ (.slice Ao31 t429.length co31 : Value).ownBlock ∧ k_ ≠ gb438) u4 x4_1) := ⟨by (with_reducible repeat (first | apply Kd.S_alloc | apply Kd.S_drewN | apply Kd.S_drew)); exact Kd.S_mono (Kd.S_far (p := ⟨gb438, 10, none⟩) (Kd.S_far (p := ⟨gb438, 9, none⟩) (Kd.S_far (p := ⟨gb438, 8, none⟩) (Kd.S_far (p := ⟨gb438, 7, none⟩) (Kd.S_far (p := ⟨gb438, 6, none⟩) (Kd.S_far (p := ⟨gb438, 5, none⟩) (Kd.S_far (p := ⟨gb438, 4, none⟩) (Kd.S_far (p := ⟨gb438, 3, none⟩) (Kd.S_far (p := ⟨gb438, 2, none⟩) (Kd.S_far (p := ⟨gb438, 1, none⟩) (Kd.S_far (p := ⟨gb438, 0, none⟩) (Kd.S_mono HO_4.out (fun k_ hk => (⟨hk, hk.2.2.2.2⟩ : _ ∧ k_ ≠ gb438))) (fun _ hk => hk.2) (.int .i64 t420)) (fun _ hk => hk.2) (.int .i64 t421)) (fun _ hk => hk.2) (.slice Ao26 t422.length co26)) (fun _ hk => hk.2) (.int .i64 t425)) (fun _ hk => hk.2) (.slice Ao29 t426.length co29)) (fun _ hk => hk.2) (.slice Ao31 t429.length co31)) (fun _ hk => hk.2) (.int .i64 t432)) (fun _ hk => hk.2) (.int .i64 t433)) (fun _ hk => hk.2) (.int .i64 t434)) (fun _ hk => hk.2) (.int .i64 t435)) (fun _ hk => hk.2) (.string t436)) (fun _ hk => ⟨hk.1.1, ⟨hk.1.2.1, ⟨hk.1.2.2.1, ⟨hk.1.2.2.2.1, hk.1.2.2.2.2⟩⟩⟩⟩)⟩
       have n2_ : Aside0 (Kd.V (Kd.int .u8) 5 (((((((((((w23.setCell ⟨gb438, 0, none⟩ (.int .i64 t420)).setCell ⟨gb438, 1, none⟩ (.int .i64 t421)).setCell ⟨gb438, 2, none⟩ (.slice Ao26 t422.length co26)).setCell ⟨gb438, 3, none⟩ (.int .i64 t425)).setCell ⟨gb438, 4, none⟩ (.slice Ao29 t426.length co29)).setCell ⟨gb438, 5, none⟩ (.slice Ao31 t429.length co31)).setCell ⟨gb438, 6, none⟩ (.int .i64 t432)).setCell ⟨gb438, 7, none⟩ (.int .i64 t433)).setCell ⟨gb438, 8, none⟩ (.int .i64 t434)).setCell ⟨gb438, 9, none⟩ (.int .i64 t435)).setCell ⟨gb438, 10, none⟩ (.string t436)) w.heap.size (fun k_ => (P0_ k_ ∨ w.heap.size ≤ k_) ∧ some k_ ≠ (u4 : Value).ownBlock ∧ some k_ ≠ (.slice Ao26 t422.length co26 : Value).ownBlock ∧ some k_ ≠ (.slice Ao29 t426.length co29 : Value).ownBlock ∧ some k_ ≠ (.slice Ao31 t429.length co31 : Value).ownBlock ∧ k_ ≠ gb438) (.slice A20 y415.length c20) y415) := ⟨by refine rV ?_; exact Kd.V_mono (Kd.V_far (p := ⟨gb438, 10, none⟩) (Kd.V_far (p := ⟨gb438, 9, none⟩) (Kd.V_far (p := ⟨gb438, 8, none⟩) (Kd.V_far (p := ⟨gb438, 7, none⟩) (Kd.V_far (p := ⟨gb438, 6, none⟩) (Kd.V_far (p := ⟨gb438, 5, none⟩) (Kd.V_far (p := ⟨gb438, 4, none⟩) (Kd.V_far (p := ⟨gb438, 3, none⟩) (Kd.V_far (p := ⟨gb438, 2, none⟩) (Kd.V_far (p := ⟨gb438, 1, none⟩) (Kd.V_far (p := ⟨gb438, 0, none⟩) (Kd.V_mono HO419.out (fun k_ hk => (⟨hk, hk.2.2.2.2.2⟩ : _ ∧ k_ ≠ gb438))) (fun _ hk => hk.2) (.int .i64 t420)) (fun _ hk => hk.2) (.int .i64 t421)) (fun _ hk => hk.2) (.slice Ao26 t422.length co26)) (fun _ hk => hk.2) (.int .i64 t425)) (fun _ hk => hk.2) (.slice Ao29 t426.length co29)) (fun _ hk => hk.2) (.slice Ao31 t429.length co31)) (fun _ hk => hk.2) (.int .i64 t432)) (fun _ hk => hk.2) (.int .i64 t433)) (fun _ hk => hk.2) (.int .i64 t434)) (fun _ hk => hk.2) (.int .i64 t435)) (fun _ hk => hk.2) (.string t436)) (fun _ hk => ⟨hk.1.1, ⟨hk.1.2.2.2.2.1, ⟨hk.1.2.1, ⟨hk.1.2.2.1, ⟨hk.1.2.2.2.1, hk.1.2.2.2.2.2⟩⟩⟩⟩⟩)⟩
       have n3_ : Aside0 (Kd.R k101 101 (((((((((((w23.setCell ⟨gb438, 0, none⟩ (.int .i64 t420)).setCell ⟨gb438, 1, none⟩ (.int .i64 t421)).setCell ⟨gb438, 2, none⟩ (.slice Ao26 t422.length co26)).setCell ⟨gb438, 3, none⟩ (.int .i64 t425)).setCell ⟨gb438, 4, none⟩ (.slice Ao29 t426.length co29)).setCell ⟨gb438, 5, none⟩ (.slice Ao31 t429.length co31)).setCell ⟨gb438, 6, none⟩ (.int .i64 t432)).setCell ⟨gb438, 7, none⟩ (.int .i64 t433)).setCell ⟨gb438, 8, none⟩ (.int .i64 t434)).setCell ⟨gb438, 9, none⟩ (.int .i64 t435)).setCell ⟨gb438, 10, none⟩ (.string t436)) w.heap.size (fun k_ => (w.heap.size ≤ k_)) (.slice Ao26 t422.length co26) t422) := ⟨by refine rR ?_; exact Kd.R_mono (Kd.R_far (p := ⟨gb438, 10, none⟩) (Kd.R_far (p := ⟨gb438, 9, none⟩) (Kd.R_far (p := ⟨gb438, 8, none⟩) (Kd.R_far (p := ⟨gb438, 7, none⟩) (Kd.R_far (p := ⟨gb438, 6, none⟩) (Kd.R_far (p := ⟨gb438, 5, none⟩) (Kd.R_far (p := ⟨gb438, 4, none⟩) (Kd.R_far (p := ⟨gb438, 3, none⟩) (Kd.R_far (p := ⟨gb438, 2, none⟩) (Kd.R_far (p := ⟨gb438, 1, none⟩) (Kd.R_far (p := ⟨gb438, 0, none⟩) (Kd.R_types HO424.out BK438.out (by decide)) (fun _ hk => hk.2) (.int .i64 t420)) (fun _ hk => hk.2) (.int .i64 t421)) (fun _ hk => hk.2) (.slice Ao26 t422.length co26)) (fun _ hk => hk.2) (.int .i64 t425)) (fun _ hk => hk.2) (.slice Ao29 t426.length co29)) (fun _ hk => hk.2) (.slice Ao31 t429.length co31)) (fun _ hk => hk.2) (.int .i64 t432)) (fun _ hk => hk.2) (.int .i64 t433)) (fun _ hk => hk.2) (.int .i64 t434)) (fun _ hk => hk.2) (.int .i64 t435)) (fun _ hk => hk.2) (.string t436)) (fun _ hk => hk.1)⟩
       have n4_ : Aside0 (Kd.R k62 62 (((((((((((w23.setCell ⟨gb438, 0, none⟩ (.int .i64 t420)).setCell ⟨gb438, 1, none⟩ (.int .i64 t421)).setCell ⟨gb438, 2, none⟩ (.slice Ao26 t422.length co26)).setCell ⟨gb438, 3, none⟩ (.int .i64 t425)).setCell ⟨gb438, 4, none⟩ (.slice Ao29 t426.length co29)).setCell ⟨gb438, 5, none⟩ (.slice Ao31 t429.length co31)).setCell ⟨gb438, 6, none⟩ (.int .i64 t432)).setCell ⟨gb438, 7, none⟩ (.int .i64 t433)).setCell ⟨gb438, 8, none⟩ (.int .i64 t434)).setCell ⟨gb438, 9, none⟩ (.int .i64 t435)).setCell ⟨gb438, 10, none⟩ (.string t436)) w.heap.size (fun k_ => (w.heap.size ≤ k_)) (.slice Ao29 t426.length co29) t426) := ⟨by refine rR ?_; exact Kd.R_mono (Kd.R_far (p := ⟨gb438, 10, none⟩) (Kd.R_far (p := ⟨gb438, 9, none⟩) (Kd.R_far (p := ⟨gb438, 8, none⟩) (Kd.R_far (p := ⟨gb438, 7, none⟩) (Kd.R_far (p := ⟨gb438, 6, none⟩) (Kd.R_far (p := ⟨gb438, 5, none⟩) (Kd.R_far (p := ⟨gb438, 4, none⟩) (Kd.R_far (p := ⟨gb438, 3, none⟩) (Kd.R_far (p := ⟨gb438, 2, none⟩) (Kd.R_far (p := ⟨gb438, 1, none⟩) (Kd.R_far (p := ⟨gb438, 0, none⟩) (Kd.R_types HO428.out BK438.out (by decide)) (fun _ hk => hk.2) (.int .i64 t420)) (fun _ hk => hk.2) (.int .i64 t421)) (fun _ hk => hk.2) (.slice Ao26 t422.length co26)) (fun _ hk => hk.2) (.int .i64 t425)) (fun _ hk => hk.2) (.slice Ao29 t426.length co29)) (fun _ hk => hk.2) (.slice Ao31 t429.length co31)) (fun _ hk => hk.2) (.int .i64 t432)) (fun _ hk => hk.2) (.int .i64 t433)) (fun _ hk => hk.2) (.int .i64 t434)) (fun _ hk => hk.2) (.int .i64 t435)) (fun _ hk => hk.2) (.string t436)) (fun _ hk => hk.1)⟩
       have n5_ : Aside0 (Kd.R k106 106 (((((((((((w23.setCell ⟨gb438, 0, none⟩ (.int .i64 t420)).setCell ⟨gb438, 1, none⟩ (.int .i64 t421)).setCell ⟨gb438, 2, none⟩ (.slice Ao26 t422.length co26)).setCell ⟨gb438, 3, none⟩ (.int .i64 t425)).setCell ⟨gb438, 4, none⟩ (.slice Ao29 t426.length co29)).setCell ⟨gb438, 5, none⟩ (.slice Ao31 t429.length co31)).setCell ⟨gb438, 6, none⟩ (.int .i64 t432)).setCell ⟨gb438, 7, none⟩ (.int .i64 t433)).setCell ⟨gb438, 8, none⟩ (.int .i64 t434)).setCell ⟨gb438, 9, none⟩ (.int .i64 t435)).setCell ⟨gb438, 10, none⟩ (.string t436)) w.heap.size (fun k_ => (w.heap.size ≤ k_)) (.slice Ao31 t429.length co31) t429) := ⟨by refine rR ?_; exact Kd.R_mono (Kd.R_far (p := ⟨gb438, 10, none⟩) (Kd.R_far (p := ⟨gb438, 9, none⟩) (Kd.R_far (p := ⟨gb438, 8, none⟩) (Kd.R_far (p := ⟨gb438, 7, none⟩) (Kd.R_far (p := ⟨gb438, 6, none⟩) (Kd.R_far (p := ⟨gb438, 5, none⟩) (Kd.R_far (p := ⟨gb438, 4, none⟩) (Kd.R_far (p := ⟨gb438, 3, none⟩) (Kd.R_far (p := ⟨gb438, 2, none⟩) (Kd.R_far (p := ⟨gb438, 1, none⟩) (Kd.R_far (p := ⟨gb438, 0, none⟩) (Kd.R_types HO431.out BK438.out (by decide)) (fun _ hk => hk.2) (.int .i64 t420)) (fun _ hk => hk.2) (.int .i64 t421)) (fun _ hk => hk.2) (.slice Ao26 t422.length co26)) (fun _ hk => hk.2) (.int .i64 t425)) (fun _ hk => hk.2) (.slice Ao29 t426.length co29)) (fun _ hk => hk.2) (.slice Ao31 t429.length co31)) (fun _ hk => hk.2) (.int .i64 t432)) (fun _ hk => hk.2) (.int .i64 t433)) (fun _ hk => hk.2) (.int .i64 t434)) (fun _ hk => hk.2) (.int .i64 t435)) (fun _ hk => hk.2) (.string t436)) (fun _ hk => hk.1)⟩
       have n6_ : Aside0 ((((((((((((w23.setCell ⟨gb438, 0, none⟩ (.int .i64 t420)).setCell ⟨gb438, 1, none⟩ (.int .i64 t421)).setCell ⟨gb438, 2, none⟩ (.slice Ao26 t422.length co26)).setCell ⟨gb438, 3, none⟩ (.int .i64 t425)).setCell ⟨gb438, 4, none⟩ (.slice Ao29 t426.length co29)).setCell ⟨gb438, 5, none⟩ (.slice Ao31 t429.length co31)).setCell ⟨gb438, 6, none⟩ (.int .i64 t432)).setCell ⟨gb438, 7, none⟩ (.int .i64 t433)).setCell ⟨gb438, 8, none⟩ (.int .i64 t434)).setCell ⟨gb438, 9, none⟩ (.int .i64 t435)).setCell ⟨gb438, 10, none⟩ (.string t436)).heap[gb438]? = some (.cells #[.int .i64 t420, .int .i64 t421, .slice Ao26 t422.length co26, .int .i64 t425, .slice Ao29 t426.length co29, .slice Ao31 t429.length co31, .int .i64 t432, .int .i64 t433, .int .i64 t434, .int .i64 t435, .string t436] 50 (0, 0))) := ⟨by refine rK ?_; refine blk_put (cs := #[.int .i64 t420, .int .i64 t421, .slice Ao26 t422.length co26, .int .i64 t425, .slice Ao29 t426.length co29, .slice Ao31 t429.length co31, .int .i64 t432, .int .i64 t433, .int .i64 t434, .int .i64 t435, .string (⟨#[]⟩ : ByteArray)]) ?_ 10 _ rfl; refine rK ?_; refine blk_put (cs := #[.int .i64 t420, .int .i64 t421, .slice Ao26 t422.length co26, .int .i64 t425, .slice Ao29 t426.length co29, .slice Ao31 t429.length co31, .int .i64 t432, .int .i64 t433, .int .i64 t434, .int .i64 0, .string (⟨#[]⟩ : ByteArray)]) ?_ 9 _ rfl; refine rK ?_; refine blk_put (cs := #[.int .i64 t420, .int .i64 t421, .slice Ao26 t422.length co26, .int .i64 t425, .slice Ao29 t426.length co29, .slice Ao31 t429.length co31, .int .i64 t432, .int .i64 t433, .int .i64 0, .int .i64 0, .string (⟨#[]⟩ : ByteArray)]) ?_ 8 _ rfl; refine rK ?_; refine blk_put (cs := #[.int .i64 t420, .int .i64 t421, .slice Ao26 t422.length co26, .int .i64 t425, .slice Ao29 t426.length co29, .slice Ao31 t429.length co31, .int .i64 t432, .int .i64 0, .int .i64 0, .int .i64 0, .string (⟨#[]⟩ : ByteArray)]) ?_ 7 _ rfl; refine rK ?_; refine blk_put (cs := #[.int .i64 t420, .int .i64 t421, .slice Ao26 t422.length co26, .int .i64 t425, .slice Ao29 t426.length co29, .slice Ao31 t429.length co31, .int .i64 0, .int .i64 0, .int .i64 0, .int .i64 0, .string (⟨#[]⟩ : ByteArray)]) ?_ 6 _ rfl; refine rK ?_; refine blk_put (cs := #[.int .i64 t420, .int .i64 t421, .slice Ao26 t422.length co26, .int .i64 t425, .slice Ao29 t426.length co29, .slice none 0 0, .int .i64 0, .int .i64 0, .int .i64 0, .int .i64 0, .string (⟨#[]⟩ : ByteArray)]) ?_ 5 _ rfl; refine rK ?_; refine blk_put (cs := #[.int .i64 t420, .int .i64 t421, .slice Ao26 t422.length co26, .int .i64 t425, .slice none 0 0, .slice none 0 0, .int .i64 0, .int .i64 0, .int .i64 0, .int .i64 0, .string (⟨#[]⟩ : ByteArray)]) ?_ 4 _ rfl; refine rK ?_; refine blk_put (cs := #[.int .i64 t420, .int .i64 t421, .slice Ao26 t422.length co26, .int .i64 0, .slice none 0 0, .slice none 0 0, .int .i64 0, .int .i64 0, .int .i64 0, .int .i64 0, .string (⟨#[]⟩ : ByteArray)]) ?_ 3 _ rfl; refine rK ?_; refine blk_put (cs := #[.int .i64 t420, .int .i64 t421, .slice none 0 0, .int .i64 0, .slice none 0 0, .slice none 0 0, .int .i64 0, .int .i64 0, .int .i64 0, .int .i64 0, .string (⟨#[]⟩ : ByteArray)]) ?_ 2 _ rfl; refine rK ?_; refine blk_put (cs := #[.int .i64 t420, .int .i64 0, .slice none 0 0, .int .i64 0, .slice none 0 0, .slice none 0 0, .int .i64 0, .int .i64 0, .int .i64 0, .int .i64 0, .string (⟨#[]⟩ : ByteArray)]) ?_ 1 _ rfl; refine rK ?_; refine blk_put (cs := #[.int .i64 0, .int .i64 0, .slice none 0 0, .int .i64 0, .slice none 0 0, .slice none 0 0, .int .i64 0, .int .i64 0, .int .i64 0, .int .i64 0, .string (⟨#[]⟩ : ByteArray)]) ?_ 0 _ rfl; refine rK ?_; exact BK438.out⟩
       have n7_ : Aside0 (Below w.heap.size w (((((((((((w23.setCell ⟨gb438, 0, none⟩ (.int .i64 t420)).setCell ⟨gb438, 1, none⟩ (.int .i64 t421)).setCell ⟨gb438, 2, none⟩ (.slice Ao26 t422.length co26)).setCell ⟨gb438, 3, none⟩ (.int .i64 t425)).setCell ⟨gb438, 4, none⟩ (.slice Ao29 t426.length co29)).setCell ⟨gb438, 5, none⟩ (.slice Ao31 t429.length co31)).setCell ⟨gb438, 6, none⟩ (.int .i64 t432)).setCell ⟨gb438, 7, none⟩ (.int .i64 t433)).setCell ⟨gb438, 8, none⟩ (.int .i64 t434)).setCell ⟨gb438, 9, none⟩ (.int .i64 t435)).setCell ⟨gb438, 10, none⟩ (.string t436))) := ⟨uB HB⟩
       (try clear HO_0); (try clear HO_4); (try clear HO419); (try clear HO424); (try clear HO428); (try clear HO431); (try clear BK438); (try clear HB)
       generalize (((((((((((w23.setCell ⟨gb438, 0, none⟩ (.int .i64 t420)).setCell ⟨gb438, 1, none⟩ (.int .i64 t421)).setCell ⟨gb438, 2, none⟩ (.slice Ao26 t422.length co26)).setCell ⟨gb438, 3, none⟩ (.int .i64 t425)).setCell ⟨gb438, 4, none⟩ (.slice Ao29 t426.length co29)).setCell ⟨gb438, 5, none⟩ (.slice Ao31 t429.length co31)).setCell ⟨gb438, 6, none⟩ (.int .i64 t432)).setCell ⟨gb438, 7, none⟩ (.int .i64 t433)).setCell ⟨gb438, 8, none⟩ (.int .i64 t434)).setCell ⟨gb438, 9, none⟩ (.int .i64 t435)).setCell ⟨gb438, 10, none⟩ (.string t436)) = w38 at n0_ n1_ n2_ n3_ n4_ n5_ n6_ n7_ ⊢
       have HO_0 := n0_; have HO_4 := n1_; have HO419 := n2_; have HO424 := n3_; have HO428 := n4_; have HO431 := n5_; have BK438 := n6_; have HB := n7_; clear n0_ n1_ n2_ n3_ n4_ n5_ n6_ n7_; replace HO_0 := Aside0.mk (Kd.V_drew HO_0.out); replace HO_4 := Aside0.mk (Kd.S_drew HO_4.out); replace HO419 := Aside0.mk (Kd.V_drew HO419.out); replace HO424 := Aside0.mk (Kd.R_drew HO424.out); replace HO428 := Aside0.mk (Kd.R_drew HO428.out); replace HO431 := Aside0.mk (Kd.R_drew HO431.out); replace BK438 := Aside0.mk (blk_drew BK438.out); replace HB := Aside0.mk (below_drew1 HB.out)
       have q40 : ((ji16) : Int) ≤ ((x0_1.length : Int) : Int) := of_decide_eq_true gA
       obtain ⟨i040, hi040, _, hsz40, _⟩ := info_parts info5
       have hroom40 : x0_1.length ≤ co5 := (Kd.V_reads' HO_0.out).2.1
       have hC40 : Kd.F (Kd.int .u8) _ _ (some ad414) x0_1.length x0_1 := (Kd.V_at (base := w.heap.size) HO_0.out).2.2
       have q040 : (0 : Int) ≤ ((ji16) : Int) := of_decide_eq_true gA
       have hcut40 := cut_from (P := Try.prog) 26 5 .i64 Try.underlying26 hi040 1 hsz40 (some ad414) x0_1.length co5 (ji16) q040 q40; have hr40 := Kd.F_cut (m := ((ji16) : Int).toNat) (c := co5) hC40 (by omega) hroom40
       obtain ⟨A40, hA40⟩ : ∃ A1, A1 = (if co5 = ((ji16) : Int).toNat then (some ad414) else ((some ad414) : Option Addr).map (·.add (((ji16) : Int).toNat * 1))) := ⟨_, rfl⟩
       obtain ⟨c40, hc40⟩ : ∃ c1, c1 = co5 - ((ji16) : Int).toNat := ⟨_, rfl⟩
       have hy40 : y442.length = x0_1.length - ((ji16) : Int).toNat := (by rw [Ny442.out, List.length_drop] <;> omega)
       rw [show (x0_1).drop ((ji16) : Int).toNat = y442 from Ny442.out.symm] at hr40
       replace hr40 : Kd.F (Kd.int .u8) _ _ A40 y442.length y442 := (by rw [hA40]; exact hr40)
       rw [← hy40, ← hA40, ← hc40] at hcut40
       have HO446 := Aside0.mk (show Kd.V (Kd.int .u8) 5 _ w.heap.size _ (.slice A40 y442.length c40) y442 from Kd.V_mk (by rw [hy40, hc40]; exact Nat.sub_le_sub_right hroom40 _) hr40); have HC446 := Aside0.mk (show y442.length ≤ c40 from by rw [hy40, hc40]; exact Nat.sub_le_sub_right hroom40 _); clear hr40 hC40 hroom40 hi040 hsz40 hc40; have KY40 := Aside0.mk hy40; have KA40 := Aside0.mk hA40; clear hy40 hA40; replace q40 := eq_true q40
       refine start_ (n := 11) (S := fun w' => w'.cell? ⟨gb438, 0, none⟩ = some (.int .i64 t420) ∧ w'.cell? ⟨gb438, 1, none⟩ = some (.int .i64 t421) ∧ w'.cell? ⟨gb438, 2, none⟩ = some (.slice Ao26 t422.length co26) ∧ w'.cell? ⟨gb438, 3, none⟩ = some (.int .i64 t425) ∧ w'.cell? ⟨gb438, 4, none⟩ = some (.slice Ao29 t426.length co29) ∧ w'.cell? ⟨gb438, 5, none⟩ = some (.slice Ao31 t429.length co31) ∧ w'.cell? ⟨gb438, 6, none⟩ = some (.int .i64 t432) ∧ w'.cell? ⟨gb438, 7, none⟩ = some (.int .i64 t433) ∧ w'.cell? ⟨gb438, 8, none⟩ = some (.int .i64 t434) ∧ w'.cell? ⟨gb438, 9, none⟩ = some (.int .i64 t435) ∧ w'.cell? ⟨gb438, 10, none⟩ = some (.string t436)) (ds := []) #[false, false, false, false, false, false, false, false, false, false, false] (by kernel_rfl) rfl rfl (cA11 BK438) (fun hHeld => ?_)
       refine with_tabW frame_parts.tab9 frame_parts.bits9 (fun HT_ HW_ => ?_)
       generalize w38.drew = w39 at HO_0 HO_4 HO419 HO424 HO428 HO431 BK438 HB HO446 hHeld ⊢
       refine pA 0 (some 45) ?_; refine pA 4 (some 49) ?_; refine pA 5 (some 50) ?_; refine pA 6 (some 51) ?_; refine pA 7 (some 52) ?_; refine pA 8 (some 53) ?_; refine tA 1 (some 46) ?_
       refine oA 2 (some 47) (fun K hK => ?_)
       refine value_ (w1 := ?_) (v := ?_) (by rfl) rfl ?_ ?_
       rotate_left 2
       ·go_simp
        constructor
        ·rfl
        rfl
       refine hK.out _ _ ⟨(blk_cell (blk_alloc BK438.out _) 0).trans rfl, (blk_cell (blk_alloc BK438.out _) 1).trans rfl, (blk_cell (blk_alloc BK438.out _) 2).trans rfl, (blk_cell (blk_alloc BK438.out _) 3).trans rfl, (blk_cell (blk_alloc BK438.out _) 4).trans rfl, (blk_cell (blk_alloc BK438.out _) 5).trans rfl, (blk_cell (blk_alloc BK438.out _) 6).trans rfl, (blk_cell (blk_alloc BK438.out _) 7).trans rfl, (blk_cell (blk_alloc BK438.out _) 8).trans rfl, (blk_cell (blk_alloc BK438.out _) 9).trans rfl, (blk_cell (blk_alloc BK438.out _) 10).trans rfl⟩ (fun hHeld => ?_)
       clear hK K; refine nA 47 ?_
       refine oA 3 (some 48) (fun K hK => ?_)
       refine Kd.S_append_step k50 (w0 := w) w.heap.size (by rfl) (.tmp 45) (.tmp 47) 22 50 (.agg #[(.int .i64 0), (.int .i64 0), (.slice none 0 0), (.int .i64 0), (.slice none 0 0), (.slice none 0 0), (.int .i64 0), (.int .i64 0), (.int .i64 0), (.int .i64 0), (.string ⟨#[]⟩)]) 144 rfl Try.underlying22 info50 rfl (by decide) (by omega) u4 x4_1 (⟨t420, (⟨t421, t422⟩ : S42), (⟨t425, t426⟩ : S45), t429, (⟨t432, t433, t434, t435, t436⟩ : S48)⟩ : S50) [.int .i64 t420, .int .i64 t421, .slice Ao26 t422.length co26, .int .i64 t425, .slice Ao29 t426.length co29, .slice Ao31 t429.length co31, .int .i64 t432, .int .i64 t433, .int .i64 t434, .int .i64 t435, .string t436] (fun k_ => (w.heap.size ≤ k_) ∧ k_ ≠ gb438) (fun k_ => some k_ = (.slice Ao26 t422.length co26 : Value).ownBlock ∨ some k_ = (.slice Ao29 t426.length co29 : Value).ownBlock ∨ some k_ = (.slice Ao31 t429.length co31 : Value).ownBlock) rfl rfl ?aP (fun k_ hk_ => hk_.elim (fun h_ => ((Kd.R_mono (ok' := fun k_ => ((fun k_ => (w.heap.size ≤ k_) ∧ k_ ≠ gb438)) k_ ∧ some k_ ≠ (u4 : Value).ownBlock) (Kd.R_types (Kd.R_apart' (HO424.out) (Kd.S_typed HO_4.out) (by decide)) BK438.out (by decide)) (fun k_ hk => ⟨⟨hk.1.1, hk.2⟩, hk.1.2⟩))).1 k_ h_.symm) (fun h_ => h_.elim (fun h_ => ((Kd.R_mono (ok' := fun k_ => ((fun k_ => (w.heap.size ≤ k_) ∧ k_ ≠ gb438)) k_ ∧ some k_ ≠ (u4 : Value).ownBlock) (Kd.R_types (Kd.R_apart' (HO428.out) (Kd.S_typed HO_4.out) (by decide)) BK438.out (by decide)) (fun k_ hk => ⟨⟨hk.1.1, hk.2⟩, hk.1.2⟩))).1 k_ h_.symm) (fun h_ => ((Kd.R_mono (ok' := fun k_ => ((fun k_ => (w.heap.size ≤ k_) ∧ k_ ≠ gb438)) k_ ∧ some k_ ≠ (u4 : Value).ownBlock) (Kd.R_types (Kd.R_apart' (HO431.out) (Kd.S_typed HO_4.out) (by decide)) BK438.out (by decide)) (fun k_ hk => ⟨⟨hk.1.1, hk.2⟩, hk.1.2⟩))).1 k_ h_.symm))) ?aF ?aO ?aB ?aS ?aL ?_
       (case aP => exact k50_mkM _ _ _ (⟨t420, (⟨t421, t422⟩ : S42), (⟨t425, t426⟩ : S45), t429, (⟨t432, t433, t434, t435, t436⟩ : S48)⟩ : S50) (Kd.R_mono (Kd.R_tight rfl (Kd.R_mono (ok' := fun k_ => ((fun k_ => (w.heap.size ≤ k_) ∧ k_ ≠ gb438)) k_ ∧ some k_ ≠ (u4 : Value).ownBlock) (Kd.R_types (Kd.R_apart' (HO424.out) (Kd.S_typed HO_4.out) (by decide)) BK438.out (by decide)) (fun k_ hk => ⟨⟨hk.1.1, hk.2⟩, hk.1.2⟩))) (fun _ h_ => Or.inl h_)) (Kd.R_mono (Kd.R_tight rfl (Kd.R_mono (ok' := fun k_ => ((fun k_ => (w.heap.size ≤ k_) ∧ k_ ≠ gb438)) k_ ∧ some k_ ≠ (u4 : Value).ownBlock) (Kd.R_types (Kd.R_apart' (HO428.out) (Kd.S_typed HO_4.out) (by decide)) BK438.out (by decide)) (fun k_ hk => ⟨⟨hk.1.1, hk.2⟩, hk.1.2⟩))) (fun _ h_ => Or.inr (Or.inl h_))) (Kd.R_mono (Kd.R_tight rfl (Kd.R_mono (ok' := fun k_ => ((fun k_ => (w.heap.size ≤ k_) ∧ k_ ≠ gb438)) k_ ∧ some k_ ≠ (u4 : Value).ownBlock) (Kd.R_types (Kd.R_apart' (HO431.out) (Kd.S_typed HO_4.out) (by decide)) BK438.out (by decide)) (fun k_ hk => ⟨⟨hk.1.1, hk.2⟩, hk.1.2⟩))) (fun _ h_ => Or.inr (Or.inr (h_)))))
       (case aB => exact (uB HB))
       (case aF => exact (fun k_ hk => ⟨(Nat.le_trans (below_size (uB HB)) hk), Kd.freshB (g := gb438) (o := .cells #[.int .i64 t420, .int .i64 t421, .slice Ao26 t422.length co26, .int .i64 t425, .slice Ao29 t426.length co29, .slice Ao31 t429.length co31, .int .i64 t432, .int .i64 t433, .int .i64 t434, .int .i64 t435, .string t436] 50 (0, 0)) (uK BK438) k_ hk⟩))
       (case aO => exact (by (with_reducible repeat (first | apply Kd.S_alloc | apply Kd.S_drewN | apply Kd.S_drew)); exact Kd.S_mono HO_4.out (fun k_ hk => ⟨⟨hk.1, hk.2.2.2.2⟩, fun e_ => e_.elim (fun h_ => hk.2.1 h_) (fun h_ => h_.elim (fun h_ => hk.2.2.1 h_) (fun h_ => hk.2.2.2.1 h_))⟩)))
       (case aS => exact (below_size (uB HB)))
       (case aL => have := LMc15.out; omega)
       intro v440 w41 ho hb hg hat
       rw [← Ny439.out] at ho
       have n0_ := Aside0.mk (Kd.V_afterv (ok := (fun k_ => (P0_ k_ ∨ w.heap.size ≤ k_) ∧ some k_ ≠ (.slice Ao26 t422.length co26 : Value).ownBlock ∧ some k_ ≠ (.slice Ao29 t426.length co29 : Value).ownBlock ∧ some k_ ≠ (.slice Ao31 t429.length co31 : Value).ownBlock ∧ k_ ≠ gb438)) (by refine rV ?_; exact Kd.V_mono HO_0.out (fun _ hk => by first | exact ⟨⟨hk.1, ⟨hk.2.2.1, ⟨hk.2.2.2.1, ⟨hk.2.2.2.2.1, hk.2.2.2.2.2⟩⟩⟩⟩, hk.2.1⟩ | exact trivial | (simp [hk]; done) | simp_all)) hg hat); have n1_ := Aside0.mk (Kd.V_afterv (ok := (fun k_ => (P0_ k_ ∨ w.heap.size ≤ k_) ∧ some k_ ≠ (.slice Ao26 t422.length co26 : Value).ownBlock ∧ some k_ ≠ (.slice Ao29 t426.length co29 : Value).ownBlock ∧ some k_ ≠ (.slice Ao31 t429.length co31 : Value).ownBlock ∧ k_ ≠ gb438)) (by refine rV ?_; exact Kd.V_mono HO419.out (fun _ hk => by first | exact ⟨⟨hk.1, ⟨hk.2.2.1, ⟨hk.2.2.2.1, ⟨hk.2.2.2.2.1, hk.2.2.2.2.2⟩⟩⟩⟩, hk.2.1⟩ | exact trivial | (simp [hk]; done) | simp_all)) hg hat); have n2_ := Aside0.mk (blk_grown (uK BK438) hg (Kd.S_away HO_4.out (fun _ hk => hk.2.2.2.2))); have n3_ := Aside0.mk (Kd.V_afterv (ok := (fun k_ => (P0_ k_ ∨ w.heap.size ≤ k_) ∧ some k_ ≠ (.slice Ao26 t422.length co26 : Value).ownBlock ∧ some k_ ≠ (.slice Ao29 t426.length co29 : Value).ownBlock ∧ some k_ ≠ (.slice Ao31 t429.length co31 : Value).ownBlock ∧ k_ ≠ gb438)) (by refine rV ?_; exact Kd.V_mono HO446.out (fun _ hk => by first | exact ⟨⟨hk.1, ⟨hk.2.2.1, ⟨hk.2.2.2.1, ⟨hk.2.2.2.2.1, hk.2.2.2.2.2⟩⟩⟩⟩, hk.2.1⟩ | exact trivial | (simp [hk]; done) | simp_all)) hg hat); have n4_ := Aside0.mk (hb); have n5_ := Aside0.mk (ho); clear HO_0; clear HO419; clear BK438; clear HO446; clear HB; clear HO_4; clear HO424; clear HO428; clear HO431; have HO_0 := n0_; have HO419 := n1_; have BK438 := n2_; have HO446 := n3_; have HB := n4_; have HO441 := n5_; clear n0_ n1_ n2_ n3_ n4_ n5_; clear ho hb hg hat
       refine hK.out _ _ (cA11 BK438) (fun hHeld => ?_)
       clear hK K; refine nA 48 ?_; refine pA 9 (some 4) ?_; refine pA 10 (some 0) ?_
       refine dA ?_
       try go_wp2
       go_roundg kj3
       case measure => have := HK1.out; have := HJ3.out; omega
       case rel => exact ⟨(y442), (y439), H', ⟨by have := HK1.out; have := HJ3.out; omega⟩, ⟨by refine rV ?_; exact Kd.V_mono HO446.out (fun _ hk => by first | exact ⟨hk.1.1, hk.2⟩ | exact trivial | (simp [hk]; done) | simp_all)⟩, ⟨by (with_reducible repeat (first | apply Kd.S_alloc | apply Kd.S_drewN | apply Kd.S_drew)); exact Kd.S_mono HO441.out (fun _ hk => by first | exact hk.1 | exact trivial | (simp [hk]; done) | simp_all)⟩, ⟨uB HB⟩⟩
      replace c14 := Bool.eq_false_iff.mpr c14
      subst c14
      rw [if_neg (show ¬ (false = true) by decide)] at H
      exact absurd H (by simp)
   rw [if_neg c2] at H
   have c2b0 : decide (0 < (x0_1.length : Int)) = false := decide_eq_false c2
   have c2b1 : decide (0 < x0_1.length) = false := decide_eq_false (by omega)
   clear c2
   simp only [Option.some.injEq, Prod.mk.injEq] at H
   obtain ⟨rfl, rfl⟩ := H; obtain ⟨Ao42, co42, eo42⟩ := Kd.V_slice HO_0.out
   subst eo42
   go_wp2
   go_ret2
   exact ⟨_, gE, by (with_reducible repeat (first | apply Kd.S_alloc | apply Kd.S_drewN | apply Kd.S_drew)); exact HO_4.out, uB HB⟩
def frame_Parse.j0 : Nat → List Int → Int → Bool → Option (Int × Int × Int × Int × (List (S50)) × Int)
 | 0, _, _, _ => none
 | k + 1, x0, x4, x30 => if x30 = true then (some (0, 0, 0, 0, ([] : List (S50)), 4)) else (if x4 > (x0.length : Int) then (some (0, 0, 0, 0, ([] : List (S50)), 6)) else (if x4 < (x0.length : Int) then (some (0, 0, 0, 0, ([] : List (S50)), 4)) else ((wire_Get.f x0 (wrap64 (x4 - 2)) 2).bind fun bt453 => (if 0 ≤ (wrap64 (x4 - 2)) then (if (wrap64 (x4 - 2)) ≤ (x0.length : Int) then ((wire_Sum.f k (x0.take ((wrap64 (x4 - 2)) : Int).toNat)).bind fun t457 => (if bt453.1 = t457 then ((wire_Get.f x0 4 4).bind fun bt458 => ((wire_Get.f x0 8 4).bind fun bt461 => (if 15 ≤ (wrap64 (x4 - 2)) then ((frame_parts.f k ((x0.take ((wrap64 (x4 - 2)) : Int).toNat).drop 15)).bind fun bt465 => (if 2 < (x0.length : Int) then (if 3 < (x0.length : Int) then (if bt465.2 = true then (if 14 < (x0.length : Int) then (if (bt465.1.length : Int) = (wrap64 (rd x0 14)) then ((frame_Check.f k (wrap64 (rd x0 2)) bt458.1 (wrap64 (rd x0 3)) bt461.1 bt465.1).bind fun t473 => (if t473 = 0 then (some (wrap64 (rd x0 2), bt458.1, wrap64 (rd x0 3), bt461.1, bt465.1, 0)) else (none))) else (none)) else (none)) else (none)) else (none)) else (none))) else (none)))) else (some (0, 0, 0, 0, ([] : List (S50)), 5)))) else (none)) else (none)))))
def frame_Parse.f (k : Nat) (l0 : List Int) : Option (Int × Int × Int × Int × (List (S50)) × Int) := if (l0.length : Int) < 17 then (some (0, 0, 0, 0, ([] : List (S50)), 6)) else ((wire_Get.f l0 12 2).bind fun bt448 => (if 0 < (l0.length : Int) then (if (rd l0 0) = 84 then (if 1 < (l0.length : Int) then (frame_Parse.j0 k l0 bt448.1 ((rd l0 1) != 1)) else (none)) else (frame_Parse.j0 k l0 bt448.1 true)) else (none)))
theorem frame_Parse.mono_l : ∀ k, (∀ y0 y1 y2, LeO (frame_Parse.j0 k y0 y1 y2) (frame_Parse.j0 (k + 1) y0 y1 y2))
 | 0 => fun _ _ _ r h => by simp [frame_Parse.j0] at h
 | k + 1 => by
  have ih0 := frame_Parse.mono_l k
  ·intro y0 y1 y2
   unfold frame_Parse.j0
   repeat' first
   | (with_reducible exact ih0 _ _ _)
   | (with_reducible exact frame_Check.mono _ _ _ _ _ _)
   | (with_reducible exact frame_parts.mono _ _)
   | (with_reducible exact wire_Sum.mono _ _)
   | (with_reducible exact LeO.refl _)
   | (with_reducible exact LeO.none _)
   | (with_reducible refine LeO.ite ?_ ?_)
   | (with_reducible refine LeO.bind ?_ (fun _ => ?_))
   | exact ih0 _ _ _
   | exact frame_Check.mono _ _ _ _ _ _
   | exact frame_parts.mono _ _
   | exact wire_Sum.mono _ _
   | exact LeO.none _
   | refine LeO.ite ?_ ?_
   | refine LeO.bind ?_ (fun _ => ?_)
theorem frame_Parse.mono : ∀ a0 k, LeO (frame_Parse.f k a0) (frame_Parse.f (k + 1) a0) := by
 intro a0 k
 have ih0 := frame_Parse.mono_l k
 unfold frame_Parse.f
 repeat' first
   | (with_reducible exact ih0 _ _ _)
   | (with_reducible exact frame_Check.mono _ _ _ _ _ _)
   | (with_reducible exact frame_parts.mono _ _)
   | (with_reducible exact wire_Sum.mono _ _)
   | (with_reducible exact LeO.refl _)
   | (with_reducible exact LeO.none _)
   | (with_reducible refine LeO.ite ?_ ?_)
   | (with_reducible refine LeO.bind ?_ (fun _ => ?_))
   | exact ih0 _ _ _
   | exact frame_Check.mono _ _ _ _ _ _
   | exact frame_parts.mono _ _
   | exact wire_Sum.mono _ _
   | exact LeO.none _
   | refine LeO.ite ?_ ?_
   | refine LeO.bind ?_ (fun _ => ?_)
def frame_Parse.T17 : Bool × List (List Nat × List Nat) := (true, [([], []), ([0], [0]), ([1], [1]), ([2], [2]), ([], []), ([4], [4]), ([5], [5]), ([6], [6]), ([], []), ([], []), ([], []), ([3, 7, 8, 9, 10], [3, 7, 8, 9, 10]), ([], []), ([12, 11, 0, 1, 2, 3, 4, 5, 6, 7, 8, 9, 10, 11, 12], [11, 12])])
def frame_Parse.B17 : List Nat := [0, 1, 3, 7, 0, 16, 48, 112, 0, 0, 0, 2047, 0, 8191]
theorem frame_Parse.tab17 : rtab .any (opsOf Try.f16 17) = frame_Parse.T17 := by kernel_rfl
theorem frame_Parse.bits17 : waitsOk frame_Parse.T17.2 frame_Parse.B17 = true := by kernel_rfl
theorem frame_Parse.calls (k : Nat) (A0 : Option Addr) (c0 : Nat) (l0 : List Int) (r1 : Int) (r2 : Int) (r3 : Int) (r4 : Int) (r5 : List (S50)) (r6 : Int) (w : World) (hr0 : Kd.C (Kd.int .u8) w A0 l0.length l0) (hc0 : l0.length ≤ c0) (h : frame_Parse.f k l0 = some (r1, r2, r3, r4, r5, r6)) :
  Calls Try.prog 16 #[.slice A0 l0.length c0] w fun e w' => ∃ v4_ : Value, e = .returned (.tuple #[.agg #[.int .i64 r1, .int .i64 r2, .int .i64 r3, .int .i64 r4, v4_], .int .i64 r6]) ∧ Kd.S k50 50 w' w.heap.size (fun _ => True) v4_ r5 ∧ Below w.heap.size w w' := by
 have hu24 := Try.underlying24; have HR0 := Aside0.mk hr0; have HC0 := Aside0.mk hc0; clear hr0 hc0; have HB := Aside0.mk (Below.refl w.heap.size w)
 have H : (if (l0.length : Int) < 17 then (some (0, 0, 0, 0, ([] : List (S50)), 6)) else ((wire_Get.f l0 12 2).bind fun bt448 => (if 0 < (l0.length : Int) then (if (rd l0 0) = 84 then (if 1 < (l0.length : Int) then (frame_Parse.j0 k l0 bt448.1 ((rd l0 1) != 1)) else (none)) else (frame_Parse.j0 k l0 bt448.1 true)) else (none)))) = some (r1, r2, r3, r4, r5, r6) := h
 clear h
 by_cases c2 : (l0.length : Int) < 17
 ·rw [if_pos c2] at H
  have c2b0 := decide_eq_true c2
  have c2b1 : decide (l0.length < 17) = true := decide_eq_true (by omega)
  clear c2
  simp only [Option.some.injEq, Prod.mk.injEq] at H
  obtain ⟨rfl, rfl, rfl, rfl, rfl, rfl⟩ := H
  go_enter Try.func16, Try.ntmps16
  go_wp2_with (first | ((with_reducible refine gate_dst (N := 2) rfl ?_); (try (refine gate_guard (by rfl) ?_; dsimp only)); refine bx #[.int .i64 0, .int .i64 0, .int .i64 0, .int .i64 0, .slice none 0 0] 24 ?_; intro gb447 hg w3 hbox hb; have BK447 := Aside0.mk hbox; have GW447 := ge HB hg; have GE447 := ge HB hg; replace HB := bs HB hb; clear hb hbox hg; obtain ⟨q4_0, q4_1, q4_2, q4_3, q4_4⟩ := cA5 BK447; obtain ⟨f4_0, f4_1, f4_2, f4_3, f4_4⟩ := fA5 BK447))
  refine bodyPost_ret (results_ct rfl _ _ gb447 24 #[.int .i64 0, .int .i64 0, .int .i64 0, .int .i64 0, .slice none 0 0] (0, 0) _ rfl (by refine rK ?_; refine blk_put (cs := #[.int .i64 0, .int .i64 0, .int .i64 0, .int .i64 0, .slice none 0 0]) ?_ 4 _ rfl; refine rK ?_; refine blk_put (cs := #[.int .i64 0, .int .i64 0, .int .i64 0, .int .i64 0, .slice none 0 0]) ?_ 3 _ rfl; refine rK ?_; refine blk_put (cs := #[.int .i64 0, .int .i64 0, .int .i64 0, .int .i64 0, .slice none 0 0]) ?_ 2 _ rfl; refine rK ?_; refine blk_put (cs := #[.int .i64 0, .int .i64 0, .int .i64 0, .int .i64 0, .slice none 0 0]) ?_ 1 _ rfl; refine rK ?_; refine blk_put (cs := #[.int .i64 0, .int .i64 0, .int .i64 0, .int .i64 0, .slice none 0 0]) ?_ 0 _ rfl; refine rK ?_; exact BK447.out) Try.underlying24 rfl (by kernel_rfl)) rfl ?_
  exact ⟨_, gE, by first | exact Kd.S_nil _ _ _ _ _ | exact Kd.N_nil _ _ _ _ _ | exact Kd.V_nil _ _ _ _ _ | exact Kd.Q_nil _ _ _ _ _ | exact Kd.R_nil _ _ _ _ _, uB HB⟩
 rw [if_neg c2] at H
 have c2b0 : decide ((l0.length : Int) < 17) = false := decide_eq_false c2
 have c2b1 : decide (l0.length < 17) = false := decide_eq_false (by omega)
 clear c2; replace H := Option.bind_eq_some_iff.mp H
 obtain ⟨⟨t448, t449, t450⟩, A50, H⟩ := H
 replace H : (if 0 < (l0.length : Int) then (if (rd l0 0) = 84 then (if 1 < (l0.length : Int) then (frame_Parse.j0 k l0 t448 ((rd l0 1) != 1)) else (none)) else (frame_Parse.j0 k l0 t448 true)) else (none)) = some (r1, r2, r3, r4, r5, r6) := H
 have A5 := Aside0.mk A50; clear A50; have HC6 := Aside0.mk H; clear H
 go_enter Try.func16, Try.ntmps16
 go_upto_region 4 with (first | ((with_reducible refine gate_dst (N := 2) rfl ?_); (try (refine gate_guard (by rfl) ?_; dsimp only)); refine bx #[.int .i64 0, .int .i64 0, .int .i64 0, .int .i64 0, .slice none 0 0] 24 ?_; intro gb447 hg w7 hbox hb; have BK447 := Aside0.mk hbox; have GW447 := ge HB hg; have GE447 := ge HB hg; replace HB := bs HB hb; clear hb hbox hg) | ((with_reducible refine gate_callee (f := 27) rfl ?_); refine gL (some 26) Try.func27 #[.slice A0 l0.length c0, .int .i64 12, .int .i64 2] ?_; (with_reducible refine (wire_Get.calls _ _ l0 12 2 t448 t449 t450 _ ?side1 ?side2 A5.out).mono ?_); (case side1 => repeat (first | exact (Kd.C_below HR0.out HB.out) | (with_reducible refine Kd.C_alloc ?_ _) | (with_reducible refine Kd.C_drewN ?_ _) | (with_reducible refine Kd.C_drew ?_))); (case side2 => exact HC0.out); rintro e w8 ⟨rfl, hb⟩; refine ⟨_, rfl, ?_⟩; replace BK447 := kb BK447 hb; replace HB := bs HB hb; (try clear hb); (try clear hb2); (try clear hk); (try clear hi)))
 (try simp only [Act.put, List.setIfInBounds_toArray, List.set_cons_zero, List.set_cons_succ])
 go_cut [30] (fun v30 wc => ∃ (kq : Nat) (x30_5 : Bool), v30 = .bool x30_5 ∧ Aside0 (frame_Parse.j0 kq l0 t448 x30_5 = some (r1, r2, r3, r4, r5, r6)) ∧ Aside0 (kq ≤ k) ∧ Aside0 (wc.heap[gb447]? = some (.cells #[.int .i64 0, .int .i64 0, .int .i64 0, .int .i64 0, (.slice none 0 0)] 24 (0, 0))) ∧ Aside0 (Below w.heap.size w wc))
 case first =>
  have H := HC6.out
  clear HC6
  by_cases c9 : 0 < (l0.length : Int)
  rotate_left
  ·rw [if_neg c9] at H
   exact absurd H (by simp)
  rw [if_pos c9] at H; have c9b0 := decide_eq_true c9
  have c9b1 : decide (0 < l0.length) = true := decide_eq_true (by omega)
  clear c9
  (first | rw [c9b0] | (simp only [i64_w, i32_w]; rw [c9b0]) | rw [c9b1] | skip)
  by_cases c10 : (rd l0 0) = 84
  ·rw [if_pos c10] at H
   have c10b0 : ((rd l0 0) == 84) = true := beq_iff_eq.mpr c10
   have c10b1 : ((rd l0 0) != 84) = false := bne_eq_false_iff_eq.mpr c10
   clear c10
   by_cases c11 : 1 < (l0.length : Int)
   rotate_left
   ·rw [if_neg c11] at H
    exact absurd H (by simp)
   rw [if_pos c11] at H; have c11b0 := decide_eq_true c11
   have c11b1 : decide (1 < l0.length) = true := decide_eq_true (by omega)
   clear c11
   have H' := Aside0.mk H
   clear H
   have p451 : 0 ≤ (0 : Int) := (by omega)
   have q451 : 0 < (l0.length : Int) := of_decide_eq_true gA
   obtain ⟨ad451, e451, hx451_0⟩ := Kd.at_int HR0.out 0 p451 q451
   cases e451
   have qi451 : (0 < l0.length) = True := eq_true (by omega)
   (try rw [show ((0 : Int)).toNat = 0 from rfl] at hx451_0)
   (try rw [Addr.add_zero'] at hx451_0)
   replace hx451_0 := bc HB hx451_0; replace p451 := eq_true p451; replace q451 := eq_true q451
   have p452 : 0 ≤ (1 : Int) := (by omega)
   have q452 : 1 < (l0.length : Int) := of_decide_eq_true gA
   obtain ⟨ad452, e452, hx452_0⟩ := Kd.at_int HR0.out 1 p452 q452
   obtain rfl : ad451 = ad452 := (by injection e452)
   (try simp only [show (1 : Int).toNat = 1 from rfl, Nat.reduceMul, Nat.reduceEqDiff, Go.Addr.add, ↓reduceIte] at hx452_0)
   have qi452 : (1 < l0.length) = True := eq_true (by omega)
   (try rw [show ((1 : Int)).toNat = 1 from rfl] at hx452_0)
   replace hx452_0 := bc HB hx452_0; replace p452 := eq_true p452; replace q452 := eq_true q452
   go_wp2
   go_meet
   case rel => exact ⟨_, (((rd l0 1) != 1)), gv, H', ⟨by first | omega | exact Nat.le_refl _⟩, ⟨uK BK447⟩, ⟨uB HB⟩⟩
  rw [if_neg c10] at H
  have c10b0 : ((rd l0 0) == 84) = false := beq_eq_false_iff_ne.mpr c10
  have c10b1 : ((rd l0 0) != 84) = true := bne_iff_ne.mpr c10
  have H' := Aside0.mk H
  clear H
  have p451 : 0 ≤ (0 : Int) := (by omega)
  have q451 : 0 < (l0.length : Int) := of_decide_eq_true gA
  obtain ⟨ad451, e451, hx451_0⟩ := Kd.at_int HR0.out 0 p451 q451
  cases e451
  have qi451 : (0 < l0.length) = True := eq_true (by omega)
  (try rw [show ((0 : Int)).toNat = 0 from rfl] at hx451_0)
  (try rw [Addr.add_zero'] at hx451_0)
  replace hx451_0 := bc HB hx451_0; replace p451 := eq_true p451; replace q451 := eq_true q451
  go_wp2
  go_meet
  case rel => exact ⟨_, (true), gv, H', ⟨by first | omega | exact Nat.le_refl _⟩, ⟨uK BK447⟩, ⟨uB HB⟩⟩
 case rest =>
  clear HC6; (try clear c1); (try clear c2); (try clear c2b0); (try clear c2b1); (try clear p2); (try clear p4); (try clear q4); (try clear hx4); (try clear qi4); (try clear c9); (try clear c9b0); (try clear c9b1); (try clear c10); (try clear c10b0); (try clear c10b1); (try clear c11); (try clear c11b0); (try clear c11b1); (try clear q4_0); (try clear q4_1); (try clear q4_2); (try clear q4_3); (try clear q4_4); (try clear f4_0); (try clear f4_1); (try clear f4_2); (try clear f4_3); (try clear f4_4); (try clear hx451_0); (try clear hx452_0); (try clear p451); (try clear p452); (try clear q451); (try clear q452); obtain ⟨kq, x30_5, rfl, HA, HJ5, BK447, HB⟩ := hcut
  cases kq with
  | zero => exact absurd HA.out (by simp [frame_Parse.j0])
  | succ kj5 =>
   have H := HA.out
   clear HA
   simp only [frame_Parse.j0] at H
   by_cases c12 : x30_5 = true
   ·subst c12
    rw [if_pos rfl] at H
    simp only [Option.some.injEq, Prod.mk.injEq] at H
    obtain ⟨rfl, rfl, rfl, rfl, rfl, rfl⟩ := H; obtain ⟨q13_0, q13_1, q13_2, q13_3, q13_4⟩ := cA5 BK447; obtain ⟨f13_0, f13_1, f13_2, f13_3, f13_4⟩ := fA5 BK447
    go_wp2
    refine bodyPost_ret (results_ct rfl _ _ gb447 24 #[.int .i64 0, .int .i64 0, .int .i64 0, .int .i64 0, .slice none 0 0] (0, 0) _ rfl (by refine rK ?_; refine blk_put (cs := #[.int .i64 0, .int .i64 0, .int .i64 0, .int .i64 0, .slice none 0 0]) ?_ 4 _ rfl; refine rK ?_; refine blk_put (cs := #[.int .i64 0, .int .i64 0, .int .i64 0, .int .i64 0, .slice none 0 0]) ?_ 3 _ rfl; refine rK ?_; refine blk_put (cs := #[.int .i64 0, .int .i64 0, .int .i64 0, .int .i64 0, .slice none 0 0]) ?_ 2 _ rfl; refine rK ?_; refine blk_put (cs := #[.int .i64 0, .int .i64 0, .int .i64 0, .int .i64 0, .slice none 0 0]) ?_ 1 _ rfl; refine rK ?_; refine blk_put (cs := #[.int .i64 0, .int .i64 0, .int .i64 0, .int .i64 0, .slice none 0 0]) ?_ 0 _ rfl; refine rK ?_; exact BK447.out) Try.underlying24 rfl (by kernel_rfl)) rfl ?_
    exact ⟨_, gE, by first | exact Kd.S_nil _ _ _ _ _ | exact Kd.N_nil _ _ _ _ _ | exact Kd.V_nil _ _ _ _ _ | exact Kd.Q_nil _ _ _ _ _ | exact Kd.R_nil _ _ _ _ _, uB HB⟩
   replace c12 := Bool.eq_false_iff.mpr c12
   subst c12
   rw [if_neg (show ¬ (false = true) by decide)] at H
   by_cases c14 : t448 > (l0.length : Int)
   ·rw [if_pos c14] at H
    have c14b0 : decide ((l0.length : Int) < t448) = true := decide_eq_true c14
    clear c14
    simp only [Option.some.injEq, Prod.mk.injEq] at H
    obtain ⟨rfl, rfl, rfl, rfl, rfl, rfl⟩ := H; obtain ⟨q15_0, q15_1, q15_2, q15_3, q15_4⟩ := cA5 BK447; obtain ⟨f15_0, f15_1, f15_2, f15_3, f15_4⟩ := fA5 BK447
    go_wp2
    refine bodyPost_ret (results_ct rfl _ _ gb447 24 #[.int .i64 0, .int .i64 0, .int .i64 0, .int .i64 0, .slice none 0 0] (0, 0) _ rfl (by refine rK ?_; refine blk_put (cs := #[.int .i64 0, .int .i64 0, .int .i64 0, .int .i64 0, .slice none 0 0]) ?_ 4 _ rfl; refine rK ?_; refine blk_put (cs := #[.int .i64 0, .int .i64 0, .int .i64 0, .int .i64 0, .slice none 0 0]) ?_ 3 _ rfl; refine rK ?_; refine blk_put (cs := #[.int .i64 0, .int .i64 0, .int .i64 0, .int .i64 0, .slice none 0 0]) ?_ 2 _ rfl; refine rK ?_; refine blk_put (cs := #[.int .i64 0, .int .i64 0, .int .i64 0, .int .i64 0, .slice none 0 0]) ?_ 1 _ rfl; refine rK ?_; refine blk_put (cs := #[.int .i64 0, .int .i64 0, .int .i64 0, .int .i64 0, .slice none 0 0]) ?_ 0 _ rfl; refine rK ?_; exact BK447.out) Try.underlying24 rfl (by kernel_rfl)) rfl ?_
    exact ⟨_, gE, by first | exact Kd.S_nil _ _ _ _ _ | exact Kd.N_nil _ _ _ _ _ | exact Kd.V_nil _ _ _ _ _ | exact Kd.Q_nil _ _ _ _ _ | exact Kd.R_nil _ _ _ _ _, uB HB⟩
   rw [if_neg c14] at H
   have c14b0 : decide ((l0.length : Int) < t448) = false := decide_eq_false c14
   clear c14
   by_cases c16 : t448 < (l0.length : Int)
   ·rw [if_pos c16] at H
    have c16b0 := decide_eq_true c16; clear c16
    simp only [Option.some.injEq, Prod.mk.injEq] at H
    obtain ⟨rfl, rfl, rfl, rfl, rfl, rfl⟩ := H; obtain ⟨q17_0, q17_1, q17_2, q17_3, q17_4⟩ := cA5 BK447; obtain ⟨f17_0, f17_1, f17_2, f17_3, f17_4⟩ := fA5 BK447
    go_wp2
    refine bodyPost_ret (results_ct rfl _ _ gb447 24 #[.int .i64 0, .int .i64 0, .int .i64 0, .int .i64 0, .slice none 0 0] (0, 0) _ rfl (by refine rK ?_; refine blk_put (cs := #[.int .i64 0, .int .i64 0, .int .i64 0, .int .i64 0, .slice none 0 0]) ?_ 4 _ rfl; refine rK ?_; refine blk_put (cs := #[.int .i64 0, .int .i64 0, .int .i64 0, .int .i64 0, .slice none 0 0]) ?_ 3 _ rfl; refine rK ?_; refine blk_put (cs := #[.int .i64 0, .int .i64 0, .int .i64 0, .int .i64 0, .slice none 0 0]) ?_ 2 _ rfl; refine rK ?_; refine blk_put (cs := #[.int .i64 0, .int .i64 0, .int .i64 0, .int .i64 0, .slice none 0 0]) ?_ 1 _ rfl; refine rK ?_; refine blk_put (cs := #[.int .i64 0, .int .i64 0, .int .i64 0, .int .i64 0, .slice none 0 0]) ?_ 0 _ rfl; refine rK ?_; exact BK447.out) Try.underlying24 rfl (by kernel_rfl)) rfl ?_
    exact ⟨_, gE, by first | exact Kd.S_nil _ _ _ _ _ | exact Kd.N_nil _ _ _ _ _ | exact Kd.V_nil _ _ _ _ _ | exact Kd.Q_nil _ _ _ _ _ | exact Kd.R_nil _ _ _ _ _, uB HB⟩
   rw [if_neg c16] at H
   have c16b0 : decide (t448 < (l0.length : Int)) = false := decide_eq_false c16
   clear c16; replace H := Option.bind_eq_some_iff.mp H
   obtain ⟨⟨t453, t454, t455⟩, A180, H⟩ := H
   replace H : (if 0 ≤ (wrap64 (t448 - 2)) then (if (wrap64 (t448 - 2)) ≤ (l0.length : Int) then ((wire_Sum.f kj5 (l0.take ((wrap64 (t448 - 2)) : Int).toNat)).bind fun t457 => (if t453 = t457 then ((wire_Get.f l0 4 4).bind fun bt458 => ((wire_Get.f l0 8 4).bind fun bt461 => (if 15 ≤ (wrap64 (t448 - 2)) then ((frame_parts.f kj5 ((l0.take ((wrap64 (t448 - 2)) : Int).toNat).drop 15)).bind fun bt465 => (if 2 < (l0.length : Int) then (if 3 < (l0.length : Int) then (if bt465.2 = true then (if 14 < (l0.length : Int) then (if (bt465.1.length : Int) = (wrap64 (rd l0 14)) then ((frame_Check.f kj5 (wrap64 (rd l0 2)) bt458.1 (wrap64 (rd l0 3)) bt461.1 bt465.1).bind fun t473 => (if t473 = 0 then (some (wrap64 (rd l0 2), bt458.1, wrap64 (rd l0 3), bt461.1, bt465.1, 0)) else (none))) else (none)) else (none)) else (none)) else (none)) else (none))) else (none)))) else (some (0, 0, 0, 0, ([] : List (S50)), 5)))) else (none)) else (none)) = some (r1, r2, r3, r4, r5, r6) := H
   have A18 := Aside0.mk A180; clear A180
   obtain ⟨ji19, hji19⟩ : ∃ j_ : Int, (wrap64 (t448 - 2)) = j_ := ⟨_, rfl⟩
   replace H : (if 0 ≤ (ji19) then (if (ji19) ≤ (l0.length : Int) then ((wire_Sum.f kj5 (l0.take ((ji19) : Int).toNat)).bind fun t457 => (if t453 = t457 then ((wire_Get.f l0 4 4).bind fun bt458 => ((wire_Get.f l0 8 4).bind fun bt461 => (if 15 ≤ (ji19) then ((frame_parts.f kj5 ((l0.take ((ji19) : Int).toNat).drop 15)).bind fun bt465 => (if 2 < (l0.length : Int) then (if 3 < (l0.length : Int) then (if bt465.2 = true then (if 14 < (l0.length : Int) then (if (bt465.1.length : Int) = (wrap64 (rd l0 14)) then ((frame_Check.f kj5 (wrap64 (rd l0 2)) bt458.1 (wrap64 (rd l0 3)) bt461.1 bt465.1).bind fun t473 => (if t473 = 0 then (some (wrap64 (rd l0 2), bt458.1, wrap64 (rd l0 3), bt461.1, bt465.1, 0)) else (none))) else (none)) else (none)) else (none)) else (none)) else (none))) else (none)))) else (some (0, 0, 0, 0, ([] : List (S50)), 5)))) else (none)) else (none)) = some (r1, r2, r3, r4, r5, r6) := by first | (rw [hji19] at H; exact H) | (simp only [hji19] at H ⊢; exact H)
   (try rw [hji19] at A18)
   have hji19w : (IntKind.i64.wrap (t448 - 2)) = ji19 := (i64_w _).trans hji19
   by_cases c20 : 0 ≤ (ji19)
   rotate_left
   ·rw [if_neg c20] at H
    exact absurd H (by simp)
   rw [if_pos c20] at H; have c20b0 := eq_true c20; have c20b1 := decide_eq_true c20; clear c20
   by_cases c21 : (ji19) ≤ (l0.length : Int)
   rotate_left
   ·rw [if_neg c21] at H
    exact absurd H (by simp)
   rw [if_pos c21] at H; have c21b0 := eq_true c21; have c21b1 := decide_eq_true c21; clear c21; replace H := Option.bind_eq_some_iff.mp H; obtain ⟨t457, A220, H⟩ := H
   replace H : (if t453 = t457 then ((wire_Get.f l0 4 4).bind fun bt458 => ((wire_Get.f l0 8 4).bind fun bt461 => (if 15 ≤ (ji19) then ((frame_parts.f kj5 ((l0.take ((ji19) : Int).toNat).drop 15)).bind fun bt465 => (if 2 < (l0.length : Int) then (if 3 < (l0.length : Int) then (if bt465.2 = true then (if 14 < (l0.length : Int) then (if (bt465.1.length : Int) = (wrap64 (rd l0 14)) then ((frame_Check.f kj5 (wrap64 (rd l0 2)) bt458.1 (wrap64 (rd l0 3)) bt461.1 bt465.1).bind fun t473 => (if t473 = 0 then (some (wrap64 (rd l0 2), bt458.1, wrap64 (rd l0 3), bt461.1, bt465.1, 0)) else (none))) else (none)) else (none)) else (none)) else (none)) else (none))) else (none)))) else (some (0, 0, 0, 0, ([] : List (S50)), 5))) = some (r1, r2, r3, r4, r5, r6) := H
   have A22 := Aside0.mk A220; clear A220
   by_cases c23 : t453 = t457
   ·rw [if_pos c23] at H
    have c23b0 : (t453 == t457) = true := beq_iff_eq.mpr c23
    have c23b1 : (t453 != t457) = false := bne_eq_false_iff_eq.mpr c23
    clear c23; replace H := Option.bind_eq_some_iff.mp H
    obtain ⟨⟨t458, t459, t460⟩, A240, H⟩ := H
    replace H : ((wire_Get.f l0 8 4).bind fun bt461 => (if 15 ≤ (ji19) then ((frame_parts.f kj5 ((l0.take ((ji19) : Int).toNat).drop 15)).bind fun bt465 => (if 2 < (l0.length : Int) then (if 3 < (l0.length : Int) then (if bt465.2 = true then (if 14 < (l0.length : Int) then (if (bt465.1.length : Int) = (wrap64 (rd l0 14)) then ((frame_Check.f kj5 (wrap64 (rd l0 2)) t458 (wrap64 (rd l0 3)) bt461.1 bt465.1).bind fun t473 => (if t473 = 0 then (some (wrap64 (rd l0 2), t458, wrap64 (rd l0 3), bt461.1, bt465.1, 0)) else (none))) else (none)) else (none)) else (none)) else (none)) else (none))) else (none))) = some (r1, r2, r3, r4, r5, r6) := H
    have A24 := Aside0.mk A240; clear A240; replace H := Option.bind_eq_some_iff.mp H
    obtain ⟨⟨t461, t462, t463⟩, A250, H⟩ := H
    replace H : (if 15 ≤ (ji19) then ((frame_parts.f kj5 ((l0.take ((ji19) : Int).toNat).drop 15)).bind fun bt465 => (if 2 < (l0.length : Int) then (if 3 < (l0.length : Int) then (if bt465.2 = true then (if 14 < (l0.length : Int) then (if (bt465.1.length : Int) = (wrap64 (rd l0 14)) then ((frame_Check.f kj5 (wrap64 (rd l0 2)) t458 (wrap64 (rd l0 3)) t461 bt465.1).bind fun t473 => (if t473 = 0 then (some (wrap64 (rd l0 2), t458, wrap64 (rd l0 3), t461, bt465.1, 0)) else (none))) else (none)) else (none)) else (none)) else (none)) else (none))) else (none)) = some (r1, r2, r3, r4, r5, r6) := H
    have A25 := Aside0.mk A250; clear A250
    by_cases c26 : 15 ≤ (ji19)
    rotate_left
    ·rw [if_neg c26] at H
     exact absurd H (by simp)
    rw [if_pos c26] at H; have c26b0 := eq_true c26; have c26b1 := decide_eq_true c26; clear c26; have c27b0 := eq_true (of_decide_eq_true gA : (ji19) ≤ (l0.length : Int)); replace H := Option.bind_eq_some_iff.mp H
    obtain ⟨⟨t465, t468⟩, A280, H⟩ := H
    replace H : (if 2 < (l0.length : Int) then (if 3 < (l0.length : Int) then (if t468 = true then (if 14 < (l0.length : Int) then (if (t465.length : Int) = (wrap64 (rd l0 14)) then ((frame_Check.f kj5 (wrap64 (rd l0 2)) t458 (wrap64 (rd l0 3)) t461 t465).bind fun t473 => (if t473 = 0 then (some (wrap64 (rd l0 2), t458, wrap64 (rd l0 3), t461, t465, 0)) else (none))) else (none)) else (none)) else (none)) else (none)) else (none)) = some (r1, r2, r3, r4, r5, r6) := H
    have A28 := Aside0.mk A280; clear A280
    by_cases c29 : 2 < (l0.length : Int)
    rotate_left
    ·rw [if_neg c29] at H
     exact absurd H (by simp)
    rw [if_pos c29] at H; have c29b0 := decide_eq_true c29
    have c29b1 : decide (2 < l0.length) = true := decide_eq_true (by omega)
    clear c29
    by_cases c30 : 3 < (l0.length : Int)
    rotate_left
    ·rw [if_neg c30] at H
     exact absurd H (by simp)
    rw [if_pos c30] at H; have c30b0 := decide_eq_true c30
    have c30b1 : decide (3 < l0.length) = true := decide_eq_true (by omega)
    clear c30
    by_cases c31 : t468 = true
    ·subst c31
     rw [if_pos rfl] at H
     by_cases c32 : 14 < (l0.length : Int)
     rotate_left
     ·rw [if_neg c32] at H
      exact absurd H (by simp)
     rw [if_pos c32] at H; have c32b0 := decide_eq_true c32
     have c32b1 : decide (14 < l0.length) = true := decide_eq_true (by omega)
     clear c32
     by_cases c33 : (t465.length : Int) = (wrap64 (rd l0 14))
     rotate_left
     ·rw [if_neg c33] at H
      exact absurd H (by simp)
     rw [if_pos c33] at H
     have c33b0 : ((t465.length : Int) == (wrap64 (rd l0 14))) = true := beq_iff_eq.mpr c33
     have c33b1 : ((t465.length : Int) != (wrap64 (rd l0 14))) = false := bne_eq_false_iff_eq.mpr c33
     clear c33; replace H := Option.bind_eq_some_iff.mp H; obtain ⟨t473, A340, H⟩ := H
     replace H : (if t473 = 0 then (some (wrap64 (rd l0 2), t458, wrap64 (rd l0 3), t461, t465, 0)) else (none)) = some (r1, r2, r3, r4, r5, r6) := H
     have A34 := Aside0.mk A340; clear A340
     by_cases c35 : t473 = 0
     rotate_left
     ·rw [if_neg c35] at H
      exact absurd H (by simp)
     rw [if_pos c35] at H
     have c35b0 : (t473 == 0) = true := beq_iff_eq.mpr c35
     have c35b1 : (t473 != 0) = false := bne_eq_false_iff_eq.mpr c35
     clear c35
     simp only [Option.some.injEq, Prod.mk.injEq] at H
     obtain ⟨rfl, rfl, rfl, rfl, rfl, rfl⟩ := H
     try go_wp2_with (first | ((with_reducible refine gate_callee (f := 27) rfl ?_); refine gL (some 59) Try.func27 #[.slice A0 l0.length c0, .int .i64 ji19, .int .i64 2] ?_ (hargs := by (try simp only [List.map_toArray, List.map_cons, List.map_nil]); first | done | (simp only [hji19]; rfl) | rfl | (simp only [List.length_drop, List.length_take]; rfl)); (with_reducible refine (wire_Get.calls _ _ l0 ji19 2 t453 t454 t455 _ ?side1 ?side2 A18.out).mono ?_); (case side1 => repeat (first | exact (Kd.C_below HR0.out HB.out) | (with_reducible refine Kd.C_alloc ?_ _) | (with_reducible refine Kd.C_drewN ?_ _) | (with_reducible refine Kd.C_drew ?_))); (case side2 => exact HC0.out); rintro e w36 ⟨rfl, hb⟩; refine ⟨_, rfl, ?_⟩; replace BK447 := kb BK447 hb; replace HB := bs HB hb; (try clear hb); (try clear hb2); (try clear hk); (try clear hi); obtain ⟨i037, hi037, _, hsz37, _⟩ := info_parts info5; obtain ⟨hcut37, hA37, hC37⟩ := print_take_of (P := Try.prog) (Value.int .u8) 0 26 5 .i64 Try.underlying26 hi037 hsz37 A0 c0 l0 (ji19) (of_decide_eq_true gA) (of_decide_eq_true gA) HC0.out; have HR456 := Aside0.mk (Kd.C_of_reads (h1 := fun _ => rfl) (hA37 _ (Kd.reads_of_C HR0.out))); have HC456 := Aside0.mk hC37; clear hA37 hC37 hi037 hsz37) | ((with_reducible refine gate_callee (f := 22) rfl ?_); refine goesL_ (some 67) rfl rfl Try.func22 (by kernel_rfl) rfl #[.slice A0 (l0.take ((ji19) : Int).toNat).length c0] rfl (by (try simp only [List.map_toArray, List.map_cons, List.map_nil]); first | done | (rw [show (l0.take ((ji19) : Int).toNat).length = (ji19).toNat from (by rw [List.length_take]; have h_ : ((ji19) : Int) ≤ (l0.length : Int) := of_decide_eq_true gA; omega)] <;> rfl) | (simp only [hji19]; rfl) | rfl | (simp only [List.length_drop, List.length_take]; rfl)) ?_; (with_reducible refine (wire_Sum.calls kj5 _ _ (l0.take ((ji19) : Int).toNat) t457 _ ?side1 ?side2 A22.out).mono ?_); (case side1 => repeat (first | exact (Kd.C_below HR456.out HB.out) | (with_reducible refine Kd.C_alloc ?_ _) | (with_reducible refine Kd.C_drewN ?_ _) | (with_reducible refine Kd.C_drew ?_))); (case side2 => exact HC456.out); rintro e w' ⟨rfl, ⟨nd, rfl⟩⟩; refine ⟨_, rfl, ?_⟩; (try (rw [drewN_self w36]; generalize hq_ : World.drewN w36 _ = w36; have n0_ : Aside0 (w36.heap[gb447]? = some (.cells #[.int .i64 0, .int .i64 0, .int .i64 0, .int .i64 0, .slice none 0 0] 24 (0, 0))) := ⟨by rw [← hq_]; exact (uK BK447)⟩; have n1_ : Aside0 (Below w.heap.size w w36) := ⟨by rw [← hq_]; exact (uB HB)⟩; clear BK447 HB hq_; have BK447 := n0_; have HB := n1_; clear n0_ n1_))) | ((with_reducible refine gate_callee (f := 27) rfl ?_); refine gL (some 72) Try.func27 #[.slice A0 l0.length c0, .int .i64 4, .int .i64 4] ?_; (with_reducible refine (wire_Get.calls _ _ l0 4 4 t458 t459 t460 _ ?side1 ?side2 A24.out).mono ?_); (case side1 => repeat (first | exact (Kd.C_below HR0.out HB.out) | (with_reducible refine Kd.C_alloc ?_ _) | (with_reducible refine Kd.C_drewN ?_ _) | (with_reducible refine Kd.C_drew ?_))); (case side2 => exact HC0.out); rintro e w38 ⟨rfl, hb⟩; refine ⟨_, rfl, ?_⟩; replace BK447 := kb BK447 hb; replace HB := bs HB hb; (try clear hb); (try clear hb2); (try clear hk); (try clear hi)) | ((with_reducible refine gate_callee (f := 27) rfl ?_); refine gL (some 78) Try.func27 #[.slice A0 l0.length c0, .int .i64 8, .int .i64 4] ?_; (with_reducible refine (wire_Get.calls _ _ l0 8 4 t461 t462 t463 _ ?side1 ?side2 A25.out).mono ?_); (case side1 => repeat (first | exact (Kd.C_below HR0.out HB.out) | (with_reducible refine Kd.C_alloc ?_ _) | (with_reducible refine Kd.C_drewN ?_ _) | (with_reducible refine Kd.C_drew ?_))); (case side2 => exact HC0.out); rintro e w39 ⟨rfl, hb⟩; refine ⟨_, rfl, ?_⟩; replace BK447 := kb BK447 hb; replace HB := bs HB hb; (try clear hb); (try clear hb2); (try clear hk); (try clear hi); obtain ⟨i040, hi040, _, hsz40, _⟩ := info_parts info5; obtain ⟨A40, hcut40, hA40, hC40⟩ := print_mid_of (P := Try.prog) (Value.int .u8) 0 26 5 .i64 .i64 Try.underlying26 hi040 hsz40 A0 c0 l0 15 (ji19) (by omega) (by first | omega | exact of_decide_eq_true gA) (of_decide_eq_true gA) HC0.out; have HR464 := Aside0.mk (Kd.C_of_reads (h1 := fun _ => rfl) (hA40 _ (Kd.reads_of_C HR0.out))); have HC464 := Aside0.mk hC40; clear hA40 hC40 hi040 hsz40) | ((with_reducible refine gate_callee (f := 28) rfl ?_); refine goesL_ (some 86) rfl rfl Try.func28 (by kernel_rfl) rfl #[.slice A40 ((l0.take ((ji19) : Int).toNat).drop 15).length (c0 - 15)] rfl (by (try simp only [List.map_toArray, List.map_cons, List.map_nil]); first | done | (rw [show ((l0.take ((ji19) : Int).toNat).drop 15).length = ((ji19).toNat - 15) from (by rw [List.length_drop, List.length_take]; have h_ : ((ji19) : Int) ≤ (l0.length : Int) := of_decide_eq_true gA; omega)] <;> rfl) | (simp only [hji19]; rfl) | rfl | (simp only [List.length_drop, List.length_take]; rfl)) ?_; (with_reducible refine (frame_parts.calls kj5 (fun k_ => k_ < w.heap.size) _ _ ((l0.take ((ji19) : Int).toNat).drop 15) t465 true _ ?side1 A28.out).mono ?_); (case side1 => exact Kd.V_mk HC464.out (Kd.F_below (Kd.C_F (Kd.heap_int .u8) HR464.out) (uB HB))); rintro e w41 ⟨v466, rfl, ho0, hb⟩; refine ⟨_, rfl, ?_⟩; have HO467 := Aside0.mk (Kd.S_lower (Kd.S_mono (ok' := fun k_ => True) ho0 (fun _ hk_ => trivial)) (below_size (uB HB))); replace BK447 := kb BK447 hb; replace HB := bs HB hb; (try clear hb); (try clear hb2); (try clear hk); (try clear hi); (try clear ho0)))
     replace HO467 := Aside0.mk (Kd.S_drew HO467.out); replace BK447 := Aside0.mk (blk_drew BK447.out); replace HB := Aside0.mk (below_drew1 HB.out)
     have p469 : 0 ≤ (2 : Int) := (by omega)
     have q469 : 2 < (l0.length : Int) := of_decide_eq_true gA
     obtain ⟨ad469, e469, hx469_0⟩ := Kd.at_int HR0.out 2 p469 q469; have hw469_0 := hx469_0
     (try rw [show ((2 : Int)).toNat = 2 from rfl] at hw469_0)
     (try rw [show 2 * 1 = 2 from rfl] at hw469_0)
     (try simp only [Nat.reduceMul, Nat.reduceEqDiff, Go.Addr.add, ↓reduceIte] at hw469_0)
     cases e469
     (try simp only [show (2 : Int).toNat = 2 from rfl, Nat.reduceMul, Nat.reduceEqDiff, Go.Addr.add, ↓reduceIte] at hx469_0)
     have qi469 : (2 < l0.length) = True := eq_true (by omega)
     (try rw [show ((2 : Int)).toNat = 2 from rfl] at hx469_0)
     replace hx469_0 := bc HB hx469_0; replace p469 := eq_true p469; replace q469 := eq_true q469
     have p470 : 0 ≤ (3 : Int) := (by omega)
     have q470 : 3 < (l0.length : Int) := of_decide_eq_true gA
     obtain ⟨ad470, e470, hx470_0⟩ := Kd.at_int HR0.out 3 p470 q470; have hw470_0 := hx470_0
     (try rw [show ((3 : Int)).toNat = 3 from rfl] at hw470_0)
     (try rw [show 3 * 1 = 3 from rfl] at hw470_0)
     (try simp only [Nat.reduceMul, Nat.reduceEqDiff, Go.Addr.add, ↓reduceIte] at hw470_0)
     obtain rfl : ad469 = ad470 := (by injection e470)
     (try simp only [show (3 : Int).toNat = 3 from rfl, Nat.reduceMul, Nat.reduceEqDiff, Go.Addr.add, ↓reduceIte] at hx470_0)
     have qi470 : (3 < l0.length) = True := eq_true (by omega)
     (try rw [show ((3 : Int)).toNat = 3 from rfl] at hx470_0)
     replace hx470_0 := bc HB hx470_0; replace p470 := eq_true p470; replace q470 := eq_true q470; obtain ⟨Ao43, co43, eo43⟩ := Kd.S_slice HO467.out
     (first | subst eo43 | (injection eo43 with f1_ f2_ f3_; have f4_ := f1_.symm; have f5_ := f3_.symm; clear f1_ f2_ f3_; subst f4_; subst f5_))
     refine start_ (n := 14) (S := fun w' => w'.cell? ⟨ad469.block, ad469.off + 2, none⟩ = some (.int .u8 (rd l0 2)) ∧ w'.cell? ⟨ad469.block, ad469.off + 3, none⟩ = some (.int .u8 (rd l0 3))) (ds := []) #[false, false, false, false, false, false, false, false, false, false, false, false, false, false] (by kernel_rfl) rfl rfl ⟨((HB.out.cell (World.block_lt_of_cell? w _ hw469_0)).trans hw469_0), ((HB.out.cell (World.block_lt_of_cell? w _ hw470_0)).trans hw470_0)⟩ (fun hHeld => ?_)
     refine with_tabW frame_Parse.tab17 frame_Parse.bits17 (fun HT_ HW_ => ?_)
     generalize w41.drew = w42 at HO467 BK447 HB hx469_0 hx470_0 hHeld ⊢
     refine pA 0 (some 89) ?_; refine pA 1 (some 90) ?_; refine pA 4 (some 93) ?_; refine pA 5 (some 94) ?_; refine pA 8 (some 97) ?_; refine pA 9 (some 98) ?_; refine pA 10 (some 99) ?_; refine tA 2 (some 91) ?_; refine pA 3 (some 92) ?_; refine tA 6 (some 95) ?_; refine pA 7 (some 96) ?_; refine pA 11 (some 100) ?_
     refine oA 12 (some 19) (fun K hK => ?_)
     refine box_step ?hg (N := 19) ?hd (cs := #[.int .i64 0, .int .i64 0, .int .i64 0, .int .i64 0, .slice none 0 0]) (t := 24) ?hr ?_
     (case hd => rfl)
     (case hg => rfl)
     (case hr => first | (go_simp; done) | (go_simp; rfl))
     intro gb471 hg w44 hbox hb
     replace HO467 := Aside0.mk (Kd.S_below (by (with_reducible repeat (first | apply Kd.S_alloc | apply Kd.S_drewN | apply Kd.S_drew)); exact HO467.out) hb); have BK471 := Aside0.mk hbox; have GW471 := ge HB hg; have GE471 := ge HB hg; replace HB := bs HB hb; have NB447_471 := nL BK447 hg; have NB471_447 := nG BK447 hg; replace BK447 := kb BK447 hb; clear hb hbox hg
     refine hK.out _ _ ⟨((HB.out.cell (World.block_lt_of_cell? w _ hw469_0)).trans hw469_0), ((HB.out.cell (World.block_lt_of_cell? w _ hw470_0)).trans hw470_0)⟩ (fun hHeld => ?_)
     clear hK K; refine nA 19 ?_
     refine oA 13 none (fun K hK => ?_)
     have hs45 := cE BK471 0; have hfs45 := fA1 BK471; have hns45_0 := NB447_471.out; have hms45_0 := NB471_447.out; have hs46 := cE BK471 1; have hfs46 := blk_frozen BK471.out 1; have hns46_0 := NB447_471.out; have hms46_0 := NB471_447.out; have hs47 := cE BK471 2; have hfs47 := blk_frozen BK471.out 2; have hns47_0 := NB447_471.out; have hms47_0 := NB471_447.out; have hs48 := cE BK471 3; have hfs48 := blk_frozen BK471.out 3; have hns48_0 := NB447_471.out; have hms48_0 := NB471_447.out; have hs49 := cE BK471 4; have hfs49 := blk_frozen BK471.out 4; have hns49_0 := NB447_471.out; have hms49_0 := NB471_447.out
     refine skip_ (w1 := ?_) (by rfl) rfl ?_ ?_
     rotate_left
     ·go_simp
      rfl
     refine hK.out _ _ ⟨((cell_far (p := ⟨gb471, _, none⟩) (by first | exact Nat.ne_of_lt (Nat.lt_of_lt_of_le (by have := World.block_lt_of_cell? _ _ hw469_0; first | rwa [add_block] at this | exact this) GW471.out) | (rw [add_block]; exact Nat.ne_of_lt (Nat.lt_of_lt_of_le (by have := World.block_lt_of_cell? _ _ hw469_0; first | rwa [add_block] at this | exact this) GW471.out)) | (show (Addr.add _ _).block ≠ _; rw [add_block]; exact Nat.ne_of_lt (Nat.lt_of_lt_of_le (by have := World.block_lt_of_cell? _ _ hw469_0; first | rwa [add_block] at this | exact this) GW471.out)) | (dsimp only; exact Nat.ne_of_lt (Nat.lt_of_lt_of_le (by have := World.block_lt_of_cell? _ _ hw469_0; first | rwa [add_block] at this | exact this) GW471.out))) _).trans (((cell_far (p := ⟨gb471, _, none⟩) (by first | exact Nat.ne_of_lt (Nat.lt_of_lt_of_le (by have := World.block_lt_of_cell? _ _ hw469_0; first | rwa [add_block] at this | exact this) GW471.out) | (rw [add_block]; exact Nat.ne_of_lt (Nat.lt_of_lt_of_le (by have := World.block_lt_of_cell? _ _ hw469_0; first | rwa [add_block] at this | exact this) GW471.out)) | (show (Addr.add _ _).block ≠ _; rw [add_block]; exact Nat.ne_of_lt (Nat.lt_of_lt_of_le (by have := World.block_lt_of_cell? _ _ hw469_0; first | rwa [add_block] at this | exact this) GW471.out)) | (dsimp only; exact Nat.ne_of_lt (Nat.lt_of_lt_of_le (by have := World.block_lt_of_cell? _ _ hw469_0; first | rwa [add_block] at this | exact this) GW471.out))) _).trans (((cell_far (p := ⟨gb471, _, none⟩) (by first | exact Nat.ne_of_lt (Nat.lt_of_lt_of_le (by have := World.block_lt_of_cell? _ _ hw469_0; first | rwa [add_block] at this | exact this) GW471.out) | (rw [add_block]; exact Nat.ne_of_lt (Nat.lt_of_lt_of_le (by have := World.block_lt_of_cell? _ _ hw469_0; first | rwa [add_block] at this | exact this) GW471.out)) | (show (Addr.add _ _).block ≠ _; rw [add_block]; exact Nat.ne_of_lt (Nat.lt_of_lt_of_le (by have := World.block_lt_of_cell? _ _ hw469_0; first | rwa [add_block] at this | exact this) GW471.out)) | (dsimp only; exact Nat.ne_of_lt (Nat.lt_of_lt_of_le (by have := World.block_lt_of_cell? _ _ hw469_0; first | rwa [add_block] at this | exact this) GW471.out))) _).trans (((cell_far (p := ⟨gb471, _, none⟩) (by first | exact Nat.ne_of_lt (Nat.lt_of_lt_of_le (by have := World.block_lt_of_cell? _ _ hw469_0; first | rwa [add_block] at this | exact this) GW471.out) | (rw [add_block]; exact Nat.ne_of_lt (Nat.lt_of_lt_of_le (by have := World.block_lt_of_cell? _ _ hw469_0; first | rwa [add_block] at this | exact this) GW471.out)) | (show (Addr.add _ _).block ≠ _; rw [add_block]; exact Nat.ne_of_lt (Nat.lt_of_lt_of_le (by have := World.block_lt_of_cell? _ _ hw469_0; first | rwa [add_block] at this | exact this) GW471.out)) | (dsimp only; exact Nat.ne_of_lt (Nat.lt_of_lt_of_le (by have := World.block_lt_of_cell? _ _ hw469_0; first | rwa [add_block] at this | exact this) GW471.out))) _).trans (((cell_far (p := ⟨gb471, _, none⟩) (by first | exact Nat.ne_of_lt (Nat.lt_of_lt_of_le (by have := World.block_lt_of_cell? _ _ hw469_0; first | rwa [add_block] at this | exact this) GW471.out) | (rw [add_block]; exact Nat.ne_of_lt (Nat.lt_of_lt_of_le (by have := World.block_lt_of_cell? _ _ hw469_0; first | rwa [add_block] at this | exact this) GW471.out)) | (show (Addr.add _ _).block ≠ _; rw [add_block]; exact Nat.ne_of_lt (Nat.lt_of_lt_of_le (by have := World.block_lt_of_cell? _ _ hw469_0; first | rwa [add_block] at this | exact this) GW471.out)) | (dsimp only; exact Nat.ne_of_lt (Nat.lt_of_lt_of_le (by have := World.block_lt_of_cell? _ _ hw469_0; first | rwa [add_block] at this | exact this) GW471.out))) _).trans (hHeld.1)))))))))), ((cell_far (p := ⟨gb471, _, none⟩) (by first | exact Nat.ne_of_lt (Nat.lt_of_lt_of_le (by have := World.block_lt_of_cell? _ _ hw470_0; first | rwa [add_block] at this | exact this) GW471.out) | (rw [add_block]; exact Nat.ne_of_lt (Nat.lt_of_lt_of_le (by have := World.block_lt_of_cell? _ _ hw470_0; first | rwa [add_block] at this | exact this) GW471.out)) | (show (Addr.add _ _).block ≠ _; rw [add_block]; exact Nat.ne_of_lt (Nat.lt_of_lt_of_le (by have := World.block_lt_of_cell? _ _ hw470_0; first | rwa [add_block] at this | exact this) GW471.out)) | (dsimp only; exact Nat.ne_of_lt (Nat.lt_of_lt_of_le (by have := World.block_lt_of_cell? _ _ hw470_0; first | rwa [add_block] at this | exact this) GW471.out))) _).trans (((cell_far (p := ⟨gb471, _, none⟩) (by first | exact Nat.ne_of_lt (Nat.lt_of_lt_of_le (by have := World.block_lt_of_cell? _ _ hw470_0; first | rwa [add_block] at this | exact this) GW471.out) | (rw [add_block]; exact Nat.ne_of_lt (Nat.lt_of_lt_of_le (by have := World.block_lt_of_cell? _ _ hw470_0; first | rwa [add_block] at this | exact this) GW471.out)) | (show (Addr.add _ _).block ≠ _; rw [add_block]; exact Nat.ne_of_lt (Nat.lt_of_lt_of_le (by have := World.block_lt_of_cell? _ _ hw470_0; first | rwa [add_block] at this | exact this) GW471.out)) | (dsimp only; exact Nat.ne_of_lt (Nat.lt_of_lt_of_le (by have := World.block_lt_of_cell? _ _ hw470_0; first | rwa [add_block] at this | exact this) GW471.out))) _).trans (((cell_far (p := ⟨gb471, _, none⟩) (by first | exact Nat.ne_of_lt (Nat.lt_of_lt_of_le (by have := World.block_lt_of_cell? _ _ hw470_0; first | rwa [add_block] at this | exact this) GW471.out) | (rw [add_block]; exact Nat.ne_of_lt (Nat.lt_of_lt_of_le (by have := World.block_lt_of_cell? _ _ hw470_0; first | rwa [add_block] at this | exact this) GW471.out)) | (show (Addr.add _ _).block ≠ _; rw [add_block]; exact Nat.ne_of_lt (Nat.lt_of_lt_of_le (by have := World.block_lt_of_cell? _ _ hw470_0; first | rwa [add_block] at this | exact this) GW471.out)) | (dsimp only; exact Nat.ne_of_lt (Nat.lt_of_lt_of_le (by have := World.block_lt_of_cell? _ _ hw470_0; first | rwa [add_block] at this | exact this) GW471.out))) _).trans (((cell_far (p := ⟨gb471, _, none⟩) (by first | exact Nat.ne_of_lt (Nat.lt_of_lt_of_le (by have := World.block_lt_of_cell? _ _ hw470_0; first | rwa [add_block] at this | exact this) GW471.out) | (rw [add_block]; exact Nat.ne_of_lt (Nat.lt_of_lt_of_le (by have := World.block_lt_of_cell? _ _ hw470_0; first | rwa [add_block] at this | exact this) GW471.out)) | (show (Addr.add _ _).block ≠ _; rw [add_block]; exact Nat.ne_of_lt (Nat.lt_of_lt_of_le (by have := World.block_lt_of_cell? _ _ hw470_0; first | rwa [add_block] at this | exact this) GW471.out)) | (dsimp only; exact Nat.ne_of_lt (Nat.lt_of_lt_of_le (by have := World.block_lt_of_cell? _ _ hw470_0; first | rwa [add_block] at this | exact this) GW471.out))) _).trans (((cell_far (p := ⟨gb471, _, none⟩) (by first | exact Nat.ne_of_lt (Nat.lt_of_lt_of_le (by have := World.block_lt_of_cell? _ _ hw470_0; first | rwa [add_block] at this | exact this) GW471.out) | (rw [add_block]; exact Nat.ne_of_lt (Nat.lt_of_lt_of_le (by have := World.block_lt_of_cell? _ _ hw470_0; first | rwa [add_block] at this | exact this) GW471.out)) | (show (Addr.add _ _).block ≠ _; rw [add_block]; exact Nat.ne_of_lt (Nat.lt_of_lt_of_le (by have := World.block_lt_of_cell? _ _ hw470_0; first | rwa [add_block] at this | exact this) GW471.out)) | (dsimp only; exact Nat.ne_of_lt (Nat.lt_of_lt_of_le (by have := World.block_lt_of_cell? _ _ hw470_0; first | rwa [add_block] at this | exact this) GW471.out))) _).trans (hHeld.2))))))))))⟩ (fun hHeld => ?_)
     clear hK K
     refine dA ?_
     have p472 : 0 ≤ (14 : Int) := (by omega)
     have q472 : 14 < (l0.length : Int) := of_decide_eq_true gA
     obtain ⟨ad472, e472, hx472_0⟩ := Kd.at_int HR0.out 14 p472 q472
     obtain rfl : ad469 = ad472 := (by injection e472)
     (try simp only [show (14 : Int).toNat = 14 from rfl, Nat.reduceMul, Nat.reduceEqDiff, Go.Addr.add, ↓reduceIte] at hx472_0)
     have qi472 : (14 < l0.length) = True := eq_true (by omega)
     (try rw [show ((14 : Int)).toNat = 14 from rfl] at hx472_0)
     have hn472_0 : ad469.block ≠ gb471 := Nat.ne_of_lt (Nat.lt_of_lt_of_le (by have := World.block_lt_of_cell? _ _ hx472_0; first | rwa [add_block] at this | exact this) GW471.out)
     have hn472_1 : ad469.block ≠ gb471 := Nat.ne_of_lt (Nat.lt_of_lt_of_le (by have := World.block_lt_of_cell? _ _ hx472_0; first | rwa [add_block] at this | exact this) GW471.out)
     have hn472_2 : ad469.block ≠ gb471 := Nat.ne_of_lt (Nat.lt_of_lt_of_le (by have := World.block_lt_of_cell? _ _ hx472_0; first | rwa [add_block] at this | exact this) GW471.out)
     have hn472_3 : ad469.block ≠ gb471 := Nat.ne_of_lt (Nat.lt_of_lt_of_le (by have := World.block_lt_of_cell? _ _ hx472_0; first | rwa [add_block] at this | exact this) GW471.out)
     have hn472_4 : ad469.block ≠ gb471 := Nat.ne_of_lt (Nat.lt_of_lt_of_le (by have := World.block_lt_of_cell? _ _ hx472_0; first | rwa [add_block] at this | exact this) GW471.out)
     replace hx472_0 := bc HB hx472_0; replace hx472_0 := (cell_far (p := ⟨gb471, 0, none⟩) (by first | (rw [add_block]; exact hn472_0) | (show (Addr.add _ _).block ≠ _; rw [add_block]; exact hn472_0) | exact hn472_0) (.int .i64 (wrap64 (rd l0 2)))).trans hx472_0; replace hx472_0 := (cell_far (p := ⟨gb471, 1, none⟩) (by first | (rw [add_block]; exact hn472_1) | (show (Addr.add _ _).block ≠ _; rw [add_block]; exact hn472_1) | exact hn472_1) (.int .i64 t458)).trans hx472_0; replace hx472_0 := (cell_far (p := ⟨gb471, 2, none⟩) (by first | (rw [add_block]; exact hn472_2) | (show (Addr.add _ _).block ≠ _; rw [add_block]; exact hn472_2) | exact hn472_2) (.int .i64 (wrap64 (rd l0 3)))).trans hx472_0; replace hx472_0 := (cell_far (p := ⟨gb471, 3, none⟩) (by first | (rw [add_block]; exact hn472_3) | (show (Addr.add _ _).block ≠ _; rw [add_block]; exact hn472_3) | exact hn472_3) (.int .i64 t461)).trans hx472_0; replace hx472_0 := (cell_far (p := ⟨gb471, 4, none⟩) (by first | (rw [add_block]; exact hn472_4) | (show (Addr.add _ _).block ≠ _; rw [add_block]; exact hn472_4) | exact hn472_4) (.slice Ao43 t465.length co43)).trans hx472_0; clear hn472_0; clear hn472_1; clear hn472_2; clear hn472_3; clear hn472_4; replace p472 := eq_true p472; replace q472 := eq_true q472; have hnb50 := NB471_447.out; have hnc50 := NB447_471.out; obtain ⟨q51_0, q51_1, q51_2, q51_3, q51_4⟩ := cA5 BK471; obtain ⟨f51_0, f51_1, f51_2, f51_3, f51_4⟩ := fA5 BK471
     try go_wp2_with (first | (go_at_call 12; (with_reducible refine (frame_Check.calls kj5 (wrap64 (rd l0 2)) t458 (wrap64 (rd l0 3)) t461 _ _ t465 t473 _ ?side1 ?side2 A34.out).mono ?_); (case side1 => refine (Kd.S_reads' (e := 50) (base := w.heap.size) (ok := fun k_ => True) (n := t465.length) (c := co43) ?_).2.2; exact (by (with_reducible repeat (first | apply Kd.S_alloc | apply Kd.S_drewN | apply Kd.S_drew)); exact (Kd.S_mono (Kd.S_far (p := ⟨gb471, 4, none⟩) (Kd.S_far (p := ⟨gb471, 3, none⟩) (Kd.S_far (p := ⟨gb471, 2, none⟩) (Kd.S_far (p := ⟨gb471, 1, none⟩) (Kd.S_far (p := ⟨gb471, 0, none⟩) (Kd.S_types HO467.out BK471.out (by decide)) (fun _ hk => hk.2) (.int .i64 (wrap64 (rd l0 2)))) (fun _ hk => hk.2) (.int .i64 t458)) (fun _ hk => hk.2) (.int .i64 (wrap64 (rd l0 3)))) (fun _ hk => hk.2) (.int .i64 t461)) (fun _ hk => hk.2) (.slice Ao43 t465.length co43)) (fun _ h_ => h_.1)))); (case side2 => exact (Kd.S_reads' HO467.out).2.1); rintro e w52 ⟨rfl, hb⟩; replace HO467 := Aside0.mk (Kd.S_below (by (with_reducible repeat (first | apply Kd.S_alloc | apply Kd.S_drewN | apply Kd.S_drew)); exact (Kd.S_mono (Kd.S_far (p := ⟨gb471, 4, none⟩) (Kd.S_far (p := ⟨gb471, 3, none⟩) (Kd.S_far (p := ⟨gb471, 2, none⟩) (Kd.S_far (p := ⟨gb471, 1, none⟩) (Kd.S_far (p := ⟨gb471, 0, none⟩) (Kd.S_types HO467.out BK471.out (by decide)) (fun _ hk => hk.2) (.int .i64 (wrap64 (rd l0 2)))) (fun _ hk => hk.2) (.int .i64 t458)) (fun _ hk => hk.2) (.int .i64 (wrap64 (rd l0 3)))) (fun _ hk => hk.2) (.int .i64 t461)) (fun _ hk => hk.2) (.slice Ao43 t465.length co43)) (fun _ h_ => h_.1))) hb); replace BK447 := kc BK447 hb; replace BK471 := kc BK471 hb; replace HB := bs HB hb; (try clear hb); (try clear hb2); (try clear hk); (try clear hi); obtain ⟨q53_0, q53_1, q53_2, q53_3, q53_4⟩ := cA5 BK471; obtain ⟨f53_0, f53_1, f53_2, f53_3, f53_4⟩ := fA5 BK471; obtain ⟨q54_0, q54_1, q54_2, q54_3, q54_4⟩ := cA5 BK447; obtain ⟨f54_0, f54_1, f54_2, f54_3, f54_4⟩ := fA5 BK447))
     refine bodyPost_ret (results_ct rfl _ _ gb447 24 #[.int .i64 (wrap64 (rd l0 2)), .int .i64 t458, .int .i64 (wrap64 (rd l0 3)), .int .i64 t461, .slice Ao43 t465.length co43] (0, 0) _ rfl (by refine rK ?_; refine blk_put (cs := #[.int .i64 (wrap64 (rd l0 2)), .int .i64 t458, .int .i64 (wrap64 (rd l0 3)), .int .i64 t461, .slice none 0 0]) ?_ 4 _ rfl; refine rK ?_; refine blk_put (cs := #[.int .i64 (wrap64 (rd l0 2)), .int .i64 t458, .int .i64 (wrap64 (rd l0 3)), .int .i64 0, .slice none 0 0]) ?_ 3 _ rfl; refine rK ?_; refine blk_put (cs := #[.int .i64 (wrap64 (rd l0 2)), .int .i64 t458, .int .i64 0, .int .i64 0, .slice none 0 0]) ?_ 2 _ rfl; refine rK ?_; refine blk_put (cs := #[.int .i64 (wrap64 (rd l0 2)), .int .i64 0, .int .i64 0, .int .i64 0, .slice none 0 0]) ?_ 1 _ rfl; refine rK ?_; refine blk_put (cs := #[.int .i64 0, .int .i64 0, .int .i64 0, .int .i64 0, .slice none 0 0]) ?_ 0 _ rfl; refine rK ?_; exact BK447.out) Try.underlying24 rfl (by kernel_rfl)) rfl ?_
     exact ⟨_, by first | rfl | (simp [errW_none, errW_some] <;> rfl) | (simp only [← hji19]; first | rfl | (simp [errW_none, errW_some] <;> rfl)) | (simp [*, errW_none, errW_some] <;> rfl), by (with_reducible repeat (first | apply Kd.S_alloc | apply Kd.S_drewN | apply Kd.S_drew)); exact Kd.S_mono (Kd.S_far (p := ⟨gb447, 4, none⟩) (Kd.S_far (p := ⟨gb447, 3, none⟩) (Kd.S_far (p := ⟨gb447, 2, none⟩) (Kd.S_far (p := ⟨gb447, 1, none⟩) (Kd.S_far (p := ⟨gb447, 0, none⟩) (Kd.S_types HO467.out BK447.out (by decide)) (fun _ hk => hk.2) (.int .i64 (wrap64 (rd l0 2)))) (fun _ hk => hk.2) (.int .i64 t458)) (fun _ hk => hk.2) (.int .i64 (wrap64 (rd l0 3)))) (fun _ hk => hk.2) (.int .i64 t461)) (fun _ hk => hk.2) (.slice Ao43 t465.length co43)) (fun _ hk => trivial), uB HB⟩
    replace c31 := Bool.eq_false_iff.mpr c31
    subst c31
    rw [if_neg (show ¬ (false = true) by decide)] at H
    exact absurd H (by simp)
   rw [if_neg c23] at H
   have c23b0 : (t453 == t457) = false := beq_eq_false_iff_ne.mpr c23
   have c23b1 : (t453 != t457) = true := bne_iff_ne.mpr c23
   simp only [Option.some.injEq, Prod.mk.injEq] at H
   obtain ⟨rfl, rfl, rfl, rfl, rfl, rfl⟩ := H
   go_wp2_with (first | ((with_reducible refine gate_callee (f := 27) rfl ?_); refine gL (some 59) Try.func27 #[.slice A0 l0.length c0, .int .i64 ji19, .int .i64 2] ?_ (hargs := by (try simp only [List.map_toArray, List.map_cons, List.map_nil]); first | done | (simp only [hji19]; rfl) | rfl | (simp only [List.length_drop, List.length_take]; rfl)); (with_reducible refine (wire_Get.calls _ _ l0 ji19 2 t453 t454 t455 _ ?side1 ?side2 A18.out).mono ?_); (case side1 => repeat (first | exact (Kd.C_below HR0.out HB.out) | (with_reducible refine Kd.C_alloc ?_ _) | (with_reducible refine Kd.C_drewN ?_ _) | (with_reducible refine Kd.C_drew ?_))); (case side2 => exact HC0.out); rintro e w55 ⟨rfl, hb⟩; refine ⟨_, rfl, ?_⟩; replace BK447 := kb BK447 hb; replace HB := bs HB hb; (try clear hb); (try clear hb2); (try clear hk); (try clear hi); obtain ⟨i056, hi056, _, hsz56, _⟩ := info_parts info5; obtain ⟨hcut56, hA56, hC56⟩ := print_take_of (P := Try.prog) (Value.int .u8) 0 26 5 .i64 Try.underlying26 hi056 hsz56 A0 c0 l0 (ji19) (of_decide_eq_true gA) (of_decide_eq_true gA) HC0.out; have HR456 := Aside0.mk (Kd.C_of_reads (h1 := fun _ => rfl) (hA56 _ (Kd.reads_of_C HR0.out))); have HC456 := Aside0.mk hC56; clear hA56 hC56 hi056 hsz56) | ((with_reducible refine gate_callee (f := 22) rfl ?_); refine goesL_ (some 67) rfl rfl Try.func22 (by kernel_rfl) rfl #[.slice A0 (l0.take ((ji19) : Int).toNat).length c0] rfl (by (try simp only [List.map_toArray, List.map_cons, List.map_nil]); first | done | (rw [show (l0.take ((ji19) : Int).toNat).length = (ji19).toNat from (by rw [List.length_take]; have h_ : ((ji19) : Int) ≤ (l0.length : Int) := of_decide_eq_true gA; omega)] <;> rfl) | (simp only [hji19]; rfl) | rfl | (simp only [List.length_drop, List.length_take]; rfl)) ?_; (with_reducible refine (wire_Sum.calls kj5 _ _ (l0.take ((ji19) : Int).toNat) t457 _ ?side1 ?side2 A22.out).mono ?_); (case side1 => repeat (first | exact (Kd.C_below HR456.out HB.out) | (with_reducible refine Kd.C_alloc ?_ _) | (with_reducible refine Kd.C_drewN ?_ _) | (with_reducible refine Kd.C_drew ?_))); (case side2 => exact HC456.out); rintro e w' ⟨rfl, ⟨nd, rfl⟩⟩; refine ⟨_, rfl, ?_⟩; (try (rw [drewN_self w55]; generalize hq_ : World.drewN w55 _ = w55; have n0_ : Aside0 (w55.heap[gb447]? = some (.cells #[.int .i64 0, .int .i64 0, .int .i64 0, .int .i64 0, .slice none 0 0] 24 (0, 0))) := ⟨by rw [← hq_]; exact (uK BK447)⟩; have n1_ : Aside0 (Below w.heap.size w w55) := ⟨by rw [← hq_]; exact (uB HB)⟩; clear BK447 HB hq_; have BK447 := n0_; have HB := n1_; clear n0_ n1_)); obtain ⟨q57_0, q57_1, q57_2, q57_3, q57_4⟩ := cA5 BK447; obtain ⟨f57_0, f57_1, f57_2, f57_3, f57_4⟩ := fA5 BK447))
   refine bodyPost_ret (results_ct rfl _ _ gb447 24 #[.int .i64 0, .int .i64 0, .int .i64 0, .int .i64 0, .slice none 0 0] (0, 0) _ rfl (by refine rK ?_; refine blk_put (cs := #[.int .i64 0, .int .i64 0, .int .i64 0, .int .i64 0, .slice none 0 0]) ?_ 4 _ rfl; refine rK ?_; refine blk_put (cs := #[.int .i64 0, .int .i64 0, .int .i64 0, .int .i64 0, .slice none 0 0]) ?_ 3 _ rfl; refine rK ?_; refine blk_put (cs := #[.int .i64 0, .int .i64 0, .int .i64 0, .int .i64 0, .slice none 0 0]) ?_ 2 _ rfl; refine rK ?_; refine blk_put (cs := #[.int .i64 0, .int .i64 0, .int .i64 0, .int .i64 0, .slice none 0 0]) ?_ 1 _ rfl; refine rK ?_; refine blk_put (cs := #[.int .i64 0, .int .i64 0, .int .i64 0, .int .i64 0, .slice none 0 0]) ?_ 0 _ rfl; refine rK ?_; exact BK447.out) Try.underlying24 rfl (by kernel_rfl)) rfl ?_
   exact ⟨_, by first | rfl | (simp [errW_none, errW_some] <;> rfl) | (simp only [← hji19]; first | rfl | (simp [errW_none, errW_some] <;> rfl)) | (simp [*, errW_none, errW_some] <;> rfl), by first | exact Kd.S_nil _ _ _ _ _ | exact Kd.N_nil _ _ _ _ _ | exact Kd.V_nil _ _ _ _ _ | exact Kd.Q_nil _ _ _ _ _ | exact Kd.R_nil _ _ _ _ _, uB HB⟩
theorem eqA106 (d : Nat) (w : World) (x0 y0 : Int) (x1 y1 : Int) (x2 y2 : Int) (x3 y3 : Int) :
  (Op.equalIn (d + 2) 106 (.agg #[.int .i64 x0, .int .i64 x1, .int .i64 x2, .int .i64 x3]) (.agg #[.int .i64 y0, .int .i64 y1, .int .i64 y2, .int .i64 y3])).run Try.prog w = .ok (x0 == y0 && (x1 == y1 && (x2 == y2 && (x3 == y3)))) w := by
 refine eqA_of Try.underlying106 (by kernel_rfl) ?_
 refine eqf_cons (by rfl) (by go_simp; rfl) (by go_simp; rfl) (by go_simp) ?_
 refine eqf_cons (by rfl) (by go_simp; rfl) (by go_simp; rfl) (by go_simp) ?_
 refine eqf_cons (by rfl) (by go_simp; rfl) (by go_simp; rfl) (by go_simp) ?_
 exact eqf_last (by rfl) (by go_simp; rfl) (by go_simp; rfl) (by go_simp)
theorem eqA101 (d : Nat) (w : World) (x0 y0 : Int) (x1 y1 : Int) :
  (Op.equalIn (d + 2) 101 (.agg #[.int .i64 x0, .int .i64 x1]) (.agg #[.int .i64 y0, .int .i64 y1])).run Try.prog w = .ok (x0 == y0 && (x1 == y1)) w := by
 refine eqA_of Try.underlying101 (by kernel_rfl) ?_
 refine eqf_cons (by rfl) (by go_simp; rfl) (by go_simp; rfl) (by go_simp) ?_
 exact eqf_last (by rfl) (by go_simp; rfl) (by go_simp; rfl) (by go_simp)
end Go.Proofs.Ytpgmmnlkiogamaa.P
namespace Go.Proofs.Ytpgmmnlkiogamaa.P
open Go.RowKit YtpgmmnlkiogamaaW.PrintWords YtpgmmnlkiogamaaW.PrintLast YtpgmmnlkiogamaaW.PrintMore
attribute [local go_sem] max2_int min2_int max_two min_two max_three min_three max_four min_four
attribute [local go_sem high] eqA101
mutual
def thalwegref06_Same.j0 : Nat → Bool → Int → List (S101) → Int → List (S101) → Option (Bool)
 | 0, _, _, _, _, _ => none
 | k + 1, x19, x475000, x475001, x476000, x476001 => if x19 = true then (none) else (thalwegref06_Same.l0 k 0 x475000 x475001 x476000 x476001)
def thalwegref06_Same.l0 : Nat → Int → Int → List (S101) → Int → List (S101) → Option (Bool)
 | 0, _, _, _, _, _ => none
 | k + 1, x5, x475000, x475001, x476000, x476001 => if x5 < (x475001.length : Int) then (if 0 ≤ x5 then (if x5 < (x476001.length : Int) then (if (!(((rd_T101 x475001 x5).f0) == ((rd_T101 x476001 x5).f0)) || (!(((rd_T101 x475001 x5).f1) == ((rd_T101 x476001 x5).f1)))) = true then (none) else (thalwegref06_Same.l0 k (wrap64 (x5 + 1)) x475000 x475001 x476000 x476001)) else (none)) else (none)) else (some true)
end
def thalwegref06_Same.f (k : Nat) (a0_0 : Int) (l0_1 : List (S101)) (a1_0 : Int) (l1_1 : List (S101)) : Option (Bool) := if a0_0 = a1_0 then (thalwegref06_Same.j0 k ((l0_1.length : Int) != (l1_1.length : Int)) a0_0 l0_1 a1_0 l1_1) else (thalwegref06_Same.j0 k true a0_0 l0_1 a1_0 l1_1)
theorem thalwegref06_Same.mono_l : ∀ k, (∀ y0 y1 y2 y3 y4, LeO (thalwegref06_Same.j0 k y0 y1 y2 y3 y4) (thalwegref06_Same.j0 (k + 1) y0 y1 y2 y3 y4)) ∧ (∀ y0 y1 y2 y3 y4, LeO (thalwegref06_Same.l0 k y0 y1 y2 y3 y4) (thalwegref06_Same.l0 (k + 1) y0 y1 y2 y3 y4))
 | 0 => ⟨fun _ _ _ _ _ r h => by simp [thalwegref06_Same.j0] at h, fun _ _ _ _ _ r h => by simp [thalwegref06_Same.l0] at h⟩
 | k + 1 => by
  obtain ⟨ih0, ih1⟩ := thalwegref06_Same.mono_l k
  refine ⟨?_, ?_⟩
  ·intro y0 y1 y2 y3 y4
   unfold thalwegref06_Same.j0
   repeat' first
   | (with_reducible exact ih0 _ _ _ _ _)
   | (with_reducible exact ih1 _ _ _ _ _)
   | (with_reducible exact LeO.refl _)
   | (with_reducible exact LeO.none _)
   | (with_reducible refine LeO.ite ?_ ?_)
   | (with_reducible refine LeO.bind ?_ (fun _ => ?_))
   | exact ih0 _ _ _ _ _
   | exact ih1 _ _ _ _ _
   | exact LeO.none _
   | refine LeO.ite ?_ ?_
   | refine LeO.bind ?_ (fun _ => ?_)
  intro y0 y1 y2 y3 y4
  unfold thalwegref06_Same.l0
  repeat' first
  | (with_reducible exact ih0 _ _ _ _ _)
  | (with_reducible exact ih1 _ _ _ _ _)
  | (with_reducible exact LeO.refl _)
  | (with_reducible exact LeO.none _)
  | (with_reducible refine LeO.ite ?_ ?_)
  | (with_reducible refine LeO.bind ?_ (fun _ => ?_))
  | exact ih0 _ _ _ _ _
  | exact ih1 _ _ _ _ _
  | exact LeO.none _
  | refine LeO.ite ?_ ?_
  | refine LeO.bind ?_ (fun _ => ?_)
theorem thalwegref06_Same.mono : ∀ a0 a1 a2 a3 k, LeO (thalwegref06_Same.f k a0 a1 a2 a3) (thalwegref06_Same.f (k + 1) a0 a1 a2 a3) := by
 intro a0 a1 a2 a3 k
 obtain ⟨ih0, ih1⟩ := thalwegref06_Same.mono_l k
 unfold thalwegref06_Same.f
 repeat' first
   | (with_reducible exact ih0 _ _ _ _ _)
   | (with_reducible exact ih1 _ _ _ _ _)
   | (with_reducible exact LeO.refl _)
   | (with_reducible exact LeO.none _)
   | (with_reducible refine LeO.ite ?_ ?_)
   | (with_reducible refine LeO.bind ?_ (fun _ => ?_))
   | exact ih0 _ _ _ _ _
   | exact ih1 _ _ _ _ _
   | exact LeO.none _
   | refine LeO.ite ?_ ?_
   | refine LeO.bind ?_ (fun _ => ?_)
theorem thalwegref06_Same.calls (k : Nat) (a0_0 : Int) (A0_1 : Option Addr) (c0_1 : Nat) (l0_1 : List (S101)) (a1_0 : Int) (A1_1 : Option Addr) (c1_1 : Nat) (l1_1 : List (S101)) (r : Bool) (w : World) (hr0_1 : Kd.C k101 w A0_1 l0_1.length l0_1) (hc0_1 : l0_1.length ≤ c0_1) (hr1_1 : Kd.C k101 w A1_1 l1_1.length l1_1) (hc1_1 : l1_1.length ≤ c1_1) (h : thalwegref06_Same.f k a0_0 l0_1 a1_0 l1_1 = some r) :
  Calls Try.prog 40 #[.agg #[.int .i64 a0_0, .slice A0_1 l0_1.length c0_1], .agg #[.int .i64 a1_0, .slice A1_1 l1_1.length c1_1]] w fun e w' => e = .returned (.bool r) ∧ Below w.heap.size w w' := by
 have hu42 := Try.underlying42; have hu101 := Try.underlying101; have HR0_1 := Aside0.mk hr0_1; have HC0_1 := Aside0.mk hc0_1; clear hr0_1 hc0_1; have HR1_1 := Aside0.mk hr1_1; have HC1_1 := Aside0.mk hc1_1; clear hr1_1 hc1_1; have HB := Aside0.mk (Below.refl w.heap.size w)
 have H : (if a0_0 = a1_0 then (thalwegref06_Same.j0 k ((l0_1.length : Int) != (l1_1.length : Int)) a0_0 l0_1 a1_0 l1_1) else (thalwegref06_Same.j0 k true a0_0 l0_1 a1_0 l1_1)) = some r := h
 clear h; have HC3 := Aside0.mk H; clear H
 go_enter Try.func40, Try.ntmps40
 go_upto_region 1 with (first | ((with_reducible refine gate_dst (N := 2) rfl ?_); (try (refine gate_guard (by rfl) ?_; dsimp only)); refine bx #[.int .i64 a0_0, .slice A0_1 l0_1.length c0_1] 42 ?_; intro gb474 hg w4 hbox hb; have BK474 := Aside0.mk hbox; have GW474 := ge HB hg; have GE474 := ge HB hg; replace HB := bs HB hb; clear hb hbox hg) | ((with_reducible refine gate_dst (N := 3) rfl ?_); (try (refine gate_guard (by rfl) ?_; dsimp only)); refine bx #[.int .i64 a1_0, .slice A1_1 l1_1.length c1_1] 42 ?_; intro gb475 hg w5 hbox hb; have BK475 := Aside0.mk hbox; have GW475 := ge HB hg; have GE475 := ge HB hg; replace HB := bs HB hb; have NB474_475 := nL BK474 hg; have NB475_474 := nG BK474 hg; replace BK474 := kb BK474 hb; clear hb hbox hg))
 repeat (go_quiet (first | ((with_reducible refine gate_dst (N := 2) rfl ?_); (try (refine gate_guard (by rfl) ?_; dsimp only)); refine bx #[.int .i64 a0_0, .slice A0_1 l0_1.length c0_1] 42 ?_; intro gb474 hg w4 hbox hb; have BK474 := Aside0.mk hbox; have GW474 := ge HB hg; have GE474 := ge HB hg; replace HB := bs HB hb; clear hb hbox hg) | ((with_reducible refine gate_dst (N := 3) rfl ?_); (try (refine gate_guard (by rfl) ?_; dsimp only)); refine bx #[.int .i64 a1_0, .slice A1_1 l1_1.length c1_1] 42 ?_; intro gb475 hg w5 hbox hb; have BK475 := Aside0.mk hbox; have GW475 := ge HB hg; have GE475 := ge HB hg; replace HB := bs HB hb; have NB474_475 := nL BK474 hg; have NB475_474 := nG BK474 hg; replace BK474 := kb BK474 hb; clear hb hbox hg)); go_upto_region 1 with (first | ((with_reducible refine gate_dst (N := 2) rfl ?_); (try (refine gate_guard (by rfl) ?_; dsimp only)); refine bx #[.int .i64 a0_0, .slice A0_1 l0_1.length c0_1] 42 ?_; intro gb474 hg w4 hbox hb; have BK474 := Aside0.mk hbox; have GW474 := ge HB hg; have GE474 := ge HB hg; replace HB := bs HB hb; clear hb hbox hg) | ((with_reducible refine gate_dst (N := 3) rfl ?_); (try (refine gate_guard (by rfl) ?_; dsimp only)); refine bx #[.int .i64 a1_0, .slice A1_1 l1_1.length c1_1] 42 ?_; intro gb475 hg w5 hbox hb; have BK475 := Aside0.mk hbox; have GW475 := ge HB hg; have GE475 := ge HB hg; replace HB := bs HB hb; have NB474_475 := nL BK474 hg; have NB475_474 := nG BK474 hg; replace BK474 := kb BK474 hb; clear hb hbox hg)))
 (try simp only [Act.put, List.setIfInBounds_toArray, List.set_cons_zero, List.set_cons_succ])
 go_cut [19] (fun v19 wc => ∃ (kq : Nat) (x19_2 : Bool), v19 = .bool x19_2 ∧ Aside0 (thalwegref06_Same.j0 kq x19_2 a0_0 l0_1 a1_0 l1_1 = some r) ∧ Aside0 (kq ≤ k) ∧ Aside0 (wc.heap[gb474]? = some (.cells #[.int .i64 a0_0, (.slice A0_1 l0_1.length c0_1)] 42 (0, 0))) ∧ Aside0 (wc.heap[gb475]? = some (.cells #[.int .i64 a1_0, (.slice A1_1 l1_1.length c1_1)] 42 (0, 0))) ∧ Aside0 (Below w.heap.size w wc))
 case first =>
  have H := HC3.out
  clear HC3
  by_cases c6 : a0_0 = a1_0
  ·rw [if_pos c6] at H
   have c6b0 : (a0_0 == a1_0) = true := beq_iff_eq.mpr c6
   have c6b1 : (a0_0 != a1_0) = false := bne_eq_false_iff_eq.mpr c6
   clear c6
   (first | rw [c6b0] | (simp only [i64_w, i32_w]; rw [c6b0]) | rw [c6b1] | skip)
   have H' := Aside0.mk H
   clear H; have hnb7 := NB474_475.out; have hnc7 := NB475_474.out; obtain ⟨q8_0, q8_1⟩ := cA2 BK474; obtain ⟨f8_0, f8_1⟩ := fA2 BK474; obtain ⟨q9_0, q9_1⟩ := cA2 BK475; obtain ⟨f9_0, f9_1⟩ := fA2 BK475
   go_wp2
   repeat (go_quiet (fail); try go_wp2)
   go_meet
   case rel => exact ⟨_, (((l0_1.length : Int) != (l1_1.length : Int))), gv, H', ⟨by first | omega | exact Nat.le_refl _⟩, ⟨uK BK474⟩, ⟨uK BK475⟩, ⟨uB HB⟩⟩
  rw [if_neg c6] at H
  have c6b0 : (a0_0 == a1_0) = false := beq_eq_false_iff_ne.mpr c6
  have c6b1 : (a0_0 != a1_0) = true := bne_iff_ne.mpr c6
  (first | rw [c6b0] | (simp only [i64_w, i32_w]; rw [c6b0]) | rw [c6b1] | skip)
  have H' := Aside0.mk H
  clear H; have hnb10 := NB474_475.out; have hnc10 := NB475_474.out; obtain ⟨q11_0, q11_1⟩ := cA2 BK474; obtain ⟨f11_0, f11_1⟩ := fA2 BK474; obtain ⟨q12_0, q12_1⟩ := cA2 BK475; obtain ⟨f12_0, f12_1⟩ := fA2 BK475
  go_wp2
  repeat (go_quiet (fail); try go_wp2)
  go_meet
  case rel => exact ⟨_, (true), gv, H', ⟨by first | omega | exact Nat.le_refl _⟩, ⟨uK BK474⟩, ⟨uK BK475⟩, ⟨uB HB⟩⟩
 case rest =>
  clear HC3; (try clear c1); (try clear p2); (try clear c4); (try clear c6); (try clear c6b0); (try clear c6b1); (try clear c7); (try clear c10); (try clear q11_0); (try clear q11_1); (try clear q12_0); (try clear q12_1); (try clear q8_0); (try clear q8_1); (try clear q9_0); (try clear q9_1); (try clear f11_0); (try clear f11_1); (try clear f12_0); (try clear f12_1); (try clear f8_0); (try clear f8_1); (try clear f9_0); (try clear f9_1); obtain ⟨kq, x19_2, rfl, HA, HJ2, BK474, BK475, HB⟩ := hcut
  cases kq with
  | zero => exact absurd HA.out (by simp [thalwegref06_Same.j0])
  | succ kj2 =>
   have H := HA.out
   clear HA
   simp only [thalwegref06_Same.j0] at H
   by_cases c13 : x19_2 = true
   ·subst c13
    rw [if_pos rfl] at H
    exact absurd H (by simp)
   replace c13 := Bool.eq_false_iff.mpr c13
   subst c13
   rw [if_neg (show ¬ (false = true) by decide)] at H
   have H' := Aside0.mk H
   clear H
   go_wp2
   repeat (go_quiet (fail); try go_wp2)
   go_loopg [5] kj2 (fun kq v5 w' => ∃ (x5_2 : Int), v5 = .int .i64 x5_2 ∧ Aside0 (thalwegref06_Same.l0 kq x5_2 a0_0 l0_1 a1_0 l1_1 = some r) ∧ Aside0 (kq ≤ kj2) ∧ Aside0 (w'.heap[gb474]? = some (.cells #[.int .i64 a0_0, (.slice A0_1 l0_1.length c0_1)] 42 (0, 0))) ∧ Aside0 (w'.heap[gb475]? = some (.cells #[.int .i64 a1_0, (.slice A1_1 l1_1.length c1_1)] 42 (0, 0))) ∧ Aside0 (Below w.heap.size w w'))
   case atStart => exact ⟨(0), gv, H', ⟨Nat.le_refl _⟩, ⟨uK BK474⟩, ⟨uK BK475⟩, ⟨uB HB⟩⟩
   case round =>
    clear H'; (try clear c1); (try clear p2); (try clear c4); (try clear c6); (try clear c6b0); (try clear c6b1); (try clear c7); (try clear c10); (try clear c13); (try clear q11_0); (try clear q11_1); (try clear q12_0); (try clear q12_1); (try clear q8_0); (try clear q8_1); (try clear q9_0); (try clear q9_1); (try clear f11_0); (try clear f11_1); (try clear f12_0); (try clear f12_1); (try clear f8_0); (try clear f8_1); (try clear f9_0); (try clear f9_1); (try clear p2); obtain ⟨x5_2, rfl, HA, HK2, BK474, BK475, HB⟩ := hrel
    cases gk with
    | zero => exact absurd HA.out (by simp [thalwegref06_Same.l0])
    | succ k2 =>
     have H := HA.out
     clear HA
     simp only [thalwegref06_Same.l0] at H
     by_cases c14 : x5_2 < (l0_1.length : Int)
     ·rw [if_pos c14] at H
      have c14b0 := decide_eq_true c14; clear c14
      by_cases c15 : 0 ≤ x5_2
      rotate_left
      ·rw [if_neg c15] at H
       exact absurd H (by simp)
      rw [if_pos c15] at H; have c15b0 : decide (0 ≤ x5_2) = true := decide_eq_true c15; clear c15
      by_cases c16 : x5_2 < (l1_1.length : Int)
      rotate_left
      ·rw [if_neg c16] at H
       exact absurd H (by simp)
      rw [if_pos c16] at H; have c16b0 := decide_eq_true c16; clear c16
      by_cases c17 : (!(((rd_T101 l0_1 x5_2).f0) == ((rd_T101 l1_1 x5_2).f0)) || (!(((rd_T101 l0_1 x5_2).f1) == ((rd_T101 l1_1 x5_2).f1)))) = true
      ·rw [if_pos c17] at H
       exact absurd H (by simp)
      rw [if_neg c17] at H
      have c17b0 : (!(((rd_T101 l0_1 x5_2).f0) == ((rd_T101 l1_1 x5_2).f0)) || (!(((rd_T101 l0_1 x5_2).f1) == ((rd_T101 l1_1 x5_2).f1)))) = false := by simpa using c17
      clear c17
      have H' := Aside0.mk H
      clear H; have hnb18 := NB474_475.out; have hnc18 := NB475_474.out; obtain ⟨q19_0, q19_1⟩ := cA2 BK474; obtain ⟨f19_0, f19_1⟩ := fA2 BK474
      have p476 : 0 ≤ (x5_2 : Int) := of_decide_eq_true gA
      have q476 : x5_2 < (l0_1.length : Int) := of_decide_eq_true gA
      obtain ⟨ad476, e476, hx476_0, hx476_1⟩ := at_T101 HR0_1.out x5_2 p476 q476
      cases e476
      replace hx476_0 := bc HB hx476_0; replace hx476_1 := bc HB hx476_1; replace p476 := eq_true p476; replace q476 := eq_true q476; obtain ⟨q20_0, q20_1⟩ := cA2 BK475; obtain ⟨f20_0, f20_1⟩ := fA2 BK475
      have p477 : 0 ≤ (x5_2 : Int) := of_decide_eq_true gA
      have q477 : x5_2 < (l1_1.length : Int) := of_decide_eq_true gA
      obtain ⟨ad477, e477, hx477_0, hx477_1⟩ := at_T101 HR1_1.out x5_2 p477 q477
      cases e477
      replace hx477_0 := bc HB hx477_0; replace hx477_1 := bc HB hx477_1; replace p477 := eq_true p477; replace q477 := eq_true q477
      go_wp2
      repeat (go_quiet (fail); try go_wp2)
      go_roundg k2
      case measure => have := HJ2.out; have := HK2.out; omega
      case rel => exact ⟨(wrap64 (x5_2 + 1)), gv, H', ⟨by have := HJ2.out; have := HK2.out; omega⟩, ⟨uK BK474⟩, ⟨uK BK475⟩, ⟨uB HB⟩⟩
     rw [if_neg c14] at H
     have c14b0 : decide (x5_2 < (l0_1.length : Int)) = false := decide_eq_false c14
     clear c14
     obtain rfl := Option.some.inj H
     have hnb21 := NB474_475.out; have hnc21 := NB475_474.out; obtain ⟨q22_0, q22_1⟩ := cA2 BK474; obtain ⟨f22_0, f22_1⟩ := fA2 BK474
     go_wp2
     repeat (go_quiet (fail); try go_wp2)
     go_ret
     exact ⟨gE, uB HB⟩
end Go.Proofs.Ytpgmmnlkiogamaa.P
namespace Go.Proofs.Ytpgmmnlkiogamaa.P
open Go.RowKit YtpgmmnlkiogamaaW.PrintWords YtpgmmnlkiogamaaW.PrintLast YtpgmmnlkiogamaaW.PrintMore
attribute [local go_sem] max2_int min2_int max_two min_two max_three min_three max_four min_four
attribute [local go_sem high] eqA62
def thalwegref04_Same.l0 : Nat → List (S62) → List (S62) → Int → Option (Bool)
 | 0, _, _, _ => none
 | k + 1, x0, x1, x5 => if x5 < (x0.length : Int) then (if 0 ≤ x5 then (if x5 < (x1.length : Int) then (if (!(((rd_T62 x0 x5).f0) == ((rd_T62 x1 x5).f0)) || (!(((rd_T62 x0 x5).f1) == ((rd_T62 x1 x5).f1)) || ((!(((rd_T62 x0 x5).f2.f0) == ((rd_T62 x1 x5).f2.f0)) || (!(((rd_T62 x0 x5).f2.f1) == ((rd_T62 x1 x5).f2.f1)) || (!(((rd_T62 x0 x5).f2.f2) == ((rd_T62 x1 x5).f2.f2)) || (!(((rd_T62 x0 x5).f2.f3) == ((rd_T62 x1 x5).f2.f3)) || (!(((rd_T62 x0 x5).f2.f4) == ((rd_T62 x1 x5).f2.f4)) || (!(((rd_T62 x0 x5).f2.f5) == ((rd_T62 x1 x5).f2.f5)))))))) || ((!(((rd_T62 x0 x5).f3.f0) == ((rd_T62 x1 x5).f3.f0)) || (!(((rd_T62 x0 x5).f3.f1) == ((rd_T62 x1 x5).f3.f1)) || (!(((rd_T62 x0 x5).f3.f2) == ((rd_T62 x1 x5).f3.f2))))) || (!(((rd_T62 x0 x5).f4) == ((rd_T62 x1 x5).f4))))))) = true then (none) else (thalwegref04_Same.l0 k x0 x1 (wrap64 (x5 + 1)))) else (none)) else (none)) else (some true)
def thalwegref04_Same.f (k : Nat) (l0 : List (S62)) (l1 : List (S62)) : Option (Bool) := if (l0.length : Int) = (l1.length : Int) then (thalwegref04_Same.l0 k l0 l1 0) else (none)
theorem thalwegref04_Same.mono_l : ∀ k, (∀ y0 y1 y2, LeO (thalwegref04_Same.l0 k y0 y1 y2) (thalwegref04_Same.l0 (k + 1) y0 y1 y2))
 | 0 => fun _ _ _ r h => by simp [thalwegref04_Same.l0] at h
 | k + 1 => by
  have ih0 := thalwegref04_Same.mono_l k
  ·intro y0 y1 y2
   unfold thalwegref04_Same.l0
   repeat' first
   | (with_reducible exact ih0 _ _ _)
   | (with_reducible exact LeO.refl _)
   | (with_reducible exact LeO.none _)
   | (with_reducible refine LeO.ite ?_ ?_)
   | (with_reducible refine LeO.bind ?_ (fun _ => ?_))
   | exact ih0 _ _ _
   | exact LeO.none _
   | refine LeO.ite ?_ ?_
   | refine LeO.bind ?_ (fun _ => ?_)
theorem thalwegref04_Same.mono : ∀ a0 a1 k, LeO (thalwegref04_Same.f k a0 a1) (thalwegref04_Same.f (k + 1) a0 a1) := by
 intro a0 a1 k
 have ih0 := thalwegref04_Same.mono_l k
 unfold thalwegref04_Same.f
 repeat' first
   | (with_reducible exact ih0 _ _ _)
   | (with_reducible exact LeO.refl _)
   | (with_reducible exact LeO.none _)
   | (with_reducible refine LeO.ite ?_ ?_)
   | (with_reducible refine LeO.bind ?_ (fun _ => ?_))
   | exact ih0 _ _ _
   | exact LeO.none _
   | refine LeO.ite ?_ ?_
   | refine LeO.bind ?_ (fun _ => ?_)
theorem thalwegref04_Same.calls (k : Nat) (A0 : Option Addr) (c0 : Nat) (l0 : List (S62)) (A1 : Option Addr) (c1 : Nat) (l1 : List (S62)) (r : Bool) (w : World) (hr0 : Kd.C k62 w A0 l0.length l0) (hc0 : l0.length ≤ c0) (hr1 : Kd.C k62 w A1 l1.length l1) (hc1 : l1.length ≤ c1) (h : thalwegref04_Same.f k l0 l1 = some r) :
  Calls Try.prog 59 #[.slice A0 l0.length c0, .slice A1 l1.length c1] w fun e w' => e = .returned (.bool r) ∧ Drawn0 w w' := by
 have hu62 := Try.underlying62; have HR0 := Aside0.mk hr0; have HC0 := Aside0.mk hc0; clear hr0 hc0; have HR1 := Aside0.mk hr1; have HC1 := Aside0.mk hc1; clear hr1 hc1
 have H : (if (l0.length : Int) = (l1.length : Int) then (thalwegref04_Same.l0 k l0 l1 0) else (none)) = some r := h
 clear h
 by_cases c3 : (l0.length : Int) = (l1.length : Int)
 rotate_left
 ·rw [if_neg c3] at H
  exact absurd H (by simp)
 rw [if_pos c3] at H
 have c3b0 : ((l0.length : Int) == (l1.length : Int)) = true := beq_iff_eq.mpr c3
 have c3b1 : ((l0.length : Int) != (l1.length : Int)) = false := bne_eq_false_iff_eq.mpr c3
 have c3b2 : (l0.length == l1.length) = true := by first | simpa using c3 | (simp at c3 ⊢; omega)
 clear c3
 have H' := Aside0.mk H
 clear H
 go_enter Try.func59, Try.ntmps59
 go_wp2
 repeat (go_quiet (fail); try go_wp2)
 go_loopg [5] k (fun kq v5 w' => ∃ (x5_1 : Int), v5 = .int .i64 x5_1 ∧ Aside0 (thalwegref04_Same.l0 kq l0 l1 x5_1 = some r) ∧ Aside0 (kq ≤ k) ∧ Drawn0 w w')
 case atStart => exact ⟨(0), gv, H', ⟨Nat.le_refl _⟩, by repeat (first | exact Drawn0.refl _ | apply Drawn0.step)⟩
 case round =>
  clear H'; (try clear c1); (try clear p2); (try clear c3); (try clear c3b0); (try clear c3b1); (try clear c3b2)
  obtain ⟨x5_1, rfl, HA, HK1, ⟨m1, rfl⟩⟩ := hrel
  cases gk with
  | zero => exact absurd HA.out (by simp [thalwegref04_Same.l0])
  | succ k1 =>
   have H := HA.out
   clear HA
   simp only [thalwegref04_Same.l0] at H
   by_cases c4 : x5_1 < (l0.length : Int)
   ·rw [if_pos c4] at H
    have c4b0 := decide_eq_true c4; clear c4
    by_cases c5 : 0 ≤ x5_1
    rotate_left
    ·rw [if_neg c5] at H
     exact absurd H (by simp)
    rw [if_pos c5] at H; have c5b0 : decide (0 ≤ x5_1) = true := decide_eq_true c5; clear c5
    by_cases c6 : x5_1 < (l1.length : Int)
    rotate_left
    ·rw [if_neg c6] at H
     exact absurd H (by simp)
    rw [if_pos c6] at H; have c6b0 := decide_eq_true c6; clear c6
    by_cases c7 : (!(((rd_T62 l0 x5_1).f0) == ((rd_T62 l1 x5_1).f0)) || (!(((rd_T62 l0 x5_1).f1) == ((rd_T62 l1 x5_1).f1)) || ((!(((rd_T62 l0 x5_1).f2.f0) == ((rd_T62 l1 x5_1).f2.f0)) || (!(((rd_T62 l0 x5_1).f2.f1) == ((rd_T62 l1 x5_1).f2.f1)) || (!(((rd_T62 l0 x5_1).f2.f2) == ((rd_T62 l1 x5_1).f2.f2)) || (!(((rd_T62 l0 x5_1).f2.f3) == ((rd_T62 l1 x5_1).f2.f3)) || (!(((rd_T62 l0 x5_1).f2.f4) == ((rd_T62 l1 x5_1).f2.f4)) || (!(((rd_T62 l0 x5_1).f2.f5) == ((rd_T62 l1 x5_1).f2.f5)))))))) || ((!(((rd_T62 l0 x5_1).f3.f0) == ((rd_T62 l1 x5_1).f3.f0)) || (!(((rd_T62 l0 x5_1).f3.f1) == ((rd_T62 l1 x5_1).f3.f1)) || (!(((rd_T62 l0 x5_1).f3.f2) == ((rd_T62 l1 x5_1).f3.f2))))) || (!(((rd_T62 l0 x5_1).f4) == ((rd_T62 l1 x5_1).f4))))))) = true
    ·rw [if_pos c7] at H
     exact absurd H (by simp)
    rw [if_neg c7] at H
    have c7b0 : (!(((rd_T62 l0 x5_1).f0) == ((rd_T62 l1 x5_1).f0)) || (!(((rd_T62 l0 x5_1).f1) == ((rd_T62 l1 x5_1).f1)) || ((!(((rd_T62 l0 x5_1).f2.f0) == ((rd_T62 l1 x5_1).f2.f0)) || (!(((rd_T62 l0 x5_1).f2.f1) == ((rd_T62 l1 x5_1).f2.f1)) || (!(((rd_T62 l0 x5_1).f2.f2) == ((rd_T62 l1 x5_1).f2.f2)) || (!(((rd_T62 l0 x5_1).f2.f3) == ((rd_T62 l1 x5_1).f2.f3)) || (!(((rd_T62 l0 x5_1).f2.f4) == ((rd_T62 l1 x5_1).f2.f4)) || (!(((rd_T62 l0 x5_1).f2.f5) == ((rd_T62 l1 x5_1).f2.f5)))))))) || ((!(((rd_T62 l0 x5_1).f3.f0) == ((rd_T62 l1 x5_1).f3.f0)) || (!(((rd_T62 l0 x5_1).f3.f1) == ((rd_T62 l1 x5_1).f3.f1)) || (!(((rd_T62 l0 x5_1).f3.f2) == ((rd_T62 l1 x5_1).f3.f2))))) || (!(((rd_T62 l0 x5_1).f4) == ((rd_T62 l1 x5_1).f4))))))) = false := by simpa using c7
    clear c7
    have H' := Aside0.mk H
    clear H
    have p478 : 0 ≤ (x5_1 : Int) := of_decide_eq_true gA
    have q478 : x5_1 < (l0.length : Int) := of_decide_eq_true gA
    obtain ⟨ad478, e478, hx478_0, hx478_1, hx478_2, hx478_3, hx478_4, hx478_5, hx478_6, hx478_7, hx478_8, hx478_9, hx478_10, hx478_11⟩ := at_T62 HR0.out x5_1 p478 q478
    cases e478
    replace p478 := eq_true p478; replace q478 := eq_true q478
    have p479 : 0 ≤ (x5_1 : Int) := of_decide_eq_true gA
    have q479 : x5_1 < (l1.length : Int) := of_decide_eq_true gA
    obtain ⟨ad479, e479, hx479_0, hx479_1, hx479_2, hx479_3, hx479_4, hx479_5, hx479_6, hx479_7, hx479_8, hx479_9, hx479_10, hx479_11⟩ := at_T62 HR1.out x5_1 p479 q479
    cases e479
    replace p479 := eq_true p479; replace q479 := eq_true q479
    go_wp2
    repeat (go_quiet (fail); try go_wp2)
    go_roundg k1
    case measure => have := HK1.out; omega
    case rel => exact ⟨(wrap64 (x5_1 + 1)), gv, H', ⟨by have := HK1.out; omega⟩, by repeat (first | exact Drawn0.refl _ | apply Drawn0.step)⟩
   rw [if_neg c4] at H
   have c4b0 : decide (x5_1 < (l0.length : Int)) = false := decide_eq_false c4
   clear c4
   obtain rfl := Option.some.inj H
   go_wp2
   repeat (go_quiet (fail); try go_wp2)
   go_ret
   exact ⟨by first | rfl | (simp; done) | (simp [*]; done), by repeat (first | exact Drawn0.refl _ | apply Drawn0.step)⟩
end Go.Proofs.Ytpgmmnlkiogamaa.P
namespace Go.Proofs.Ytpgmmnlkiogamaa.P
open Go.RowKit YtpgmmnlkiogamaaW.PrintWords YtpgmmnlkiogamaaW.PrintLast YtpgmmnlkiogamaaW.PrintMore
attribute [local go_sem] max2_int min2_int max_two min_two max_three min_three max_four min_four
def thalwegref05_Same.l0 : Nat → List (S45) → List (S45) → Int → Option (Bool)
 | 0, _, _, _ => none
 | k + 1, x0, x1, x5 => if x5 < (x0.length : Int) then (if 0 ≤ x5 then (if x5 < (x1.length : Int) then (if ((rd_T45 x0 x5).f0) = ((rd_T45 x1 x5).f0) then ((thalwegref04_Same.f k ((rd_T45 x0 x5).f1) ((rd_T45 x1 x5).f1)).bind fun t484 => (if t484 = true then (thalwegref05_Same.l0 k x0 x1 (wrap64 (x5 + 1))) else (none))) else (none)) else (none)) else (none)) else (some true)
def thalwegref05_Same.f (k : Nat) (l0 : List (S45)) (l1 : List (S45)) : Option (Bool) := if (l0.length : Int) = (l1.length : Int) then (thalwegref05_Same.l0 k l0 l1 0) else (none)
theorem thalwegref05_Same.mono_l : ∀ k, (∀ y0 y1 y2, LeO (thalwegref05_Same.l0 k y0 y1 y2) (thalwegref05_Same.l0 (k + 1) y0 y1 y2))
 | 0 => fun _ _ _ r h => by simp [thalwegref05_Same.l0] at h
 | k + 1 => by
  have ih0 := thalwegref05_Same.mono_l k
  ·intro y0 y1 y2
   unfold thalwegref05_Same.l0
   repeat' first
   | (with_reducible exact ih0 _ _ _)
   | (with_reducible exact thalwegref04_Same.mono _ _ _)
   | (with_reducible exact LeO.refl _)
   | (with_reducible exact LeO.none _)
   | (with_reducible refine LeO.ite ?_ ?_)
   | (with_reducible refine LeO.bind ?_ (fun _ => ?_))
   | exact ih0 _ _ _
   | exact thalwegref04_Same.mono _ _ _
   | exact LeO.none _
   | refine LeO.ite ?_ ?_
   | refine LeO.bind ?_ (fun _ => ?_)
theorem thalwegref05_Same.mono : ∀ a0 a1 k, LeO (thalwegref05_Same.f k a0 a1) (thalwegref05_Same.f (k + 1) a0 a1) := by
 intro a0 a1 k
 have ih0 := thalwegref05_Same.mono_l k
 unfold thalwegref05_Same.f
 repeat' first
   | (with_reducible exact ih0 _ _ _)
   | (with_reducible exact thalwegref04_Same.mono _ _ _)
   | (with_reducible exact LeO.refl _)
   | (with_reducible exact LeO.none _)
   | (with_reducible refine LeO.ite ?_ ?_)
   | (with_reducible refine LeO.bind ?_ (fun _ => ?_))
   | exact ih0 _ _ _
   | exact thalwegref04_Same.mono _ _ _
   | exact LeO.none _
   | refine LeO.ite ?_ ?_
   | refine LeO.bind ?_ (fun _ => ?_)
theorem thalwegref05_Same.calls (k : Nat) (A0 : Option Addr) (c0 : Nat) (l0 : List (S45)) (A1 : Option Addr) (c1 : Nat) (l1 : List (S45)) (r : Bool) (w : World) (hr0 : Kd.C k45 w A0 l0.length l0) (hc0 : l0.length ≤ c0) (hr1 : Kd.C k45 w A1 l1.length l1) (hc1 : l1.length ≤ c1) (h : thalwegref05_Same.f k l0 l1 = some r) :
  Calls Try.prog 41 #[.slice A0 l0.length c0, .slice A1 l1.length c1] w fun e w' => e = .returned (.bool r) ∧ Drawn0 w w' := by
 have HR0 := Aside0.mk hr0; have HC0 := Aside0.mk hc0; clear hr0 hc0; have HR1 := Aside0.mk hr1; have HC1 := Aside0.mk hc1; clear hr1 hc1
 have H : (if (l0.length : Int) = (l1.length : Int) then (thalwegref05_Same.l0 k l0 l1 0) else (none)) = some r := h
 clear h
 by_cases c3 : (l0.length : Int) = (l1.length : Int)
 rotate_left
 ·rw [if_neg c3] at H
  exact absurd H (by simp)
 rw [if_pos c3] at H
 have c3b0 : ((l0.length : Int) == (l1.length : Int)) = true := beq_iff_eq.mpr c3
 have c3b1 : ((l0.length : Int) != (l1.length : Int)) = false := bne_eq_false_iff_eq.mpr c3
 have c3b2 : (l0.length == l1.length) = true := by first | simpa using c3 | (simp at c3 ⊢; omega)
 clear c3
 have H' := Aside0.mk H
 clear H
 go_enter Try.func41, Try.ntmps41
 go_wp2
 repeat (go_quiet (fail); try go_wp2)
 go_loopg [5] k (fun kq v5 w' => ∃ (x5_1 : Int), v5 = .int .i64 x5_1 ∧ Aside0 (thalwegref05_Same.l0 kq l0 l1 x5_1 = some r) ∧ Aside0 (kq ≤ k) ∧ Drawn0 w w')
 case atStart => exact ⟨(0), gv, H', ⟨Nat.le_refl _⟩, by repeat (first | exact Drawn0.refl _ | apply Drawn0.step)⟩
 case round =>
  clear H'; (try clear c1); (try clear p2); (try clear c3); (try clear c3b0); (try clear c3b1); (try clear c3b2)
  obtain ⟨x5_1, rfl, HA, HK1, ⟨m1, rfl⟩⟩ := hrel
  cases gk with
  | zero => exact absurd HA.out (by simp [thalwegref05_Same.l0])
  | succ k1 =>
   have H := HA.out
   clear HA
   simp only [thalwegref05_Same.l0] at H
   by_cases c4 : x5_1 < (l0.length : Int)
   ·rw [if_pos c4] at H
    have c4b0 := decide_eq_true c4; clear c4
    by_cases c5 : 0 ≤ x5_1
    rotate_left
    ·rw [if_neg c5] at H
     exact absurd H (by simp)
    rw [if_pos c5] at H; have c5b0 : decide (0 ≤ x5_1) = true := decide_eq_true c5; clear c5
    by_cases c6 : x5_1 < (l1.length : Int)
    rotate_left
    ·rw [if_neg c6] at H
     exact absurd H (by simp)
    rw [if_pos c6] at H; have c6b0 := decide_eq_true c6; clear c6
    by_cases c7 : ((rd_T45 l0 x5_1).f0) = ((rd_T45 l1 x5_1).f0)
    rotate_left
    ·rw [if_neg c7] at H
     exact absurd H (by simp)
    rw [if_pos c7] at H
    have c7b0 : (((rd_T45 l0 x5_1).f0) == ((rd_T45 l1 x5_1).f0)) = true := beq_iff_eq.mpr c7
    have c7b1 : (((rd_T45 l0 x5_1).f0) != ((rd_T45 l1 x5_1).f0)) = false := bne_eq_false_iff_eq.mpr c7
    clear c7; replace H := Option.bind_eq_some_iff.mp H; obtain ⟨t484, A80, H⟩ := H
    replace H : (if t484 = true then (thalwegref05_Same.l0 k1 l0 l1 (wrap64 (x5_1 + 1))) else (none)) = some r := H
    have A8 := Aside0.mk A80; clear A80
    by_cases c9 : t484 = true
    ·subst c9
     rw [if_pos rfl] at H
     have H' := Aside0.mk H
     clear H
     have p480 : 0 ≤ (x5_1 : Int) := of_decide_eq_true gA
     have q480 : x5_1 < (l0.length : Int) := of_decide_eq_true gA
     obtain ⟨ad480, A480_1, c480_1, e480, hx480_0, hx480_1, hl480_1, hi480_1⟩ := at_T45 HR0.out x5_1 p480 q480
     cases e480
     have HR480_1 := Aside0.mk hi480_1; have HC480_1 := Aside0.mk hl480_1; clear hi480_1 hl480_1; replace p480 := eq_true p480; replace q480 := eq_true q480
     have p481 : 0 ≤ (x5_1 : Int) := of_decide_eq_true gA
     have q481 : x5_1 < (l1.length : Int) := of_decide_eq_true gA
     obtain ⟨ad481, A481_1, c481_1, e481, hx481_0, hx481_1, hl481_1, hi481_1⟩ := at_T45 HR1.out x5_1 p481 q481
     cases e481
     have HR481_1 := Aside0.mk hi481_1; have HC481_1 := Aside0.mk hl481_1; clear hi481_1 hl481_1; replace p481 := eq_true p481; replace q481 := eq_true q481
     have p482 : 0 ≤ (x5_1 : Int) := of_decide_eq_true gA
     have q482 : x5_1 < (l0.length : Int) := of_decide_eq_true gA
     obtain ⟨ad482, A482_1, c482_1, e482, hx482_0, hx482_1, hl482_1, hi482_1⟩ := at_T45 HR0.out x5_1 p482 q482
     obtain rfl : ad480 = ad482 := (by injection e482)
     have HR482_1 := Aside0.mk hi482_1; have HC482_1 := Aside0.mk hl482_1; clear hi482_1 hl482_1; replace p482 := eq_true p482; replace q482 := eq_true q482; have ea_ := Option.some.inj (hx480_1.symm.trans hx482_1)
     injection ea_ with ea_ en_ ec_
     subst ea_; subst ec_; clear en_
     have p483 : 0 ≤ (x5_1 : Int) := of_decide_eq_true gA
     have q483 : x5_1 < (l1.length : Int) := of_decide_eq_true gA
     obtain ⟨ad483, A483_1, c483_1, e483, hx483_0, hx483_1, hl483_1, hi483_1⟩ := at_T45 HR1.out x5_1 p483 q483
     obtain rfl : ad481 = ad483 := (by injection e483)
     have HR483_1 := Aside0.mk hi483_1; have HC483_1 := Aside0.mk hl483_1; clear hi483_1 hl483_1; replace p483 := eq_true p483; replace q483 := eq_true q483; have ea_ := Option.some.inj (hx481_1.symm.trans hx483_1)
     injection ea_ with ea_ en_ ec_
     subst ea_; subst ec_; clear en_
     go_wp2_with (first | (go_at_call 59; (with_reducible refine (thalwegref04_Same.calls k1 _ _ ((rd_T45 l0 x5_1).f1) _ _ ((rd_T45 l1 x5_1).f1) true _ ?side1 ?side2 ?side3 ?side4 A8.out).mono ?_); (case side1 => repeat (first | exact HR482_1.out | (with_reducible refine Kd.C_alloc ?_ _) | (with_reducible refine Kd.C_drewN ?_ _) | (with_reducible refine Kd.C_drew ?_))); (case side2 => exact HC482_1.out); (case side3 => repeat (first | exact HR483_1.out | (with_reducible refine Kd.C_alloc ?_ _) | (with_reducible refine Kd.C_drewN ?_ _) | (with_reducible refine Kd.C_drew ?_))); (case side4 => exact HC483_1.out); rintro e w' ⟨rfl, ⟨nd, rfl⟩⟩; (try first | exact ⟨rfl, _, World.drewN_drewN _ _ _⟩ | exact ⟨rfl, _, Eq.trans (World.drewN_drewN _ _ _) (congrArg (World.drewN _) (Nat.add_assoc _ _ _))⟩)))
     repeat (go_quiet (first | (go_at_call 59; (with_reducible refine (thalwegref04_Same.calls k1 _ _ ((rd_T45 l0 x5_1).f1) _ _ ((rd_T45 l1 x5_1).f1) true _ ?side1 ?side2 ?side3 ?side4 A8.out).mono ?_); (case side1 => repeat (first | exact HR482_1.out | (with_reducible refine Kd.C_alloc ?_ _) | (with_reducible refine Kd.C_drewN ?_ _) | (with_reducible refine Kd.C_drew ?_))); (case side2 => exact HC482_1.out); (case side3 => repeat (first | exact HR483_1.out | (with_reducible refine Kd.C_alloc ?_ _) | (with_reducible refine Kd.C_drewN ?_ _) | (with_reducible refine Kd.C_drew ?_))); (case side4 => exact HC483_1.out); rintro e w' ⟨rfl, ⟨nd, rfl⟩⟩; (try first | exact ⟨rfl, _, World.drewN_drewN _ _ _⟩ | exact ⟨rfl, _, Eq.trans (World.drewN_drewN _ _ _) (congrArg (World.drewN _) (Nat.add_assoc _ _ _))⟩))); try go_wp2_with (first | (go_at_call 59; (with_reducible refine (thalwegref04_Same.calls k1 _ _ ((rd_T45 l0 x5_1).f1) _ _ ((rd_T45 l1 x5_1).f1) true _ ?side1 ?side2 ?side3 ?side4 A8.out).mono ?_); (case side1 => repeat (first | exact HR482_1.out | (with_reducible refine Kd.C_alloc ?_ _) | (with_reducible refine Kd.C_drewN ?_ _) | (with_reducible refine Kd.C_drew ?_))); (case side2 => exact HC482_1.out); (case side3 => repeat (first | exact HR483_1.out | (with_reducible refine Kd.C_alloc ?_ _) | (with_reducible refine Kd.C_drewN ?_ _) | (with_reducible refine Kd.C_drew ?_))); (case side4 => exact HC483_1.out); rintro e w' ⟨rfl, ⟨nd, rfl⟩⟩; (try first | exact ⟨rfl, _, World.drewN_drewN _ _ _⟩ | exact ⟨rfl, _, Eq.trans (World.drewN_drewN _ _ _) (congrArg (World.drewN _) (Nat.add_assoc _ _ _))⟩))))
     go_roundg k1
     case measure => have := HK1.out; omega
     case rel => exact ⟨(wrap64 (x5_1 + 1)), gv, H', ⟨by have := HK1.out; omega⟩, by repeat (first | exact Drawn0.refl _ | apply Drawn0.step)⟩
    replace c9 := Bool.eq_false_iff.mpr c9
    subst c9
    rw [if_neg (show ¬ (false = true) by decide)] at H
    exact absurd H (by simp)
   rw [if_neg c4] at H
   have c4b0 : decide (x5_1 < (l0.length : Int)) = false := decide_eq_false c4
   clear c4
   obtain rfl := Option.some.inj H
   go_wp2
   repeat (go_quiet (fail); try go_wp2)
   go_ret
   exact ⟨by first | rfl | (simp; done) | (simp [*]; done), by repeat (first | exact Drawn0.refl _ | apply Drawn0.step)⟩
end Go.Proofs.Ytpgmmnlkiogamaa.P
namespace Go.Proofs.Ytpgmmnlkiogamaa.P
open Go.RowKit YtpgmmnlkiogamaaW.PrintWords YtpgmmnlkiogamaaW.PrintLast YtpgmmnlkiogamaaW.PrintMore
attribute [local go_sem] max2_int min2_int max_two min_two max_three min_three max_four min_four
attribute [local go_sem high] eqA48 eqA106
def thalwegref07_Same.l0 : Nat → List (S106) → List (S106) → Int → Option (Bool)
 | 0, _, _, _ => none
 | k + 1, x0, x1, x5 => if x5 < (x0.length : Int) then (if 0 ≤ x5 then (if x5 < (x1.length : Int) then (if (!(((rd_T106 x0 x5).f0) == ((rd_T106 x1 x5).f0)) || (!(((rd_T106 x0 x5).f1) == ((rd_T106 x1 x5).f1)) || (!(((rd_T106 x0 x5).f2) == ((rd_T106 x1 x5).f2)) || (!(((rd_T106 x0 x5).f3) == ((rd_T106 x1 x5).f3)))))) = true then (none) else (thalwegref07_Same.l0 k x0 x1 (wrap64 (x5 + 1)))) else (none)) else (none)) else (some true)
def thalwegref07_Same.f (k : Nat) (l0 : List (S106)) (l1 : List (S106)) : Option (Bool) := if (l0.length : Int) = (l1.length : Int) then (thalwegref07_Same.l0 k l0 l1 0) else (none)
theorem thalwegref07_Same.mono_l : ∀ k, (∀ y0 y1 y2, LeO (thalwegref07_Same.l0 k y0 y1 y2) (thalwegref07_Same.l0 (k + 1) y0 y1 y2))
 | 0 => fun _ _ _ r h => by simp [thalwegref07_Same.l0] at h
 | k + 1 => by
  have ih0 := thalwegref07_Same.mono_l k
  ·intro y0 y1 y2
   unfold thalwegref07_Same.l0
   repeat' first
   | (with_reducible exact ih0 _ _ _)
   | (with_reducible exact LeO.refl _)
   | (with_reducible exact LeO.none _)
   | (with_reducible refine LeO.ite ?_ ?_)
   | (with_reducible refine LeO.bind ?_ (fun _ => ?_))
   | exact ih0 _ _ _
   | exact LeO.none _
   | refine LeO.ite ?_ ?_
   | refine LeO.bind ?_ (fun _ => ?_)
theorem thalwegref07_Same.mono : ∀ a0 a1 k, LeO (thalwegref07_Same.f k a0 a1) (thalwegref07_Same.f (k + 1) a0 a1) := by
 intro a0 a1 k
 have ih0 := thalwegref07_Same.mono_l k
 unfold thalwegref07_Same.f
 repeat' first
   | (with_reducible exact ih0 _ _ _)
   | (with_reducible exact LeO.refl _)
   | (with_reducible exact LeO.none _)
   | (with_reducible refine LeO.ite ?_ ?_)
   | (with_reducible refine LeO.bind ?_ (fun _ => ?_))
   | exact ih0 _ _ _
   | exact LeO.none _
   | refine LeO.ite ?_ ?_
   | refine LeO.bind ?_ (fun _ => ?_)
theorem thalwegref07_Same.calls (k : Nat) (A0 : Option Addr) (c0 : Nat) (l0 : List (S106)) (A1 : Option Addr) (c1 : Nat) (l1 : List (S106)) (r : Bool) (w : World) (hr0 : Kd.C k106 w A0 l0.length l0) (hc0 : l0.length ≤ c0) (hr1 : Kd.C k106 w A1 l1.length l1) (hc1 : l1.length ≤ c1) (h : thalwegref07_Same.f k l0 l1 = some r) :
  Calls Try.prog 49 #[.slice A0 l0.length c0, .slice A1 l1.length c1] w fun e w' => e = .returned (.bool r) ∧ Drawn0 w w' := by
 have hu106 := Try.underlying106; have HR0 := Aside0.mk hr0; have HC0 := Aside0.mk hc0; clear hr0 hc0; have HR1 := Aside0.mk hr1; have HC1 := Aside0.mk hc1; clear hr1 hc1
 have H : (if (l0.length : Int) = (l1.length : Int) then (thalwegref07_Same.l0 k l0 l1 0) else (none)) = some r := h
 clear h
 by_cases c3 : (l0.length : Int) = (l1.length : Int)
 rotate_left
 ·rw [if_neg c3] at H
  exact absurd H (by simp)
 rw [if_pos c3] at H
 have c3b0 : ((l0.length : Int) == (l1.length : Int)) = true := beq_iff_eq.mpr c3
 have c3b1 : ((l0.length : Int) != (l1.length : Int)) = false := bne_eq_false_iff_eq.mpr c3
 have c3b2 : (l0.length == l1.length) = true := by first | simpa using c3 | (simp at c3 ⊢; omega)
 clear c3
 have H' := Aside0.mk H
 clear H
 go_enter Try.func49, Try.ntmps49
 go_wp2
 repeat (go_quiet (fail); try go_wp2)
 go_loopg [5] k (fun kq v5 w' => ∃ (x5_1 : Int), v5 = .int .i64 x5_1 ∧ Aside0 (thalwegref07_Same.l0 kq l0 l1 x5_1 = some r) ∧ Aside0 (kq ≤ k) ∧ Drawn0 w w')
 case atStart => exact ⟨(0), gv, H', ⟨Nat.le_refl _⟩, by repeat (first | exact Drawn0.refl _ | apply Drawn0.step)⟩
 case round =>
  clear H'; (try clear c1); (try clear p2); (try clear c3); (try clear c3b0); (try clear c3b1); (try clear c3b2)
  obtain ⟨x5_1, rfl, HA, HK1, ⟨m1, rfl⟩⟩ := hrel
  cases gk with
  | zero => exact absurd HA.out (by simp [thalwegref07_Same.l0])
  | succ k1 =>
   have H := HA.out
   clear HA
   simp only [thalwegref07_Same.l0] at H
   by_cases c4 : x5_1 < (l0.length : Int)
   ·rw [if_pos c4] at H
    have c4b0 := decide_eq_true c4; clear c4
    by_cases c5 : 0 ≤ x5_1
    rotate_left
    ·rw [if_neg c5] at H
     exact absurd H (by simp)
    rw [if_pos c5] at H; have c5b0 : decide (0 ≤ x5_1) = true := decide_eq_true c5; clear c5
    by_cases c6 : x5_1 < (l1.length : Int)
    rotate_left
    ·rw [if_neg c6] at H
     exact absurd H (by simp)
    rw [if_pos c6] at H; have c6b0 := decide_eq_true c6; clear c6
    by_cases c7 : (!(((rd_T106 l0 x5_1).f0) == ((rd_T106 l1 x5_1).f0)) || (!(((rd_T106 l0 x5_1).f1) == ((rd_T106 l1 x5_1).f1)) || (!(((rd_T106 l0 x5_1).f2) == ((rd_T106 l1 x5_1).f2)) || (!(((rd_T106 l0 x5_1).f3) == ((rd_T106 l1 x5_1).f3)))))) = true
    ·rw [if_pos c7] at H
     exact absurd H (by simp)
    rw [if_neg c7] at H
    have c7b0 : (!(((rd_T106 l0 x5_1).f0) == ((rd_T106 l1 x5_1).f0)) || (!(((rd_T106 l0 x5_1).f1) == ((rd_T106 l1 x5_1).f1)) || (!(((rd_T106 l0 x5_1).f2) == ((rd_T106 l1 x5_1).f2)) || (!(((rd_T106 l0 x5_1).f3) == ((rd_T106 l1 x5_1).f3)))))) = false := by simpa using c7
    clear c7
    have H' := Aside0.mk H
    clear H
    have p485 : 0 ≤ (x5_1 : Int) := of_decide_eq_true gA
    have q485 : x5_1 < (l0.length : Int) := of_decide_eq_true gA
    obtain ⟨ad485, e485, hx485_0, hx485_1, hx485_2, hx485_3⟩ := at_T106 HR0.out x5_1 p485 q485
    cases e485
    replace p485 := eq_true p485; replace q485 := eq_true q485
    have p486 : 0 ≤ (x5_1 : Int) := of_decide_eq_true gA
    have q486 : x5_1 < (l1.length : Int) := of_decide_eq_true gA
    obtain ⟨ad486, e486, hx486_0, hx486_1, hx486_2, hx486_3⟩ := at_T106 HR1.out x5_1 p486 q486
    cases e486
    replace p486 := eq_true p486; replace q486 := eq_true q486
    go_wp2
    repeat (go_quiet (fail); try go_wp2)
    go_roundg k1
    case measure => have := HK1.out; omega
    case rel => exact ⟨(wrap64 (x5_1 + 1)), gv, H', ⟨by have := HK1.out; omega⟩, by repeat (first | exact Drawn0.refl _ | apply Drawn0.step)⟩
   rw [if_neg c4] at H
   have c4b0 : decide (x5_1 < (l0.length : Int)) = false := decide_eq_false c4
   clear c4
   obtain rfl := Option.some.inj H
   go_wp2
   repeat (go_quiet (fail); try go_wp2)
   go_ret
   exact ⟨by first | rfl | (simp; done) | (simp [*]; done), by repeat (first | exact Drawn0.refl _ | apply Drawn0.step)⟩
def thalwegref09_SamePart.f (k : Nat) (a0_0 : Int) (a0_1 : Int) (l0_2 : List (S101)) (a0_3 : Int) (l0_4 : List (S62)) (l0_5 : List (S106)) (a0_6 : Int) (a0_7 : Int) (a0_8 : Int) (a0_9 : Int) (a0_10 : ByteArray) (a1_0 : Int) (a1_1 : Int) (l1_2 : List (S101)) (a1_3 : Int) (l1_4 : List (S62)) (l1_5 : List (S106)) (a1_6 : Int) (a1_7 : Int) (a1_8 : Int) (a1_9 : Int) (a1_10 : ByteArray) : Option (Bool) := if a0_0 = a1_0 then ((thalwegref06_Same.f k a0_1 l0_2 a1_1 l1_2).bind fun t489 => (if t489 = true then ((thalwegref05_Same.f k (([(⟨a0_3, l0_4⟩ : S45)] : List (S45))) (([(⟨a1_3, l1_4⟩ : S45)] : List (S45)))).bind fun t496 => (if t496 = true then ((thalwegref07_Same.f k l0_5 l1_5).bind fun t497 => (if t497 = true then (some (a0_6 == a1_6 && (a0_7 == a1_7 && (a0_8 == a1_8 && (a0_9 == a1_9 && (a0_10.toList == a1_10.toList)))))) else (none))) else (none))) else (none))) else (none)
theorem thalwegref09_SamePart.mono : ∀ a0 a1 a2 a3 a4 a5 a6 a7 a8 a9 a10 a11 a12 a13 a14 a15 a16 a17 a18 a19 a20 a21 k, LeO (thalwegref09_SamePart.f k a0 a1 a2 a3 a4 a5 a6 a7 a8 a9 a10 a11 a12 a13 a14 a15 a16 a17 a18 a19 a20 a21) (thalwegref09_SamePart.f (k + 1) a0 a1 a2 a3 a4 a5 a6 a7 a8 a9 a10 a11 a12 a13 a14 a15 a16 a17 a18 a19 a20 a21) := by
 intro a0 a1 a2 a3 a4 a5 a6 a7 a8 a9 a10 a11 a12 a13 a14 a15 a16 a17 a18 a19 a20 a21 k
 unfold thalwegref09_SamePart.f
 repeat' first
   | (with_reducible exact thalwegref05_Same.mono _ _ _)
   | (with_reducible exact thalwegref06_Same.mono _ _ _ _ _)
   | (with_reducible exact thalwegref07_Same.mono _ _ _)
   | (with_reducible exact LeO.refl _)
   | (with_reducible exact LeO.none _)
   | (with_reducible refine LeO.ite ?_ ?_)
   | (with_reducible refine LeO.bind ?_ (fun _ => ?_))
   | exact thalwegref05_Same.mono _ _ _
   | exact thalwegref06_Same.mono _ _ _ _ _
   | exact thalwegref07_Same.mono _ _ _
   | exact LeO.none _
   | refine LeO.ite ?_ ?_
   | refine LeO.bind ?_ (fun _ => ?_)
theorem thalwegref09_SamePart.calls (k : Nat) (a0_0 : Int) (a0_1 : Int) (A0_2 : Option Addr) (c0_2 : Nat) (l0_2 : List (S101)) (a0_3 : Int) (P0_4_ : Nat → Prop) (A0_4 : Option Addr) (c0_4 : Nat) (l0_4 : List (S62)) (A0_5 : Option Addr) (c0_5 : Nat) (l0_5 : List (S106)) (a0_6 : Int) (a0_7 : Int) (a0_8 : Int) (a0_9 : Int) (a0_10 : ByteArray) (a1_0 : Int) (a1_1 : Int) (A1_2 : Option Addr) (c1_2 : Nat) (l1_2 : List (S101)) (a1_3 : Int) (P1_4_ : Nat → Prop) (A1_4 : Option Addr) (c1_4 : Nat) (l1_4 : List (S62)) (A1_5 : Option Addr) (c1_5 : Nat) (l1_5 : List (S106)) (a1_6 : Int) (a1_7 : Int) (a1_8 : Int) (a1_9 : Int) (a1_10 : ByteArray) (r : Bool) (w : World) (hr0_2 : Kd.C k101 w A0_2 l0_2.length l0_2) (hc0_2 : l0_2.length ≤ c0_2) (hs0_4 : Kd.V k62 62 w w.heap.size (fun k_ => P0_4_ k_) (.slice A0_4 l0_4.length c0_4) l0_4) (hr0_5 : Kd.C k106 w A0_5 l0_5.length l0_5) (hc0_5 : l0_5.length ≤ c0_5) (hr1_2 : Kd.C k101 w A1_2 l1_2.length l1_2) (hc1_2 : l1_2.length ≤ c1_2) (hs1_4 : Kd.V k62 62 w w.heap.size (fun k_ => P1_4_ k_) (.slice A1_4 l1_4.length c1_4) l1_4) (hr1_5 : Kd.C k106 w A1_5 l1_5.length l1_5) (hc1_5 : l1_5.length ≤ c1_5) (h : thalwegref09_SamePart.f k a0_0 a0_1 l0_2 a0_3 l0_4 l0_5 a0_6 a0_7 a0_8 a0_9 a0_10 a1_0 a1_1 l1_2 a1_3 l1_4 l1_5 a1_6 a1_7 a1_8 a1_9 a1_10 = some r) :
  Calls Try.prog 29 #[.agg #[.int .i64 a0_0, .int .i64 a0_1, .slice A0_2 l0_2.length c0_2, .int .i64 a0_3, .slice A0_4 l0_4.length c0_4, .slice A0_5 l0_5.length c0_5, .int .i64 a0_6, .int .i64 a0_7, .int .i64 a0_8, .int .i64 a0_9, .string a0_10], .agg #[.int .i64 a1_0, .int .i64 a1_1, .slice A1_2 l1_2.length c1_2, .int .i64 a1_3, .slice A1_4 l1_4.length c1_4, .slice A1_5 l1_5.length c1_5, .int .i64 a1_6, .int .i64 a1_7, .int .i64 a1_8, .int .i64 a1_9, .string a1_10]] w fun e w' => e = .returned (.bool r) ∧ Below w.heap.size w w' := by
 have hu50 := Try.underlying50; have hu42 := Try.underlying42; have hu45 := Try.underlying45; have hu48 := Try.underlying48; have HR0_2 := Aside0.mk hr0_2; have HC0_2 := Aside0.mk hc0_2; clear hr0_2 hc0_2; have HO0_4 := Aside0.mk (show Kd.V k62 62 w w.heap.size (fun k_ => ((P0_4_ k_ ∨ P1_4_ k_) ∨ w.heap.size ≤ k_)) (.slice A0_4 l0_4.length c0_4) l0_4 from Kd.V_mono hs0_4 (fun k_ hk => .inl (.inl hk))); have HR0_5 := Aside0.mk hr0_5; have HC0_5 := Aside0.mk hc0_5; clear hr0_5 hc0_5; have HR1_2 := Aside0.mk hr1_2; have HC1_2 := Aside0.mk hc1_2; clear hr1_2 hc1_2; have HO1_4 := Aside0.mk (show Kd.V k62 62 w w.heap.size (fun k_ => ((P0_4_ k_ ∨ P1_4_ k_) ∨ w.heap.size ≤ k_)) (.slice A1_4 l1_4.length c1_4) l1_4 from Kd.V_mono hs1_4 (fun k_ hk => .inl (.inr hk))); have HR1_5 := Aside0.mk hr1_5; have HC1_5 := Aside0.mk hc1_5; clear hr1_5 hc1_5; have HB := Aside0.mk (Below.refl w.heap.size w)
 have H : (if a0_0 = a1_0 then ((thalwegref06_Same.f k a0_1 l0_2 a1_1 l1_2).bind fun t489 => (if t489 = true then ((thalwegref05_Same.f k (([(⟨a0_3, l0_4⟩ : S45)] : List (S45))) (([(⟨a1_3, l1_4⟩ : S45)] : List (S45)))).bind fun t496 => (if t496 = true then ((thalwegref07_Same.f k l0_5 l1_5).bind fun t497 => (if t497 = true then (some (a0_6 == a1_6 && (a0_7 == a1_7 && (a0_8 == a1_8 && (a0_9 == a1_9 && (a0_10.toList == a1_10.toList)))))) else (none))) else (none))) else (none))) else (none)) = some r := h
 clear h
 by_cases c3 : a0_0 = a1_0
 rotate_left
 ·rw [if_neg c3] at H
  exact absurd H (by simp)
 rw [if_pos c3] at H
 have c3b0 : (a0_0 == a1_0) = true := beq_iff_eq.mpr c3
 have c3b1 : (a0_0 != a1_0) = false := bne_eq_false_iff_eq.mpr c3
 clear c3; replace H := Option.bind_eq_some_iff.mp H; obtain ⟨t489, A40, H⟩ := H
 replace H : (if t489 = true then ((thalwegref05_Same.f k (([(⟨a0_3, l0_4⟩ : S45)] : List (S45))) (([(⟨a1_3, l1_4⟩ : S45)] : List (S45)))).bind fun t496 => (if t496 = true then ((thalwegref07_Same.f k l0_5 l1_5).bind fun t497 => (if t497 = true then (some (a0_6 == a1_6 && (a0_7 == a1_7 && (a0_8 == a1_8 && (a0_9 == a1_9 && (a0_10.toList == a1_10.toList)))))) else (none))) else (none))) else (none)) = some r := H
 have A4 := Aside0.mk A40; clear A40
 by_cases c5 : t489 = true
 ·subst c5
  have H1 : ((thalwegref05_Same.f k (([(⟨a0_3, l0_4⟩ : S45)] : List (S45))) (([(⟨a1_3, l1_4⟩ : S45)] : List (S45)))).bind fun t496 => (if t496 = true then ((thalwegref07_Same.f k l0_5 l1_5).bind fun t497 => (if t497 = true then (some (a0_6 == a1_6 && (a0_7 == a1_7 && (a0_8 == a1_8 && (a0_9 == a1_9 && (a0_10.toList == a1_10.toList)))))) else (none))) else (none))) = some r := by rw [if_pos rfl] at H; exact H
  clear H; have H := H1; clear H1
  obtain ⟨y490, hy490⟩ : ∃ y_ : List (S45), y_ = (([(⟨a0_3, l0_4⟩ : S45)] : List (S45))) := ⟨_, rfl⟩
  replace H : ((thalwegref05_Same.f k y490 (([(⟨a1_3, l1_4⟩ : S45)] : List (S45)))).bind fun t496 => (if t496 = true then ((thalwegref07_Same.f k l0_5 l1_5).bind fun t497 => (if t497 = true then (some (a0_6 == a1_6 && (a0_7 == a1_7 && (a0_8 == a1_8 && (a0_9 == a1_9 && (a0_10.toList == a1_10.toList)))))) else (none))) else (none))) = some r := by first | (rw [hy490]; with_reducible exact H) | (have H2_ := (Option.bind_some _ _).symm.trans H; rw [hy490]; with_reducible exact H2_) | (have H2_ := (Option.bind_some _ _).symm.trans H; with_reducible exact H2_) | with_reducible exact H | (rw [hy490]; exact H) | exact H
  have Ny490 := Aside0.mk hy490; clear hy490
  obtain ⟨y493, hy493⟩ : ∃ y_ : List (S45), y_ = (([(⟨a1_3, l1_4⟩ : S45)] : List (S45))) := ⟨_, rfl⟩
  replace H : ((thalwegref05_Same.f k y490 y493).bind fun t496 => (if t496 = true then ((thalwegref07_Same.f k l0_5 l1_5).bind fun t497 => (if t497 = true then (some (a0_6 == a1_6 && (a0_7 == a1_7 && (a0_8 == a1_8 && (a0_9 == a1_9 && (a0_10.toList == a1_10.toList)))))) else (none))) else (none))) = some r := by first | (rw [hy493]; with_reducible exact H) | (have H2_ := (Option.bind_some _ _).symm.trans H; rw [hy493]; with_reducible exact H2_) | (have H2_ := (Option.bind_some _ _).symm.trans H; with_reducible exact H2_) | with_reducible exact H | (rw [hy493]; exact H) | exact H
  have Ny493 := Aside0.mk hy493; clear hy493; replace H := Option.bind_eq_some_iff.mp H; obtain ⟨t496, A60, H⟩ := H
  replace H : (if t496 = true then ((thalwegref07_Same.f k l0_5 l1_5).bind fun t497 => (if t497 = true then (some (a0_6 == a1_6 && (a0_7 == a1_7 && (a0_8 == a1_8 && (a0_9 == a1_9 && (a0_10.toList == a1_10.toList)))))) else (none))) else (none)) = some r := H
  have A6 := Aside0.mk A60; clear A60
  by_cases c7 : t496 = true
  ·subst c7
   have H1 : ((thalwegref07_Same.f k l0_5 l1_5).bind fun t497 => (if t497 = true then (some (a0_6 == a1_6 && (a0_7 == a1_7 && (a0_8 == a1_8 && (a0_9 == a1_9 && (a0_10.toList == a1_10.toList)))))) else (none))) = some r := by rw [if_pos rfl] at H; exact H
   clear H; have H := H1; clear H1; replace H := Option.bind_eq_some_iff.mp H; obtain ⟨t497, A80, H⟩ := H
   replace H : (if t497 = true then (some (a0_6 == a1_6 && (a0_7 == a1_7 && (a0_8 == a1_8 && (a0_9 == a1_9 && (a0_10.toList == a1_10.toList)))))) else (none)) = some r := H
   have A8 := Aside0.mk A80; clear A80
   by_cases c9 : t497 = true
   ·subst c9
    have H1 : (some (a0_6 == a1_6 && (a0_7 == a1_7 && (a0_8 == a1_8 && (a0_9 == a1_9 && (a0_10.toList == a1_10.toList)))))) = some r := by rw [if_pos rfl] at H; exact H
    clear H; have H := H1; clear H1
    obtain rfl := Option.some.inj H
    go_enter Try.func29, Try.ntmps29
    go_wp2_with (first | ((with_reducible refine gate_dst (N := 2) rfl ?_); (try (refine gate_guard (by rfl) ?_; dsimp only)); refine bx #[.int .i64 a0_0, .int .i64 a0_1, .slice A0_2 l0_2.length c0_2, .int .i64 a0_3, .slice A0_4 l0_4.length c0_4, .slice A0_5 l0_5.length c0_5, .int .i64 a0_6, .int .i64 a0_7, .int .i64 a0_8, .int .i64 a0_9, .string a0_10] 50 ?_; intro gb487 hg w10 hbox hb; replace HO0_4 := Aside0.mk (Kd.V_below (Kd.V_elderB (uV HO0_4) gb487 (Nat.le_of_eq hg.symm)) hb); replace HO1_4 := Aside0.mk (Kd.V_below (Kd.V_elderB (uV HO1_4) gb487 (Nat.le_of_eq hg.symm)) hb); have BK487 := Aside0.mk hbox; have GW487 := ge HB hg; have GE487 := ge HB hg; replace HB := bs HB hb; clear hb hbox hg) | ((with_reducible refine gate_dst (N := 3) rfl ?_); (try (refine gate_guard (by rfl) ?_; dsimp only)); refine bx #[.int .i64 a1_0, .int .i64 a1_1, .slice A1_2 l1_2.length c1_2, .int .i64 a1_3, .slice A1_4 l1_4.length c1_4, .slice A1_5 l1_5.length c1_5, .int .i64 a1_6, .int .i64 a1_7, .int .i64 a1_8, .int .i64 a1_9, .string a1_10] 50 ?_; intro gb488 hg w11 hbox hb; replace HO0_4 := Aside0.mk (Kd.V_below (Kd.V_elderB (uV HO0_4) gb488 (Nat.le_of_eq hg.symm)) hb); replace HO1_4 := Aside0.mk (Kd.V_below (Kd.V_elderB (uV HO1_4) gb488 (Nat.le_of_eq hg.symm)) hb); have BK488 := Aside0.mk hbox; have GW488 := ge HB hg; have GE488 := ge HB hg; replace HB := bs HB hb; have NB487_488 := nL BK487 hg; have NB488_487 := nG BK487 hg; replace BK487 := kb BK487 hb; clear hb hbox hg; have hnb12 := NB487_488.out; have hnc12 := NB488_487.out; obtain ⟨q13_0, q13_1, q13_2, q13_3, q13_4, q13_5, q13_6, q13_7, q13_8, q13_9, q13_10⟩ := cA11 BK487; obtain ⟨f13_0, f13_1, f13_2, f13_3, f13_4, f13_5, f13_6, f13_7, f13_8, f13_9, f13_10⟩ := fA11 BK487; obtain ⟨q14_0, q14_1, q14_2, q14_3, q14_4, q14_5, q14_6, q14_7, q14_8, q14_9, q14_10⟩ := cA11 BK488; obtain ⟨f14_0, f14_1, f14_2, f14_3, f14_4, f14_5, f14_6, f14_7, f14_8, f14_9, f14_10⟩ := fA11 BK488) | (go_at_call 40; (with_reducible refine (thalwegref06_Same.calls k a0_1 _ _ l0_2 a1_1 _ _ l1_2 true _ ?side1 ?side2 ?side3 ?side4 A4.out).mono ?_); (case side1 => repeat (first | exact (Kd.C_below HR0_2.out HB.out) | (with_reducible refine Kd.C_alloc ?_ _) | (with_reducible refine Kd.C_drewN ?_ _) | (with_reducible refine Kd.C_drew ?_))); (case side2 => exact HC0_2.out); (case side3 => repeat (first | exact (Kd.C_below HR1_2.out HB.out) | (with_reducible refine Kd.C_alloc ?_ _) | (with_reducible refine Kd.C_drewN ?_ _) | (with_reducible refine Kd.C_drew ?_))); (case side4 => exact HC1_2.out); rintro e w15 ⟨rfl, hb⟩; replace HO0_4 := Aside0.mk (Kd.V_below (uV HO0_4) hb); replace HO1_4 := Aside0.mk (Kd.V_below (uV HO1_4) hb); replace BK487 := kb BK487 hb; replace BK488 := kb BK488 hb; replace HB := bs HB hb; (try clear hb); (try clear hb2); (try clear hk); (try clear hi); obtain ⟨q16_0, q16_1, q16_2, q16_3, q16_4, q16_5, q16_6, q16_7, q16_8, q16_9, q16_10⟩ := cA11 BK487; obtain ⟨f16_0, f16_1, f16_2, f16_3, f16_4, f16_5, f16_6, f16_7, f16_8, f16_9, f16_10⟩ := fA11 BK487) | ((with_reducible refine gate_dst (N := 20) rfl ?_); (try (refine gate_guard (by rfl) ?_; dsimp only)); refine Kd.N_lit k45 _ 45 ?hg (N' := 20) ?hd (xs := ([(⟨a0_3, l0_4⟩ : S45)] : List (S45))) (inner := [.int .i64 a0_3, .slice A0_4 l0_4.length c0_4]) (ok := (fun k_ => ((P0_4_ k_ ∨ P1_4_ k_) ∨ w.heap.size ≤ k_) ∧ k_ ≠ gb487 ∧ k_ ≠ gb488)) (okp := (fun k_ => ((P0_4_ k_ ∨ P1_4_ k_) ∨ w.heap.size ≤ k_) ∧ k_ ≠ gb487 ∧ k_ ≠ gb488)) ?hr ?hp (fun _ hk => hk) ((show ∀ k_, w15.heap.size ≤ k_ → (fun k_ => ((P0_4_ k_ ∨ P1_4_ k_) ∨ w.heap.size ≤ k_) ∧ k_ ≠ gb487 ∧ k_ ≠ gb488) k_ from fun k_ hk => ⟨(.inr (Nat.le_trans (below_size (uB HB)) hk)), Kd.freshB (g := gb487) (o := .cells #[.int .i64 a0_0, .int .i64 a0_1, .slice A0_2 l0_2.length c0_2, .int .i64 a0_3, .slice A0_4 l0_4.length c0_4, .slice A0_5 l0_5.length c0_5, .int .i64 a0_6, .int .i64 a0_7, .int .i64 a0_8, .int .i64 a0_9, .string a0_10] 50 (0, 0)) (uK BK487) k_ hk, Kd.freshB (g := gb488) (o := .cells #[.int .i64 a1_0, .int .i64 a1_1, .slice A1_2 l1_2.length c1_2, .int .i64 a1_3, .slice A1_4 l1_4.length c1_4, .slice A1_5 l1_5.length c1_5, .int .i64 a1_6, .int .i64 a1_7, .int .i64 a1_8, .int .i64 a1_9, .string a1_10] 50 (0, 0)) (uK BK488) k_ hk⟩) _ (Nat.le_refl _)) (Below.refl _ _) (Nat.le_refl _) (by simp) ?_; (case hd => rfl); (case hg => rfl); (case hr => first | (go_simp; done) | (go_simp; rfl)); (case hp => exact (Reps.c2 (show Kd.FK k45 _ _ (⟨a0_3, l0_4⟩ : S45) [.int .i64 a0_3, .slice A0_4 l0_4.length c0_4] from (k45_mkF _ _ (⟨a0_3, l0_4⟩ : S45) (Kd.V_reads' (Kd.V_mono (ok' := (fun k_ => ((P0_4_ k_ ∨ P1_4_ k_) ∨ w.heap.size ≤ k_) ∧ k_ ≠ gb487 ∧ k_ ≠ gb488)) (HO0_4.out) (fun k_ hk => ⟨hk.1.1, ⟨hk.1.2, hk.2⟩⟩))).2.1 (Kd.V_F (Kd.V_mono (ok' := (fun k_ => ((P0_4_ k_ ∨ P1_4_ k_) ∨ w.heap.size ≤ k_) ∧ k_ ≠ gb487 ∧ k_ ≠ gb488)) (uV HO0_4) (fun k_ hk => by exact ⟨hk.1.1, ⟨hk.1.2, hk.2⟩⟩))))) (Reps.none _ _))); intro v491 w17 ho18 hb hg_ hnew_; clear hg_ hnew_; (first | rw [← Ny490.out] at ho18 | (simp only [Int.reduceToNat] at ho18; rw [← Ny490.out] at ho18)); replace HO0_4 := Aside0.mk (Kd.V_elder' (uV HO0_4) (Kd.N_base ho18) hb); replace HO1_4 := Aside0.mk (Kd.V_elder' (uV HO1_4) (Kd.N_base ho18) hb); have HO492 := Aside0.mk (Kd.N_lower ho18 (below_size (uB HB))); replace BK487 := kb BK487 hb; replace BK488 := kb BK488 hb; replace HB := bs HB hb; clear hb ho18; obtain ⟨q19_0, q19_1, q19_2, q19_3, q19_4, q19_5, q19_6, q19_7, q19_8, q19_9, q19_10⟩ := cA11 BK488; obtain ⟨f19_0, f19_1, f19_2, f19_3, f19_4, f19_5, f19_6, f19_7, f19_8, f19_9, f19_10⟩ := fA11 BK488) | ((with_reducible refine gate_dst (N := 23) rfl ?_); (try (refine gate_guard (by rfl) ?_; dsimp only)); refine Kd.N_lit k45 _ 45 ?hg (N' := 23) ?hd (xs := ([(⟨a1_3, l1_4⟩ : S45)] : List (S45))) (inner := [.int .i64 a1_3, .slice A1_4 l1_4.length c1_4]) (ok := (fun k_ => ((P0_4_ k_ ∨ P1_4_ k_) ∨ w.heap.size ≤ k_) ∧ some k_ ≠ (v491 : Value).ownBlock ∧ k_ ≠ gb487 ∧ k_ ≠ gb488)) (okp := (fun k_ => ((P0_4_ k_ ∨ P1_4_ k_) ∨ w.heap.size ≤ k_) ∧ some k_ ≠ (v491 : Value).ownBlock ∧ k_ ≠ gb487 ∧ k_ ≠ gb488)) ?hr ?hp (fun _ hk => hk) ((show ∀ k_, w17.heap.size ≤ k_ → (fun k_ => ((P0_4_ k_ ∨ P1_4_ k_) ∨ w.heap.size ≤ k_) ∧ some k_ ≠ (v491 : Value).ownBlock ∧ k_ ≠ gb487 ∧ k_ ≠ gb488) k_ from fun k_ hk => ⟨(.inr (Nat.le_trans (below_size (uB HB)) hk)), Kd.fresh' (Kd.N_lt (uN HO492)) k_ hk, Kd.freshB (g := gb487) (o := .cells #[.int .i64 a0_0, .int .i64 a0_1, .slice A0_2 l0_2.length c0_2, .int .i64 a0_3, .slice A0_4 l0_4.length c0_4, .slice A0_5 l0_5.length c0_5, .int .i64 a0_6, .int .i64 a0_7, .int .i64 a0_8, .int .i64 a0_9, .string a0_10] 50 (0, 0)) (uK BK487) k_ hk, Kd.freshB (g := gb488) (o := .cells #[.int .i64 a1_0, .int .i64 a1_1, .slice A1_2 l1_2.length c1_2, .int .i64 a1_3, .slice A1_4 l1_4.length c1_4, .slice A1_5 l1_5.length c1_5, .int .i64 a1_6, .int .i64 a1_7, .int .i64 a1_8, .int .i64 a1_9, .string a1_10] 50 (0, 0)) (uK BK488) k_ hk⟩) _ (Nat.le_refl _)) (Below.refl _ _) (Nat.le_refl _) (by simp) ?_; (case hd => rfl); (case hg => rfl); (case hr => first | (go_simp; done) | (go_simp; rfl)); (case hp => exact (Reps.c2 (show Kd.FK k45 _ _ (⟨a1_3, l1_4⟩ : S45) [.int .i64 a1_3, .slice A1_4 l1_4.length c1_4] from (k45_mkF _ _ (⟨a1_3, l1_4⟩ : S45) (Kd.V_reads' (Kd.V_mono (ok' := (fun k_ => ((P0_4_ k_ ∨ P1_4_ k_) ∨ w.heap.size ≤ k_) ∧ some k_ ≠ (v491 : Value).ownBlock ∧ k_ ≠ gb487 ∧ k_ ≠ gb488)) (HO1_4.out) (fun k_ hk => ⟨hk.1.1.1, ⟨hk.2, ⟨hk.1.1.2, hk.1.2⟩⟩⟩))).2.1 (Kd.V_F (Kd.V_mono (ok' := (fun k_ => ((P0_4_ k_ ∨ P1_4_ k_) ∨ w.heap.size ≤ k_) ∧ some k_ ≠ (v491 : Value).ownBlock ∧ k_ ≠ gb487 ∧ k_ ≠ gb488)) (uV HO1_4) (fun k_ hk => by exact ⟨hk.1.1.1, ⟨hk.2, ⟨hk.1.1.2, hk.1.2⟩⟩⟩))))) (Reps.none _ _))); intro v494 w20 ho21 hb hg_ hnew_; clear hg_ hnew_; (first | rw [← Ny493.out] at ho21 | (simp only [Int.reduceToNat] at ho21; rw [← Ny493.out] at ho21)); replace HO0_4 := Aside0.mk (Kd.V_elder' (uV HO0_4) (Kd.N_base ho21) hb); replace HO1_4 := Aside0.mk (Kd.V_elder' (uV HO1_4) (Kd.N_base ho21) hb); replace HO492 := Aside0.mk (Kd.N_elder' (uN HO492) (Kd.N_base ho21) hb); have HO495 := Aside0.mk (Kd.N_lower ho21 (below_size (uB HB))); replace BK487 := kb BK487 hb; replace BK488 := kb BK488 hb; replace HB := bs HB hb; clear hb ho21; obtain ⟨Ao22, co22, eo22⟩ := Kd.N_slice HO492.out; subst eo22; obtain ⟨Ao23, co23, eo23⟩ := Kd.N_slice HO495.out; subst eo23) | (go_at_call 41; (with_reducible refine (thalwegref05_Same.calls k _ _ y490 _ _ y493 true _ ?side1 ?side2 ?side3 ?side4 A6.out).mono ?_); (case side1 => repeat (first | exact (Kd.N_reads' HO492.out).2.2 | (with_reducible refine Kd.C_alloc ?_ _) | (with_reducible refine Kd.C_drewN ?_ _) | (with_reducible refine Kd.C_drew ?_))); (case side2 => exact (Kd.N_reads' HO492.out).2.1); (case side3 => repeat (first | exact (Kd.N_reads' HO495.out).2.2 | (with_reducible refine Kd.C_alloc ?_ _) | (with_reducible refine Kd.C_drewN ?_ _) | (with_reducible refine Kd.C_drew ?_))); (case side4 => exact (Kd.N_reads' HO495.out).2.1); rintro e w' ⟨rfl, ⟨nd, rfl⟩⟩; obtain ⟨q24_0, q24_1, q24_2, q24_3, q24_4, q24_5, q24_6, q24_7, q24_8, q24_9, q24_10⟩ := cA11 BK487; obtain ⟨f24_0, f24_1, f24_2, f24_3, f24_4, f24_5, f24_6, f24_7, f24_8, f24_9, f24_10⟩ := fA11 BK487; obtain ⟨q25_0, q25_1, q25_2, q25_3, q25_4, q25_5, q25_6, q25_7, q25_8, q25_9, q25_10⟩ := cA11 BK488; obtain ⟨f25_0, f25_1, f25_2, f25_3, f25_4, f25_5, f25_6, f25_7, f25_8, f25_9, f25_10⟩ := fA11 BK488) | (go_at_call 49; (with_reducible refine (thalwegref07_Same.calls k _ _ l0_5 _ _ l1_5 true _ ?side1 ?side2 ?side3 ?side4 A8.out).mono ?_); (case side1 => repeat (first | exact (Kd.C_below HR0_5.out (uB HB)) | (with_reducible refine Kd.C_alloc ?_ _) | (with_reducible refine Kd.C_drewN ?_ _) | (with_reducible refine Kd.C_drew ?_))); (case side2 => exact HC0_5.out); (case side3 => repeat (first | exact (Kd.C_below HR1_5.out (uB HB)) | (with_reducible refine Kd.C_alloc ?_ _) | (with_reducible refine Kd.C_drewN ?_ _) | (with_reducible refine Kd.C_drew ?_))); (case side4 => exact HC1_5.out); rintro e w' ⟨rfl, ⟨nd, rfl⟩⟩))
    go_ret
    exact ⟨gE, uB HB⟩
   replace c9 := Bool.eq_false_iff.mpr c9
   subst c9
   rw [if_neg (show ¬ (false = true) by decide)] at H
   exact absurd H (by simp)
  replace c7 := Bool.eq_false_iff.mpr c7
  subst c7
  rw [if_neg (show ¬ (false = true) by decide)] at H
  exact absurd H (by simp)
 replace c5 := Bool.eq_false_iff.mpr c5
 subst c5
 rw [if_neg (show ¬ (false = true) by decide)] at H
 exact absurd H (by simp)
end Go.Proofs.Ytpgmmnlkiogamaa.P
namespace Go.Proofs.Ytpgmmnlkiogamaa.P
open Go.RowKit YtpgmmnlkiogamaaW.PrintWords YtpgmmnlkiogamaaW.PrintLast YtpgmmnlkiogamaaW.PrintMore
attribute [local go_sem] max2_int min2_int max_two min_two max_three min_three max_four min_four
mutual
def thalwegref09_Same.j0 : Nat → Bool → Int → Int → Int → Int → List (S50) → Int → Int → Int → Int → List (S50) → Option (Bool)
 | 0, _, _, _, _, _, _, _, _, _, _, _ => none
 | k + 1, x40, x499000, x499001, x499002, x499003, x499004, x500000, x500001, x500002, x500003, x500004 => if x40 = true then (none) else (thalwegref09_Same.l0 k 0 x499000 x499001 x499002 x499003 x499004 x500000 x500001 x500002 x500003 x500004)
def thalwegref09_Same.l0 : Nat → Int → Int → Int → Int → Int → List (S50) → Int → Int → Int → Int → List (S50) → Option (Bool)
 | 0, _, _, _, _, _, _, _, _, _, _, _ => none
 | k + 1, x5, x499000, x499001, x499002, x499003, x499004, x500000, x500001, x500002, x500003, x500004 => if x5 < (x499004.length : Int) then (if 0 ≤ x5 then (if x5 < (x500004.length : Int) then ((thalwegref09_SamePart.f k ((rd_T50 x499004 x5).f0) ((rd_T50 x499004 x5).f1.f0) ((rd_T50 x499004 x5).f1.f1) ((rd_T50 x499004 x5).f2.f0) ((rd_T50 x499004 x5).f2.f1) ((rd_T50 x499004 x5).f3) ((rd_T50 x499004 x5).f4.f0) ((rd_T50 x499004 x5).f4.f1) ((rd_T50 x499004 x5).f4.f2) ((rd_T50 x499004 x5).f4.f3) ((rd_T50 x499004 x5).f4.f4) ((rd_T50 x500004 x5).f0) ((rd_T50 x500004 x5).f1.f0) ((rd_T50 x500004 x5).f1.f1) ((rd_T50 x500004 x5).f2.f0) ((rd_T50 x500004 x5).f2.f1) ((rd_T50 x500004 x5).f3) ((rd_T50 x500004 x5).f4.f0) ((rd_T50 x500004 x5).f4.f1) ((rd_T50 x500004 x5).f4.f2) ((rd_T50 x500004 x5).f4.f3) ((rd_T50 x500004 x5).f4.f4)).bind fun t502 => (if t502 = true then (thalwegref09_Same.l0 k (wrap64 (x5 + 1)) x499000 x499001 x499002 x499003 x499004 x500000 x500001 x500002 x500003 x500004) else (none))) else (none)) else (none)) else (some true)
end
def thalwegref09_Same.f (k : Nat) (a0_0 : Int) (a0_1 : Int) (a0_2 : Int) (a0_3 : Int) (l0_4 : List (S50)) (a1_0 : Int) (a1_1 : Int) (a1_2 : Int) (a1_3 : Int) (l1_4 : List (S50)) : Option (Bool) := if a0_0 = a1_0 then (if a0_2 = a1_2 then (if a0_1 = a1_1 then (if a0_3 = a1_3 then (thalwegref09_Same.j0 k ((l0_4.length : Int) != (l1_4.length : Int)) a0_0 a0_1 a0_2 a0_3 l0_4 a1_0 a1_1 a1_2 a1_3 l1_4) else (thalwegref09_Same.j0 k true a0_0 a0_1 a0_2 a0_3 l0_4 a1_0 a1_1 a1_2 a1_3 l1_4)) else (thalwegref09_Same.j0 k true a0_0 a0_1 a0_2 a0_3 l0_4 a1_0 a1_1 a1_2 a1_3 l1_4)) else (thalwegref09_Same.j0 k true a0_0 a0_1 a0_2 a0_3 l0_4 a1_0 a1_1 a1_2 a1_3 l1_4)) else (thalwegref09_Same.j0 k true a0_0 a0_1 a0_2 a0_3 l0_4 a1_0 a1_1 a1_2 a1_3 l1_4)
theorem thalwegref09_Same.mono_l : ∀ k, (∀ y0 y1 y2 y3 y4 y5 y6 y7 y8 y9 y10, LeO (thalwegref09_Same.j0 k y0 y1 y2 y3 y4 y5 y6 y7 y8 y9 y10) (thalwegref09_Same.j0 (k + 1) y0 y1 y2 y3 y4 y5 y6 y7 y8 y9 y10)) ∧ (∀ y0 y1 y2 y3 y4 y5 y6 y7 y8 y9 y10, LeO (thalwegref09_Same.l0 k y0 y1 y2 y3 y4 y5 y6 y7 y8 y9 y10) (thalwegref09_Same.l0 (k + 1) y0 y1 y2 y3 y4 y5 y6 y7 y8 y9 y10))
 | 0 => ⟨fun _ _ _ _ _ _ _ _ _ _ _ r h => by simp [thalwegref09_Same.j0] at h, fun _ _ _ _ _ _ _ _ _ _ _ r h => by simp [thalwegref09_Same.l0] at h⟩
 | k + 1 => by
  obtain ⟨ih0, ih1⟩ := thalwegref09_Same.mono_l k
  refine ⟨?_, ?_⟩
  ·intro y0 y1 y2 y3 y4 y5 y6 y7 y8 y9 y10
   unfold thalwegref09_Same.j0
   repeat' first
   | (with_reducible exact ih0 _ _ _ _ _ _ _ _ _ _ _)
   | (with_reducible exact ih1 _ _ _ _ _ _ _ _ _ _ _)
   | (with_reducible exact thalwegref09_SamePart.mono _ _ _ _ _ _ _ _ _ _ _ _ _ _ _ _ _ _ _ _ _ _ _)
   | (with_reducible exact LeO.refl _)
   | (with_reducible exact LeO.none _)
   | (with_reducible refine LeO.ite ?_ ?_)
   | (with_reducible refine LeO.bind ?_ (fun _ => ?_))
   | exact ih0 _ _ _ _ _ _ _ _ _ _ _
   | exact ih1 _ _ _ _ _ _ _ _ _ _ _
   | exact thalwegref09_SamePart.mono _ _ _ _ _ _ _ _ _ _ _ _ _ _ _ _ _ _ _ _ _ _ _
   | exact LeO.none _
   | refine LeO.ite ?_ ?_
   | refine LeO.bind ?_ (fun _ => ?_)
  intro y0 y1 y2 y3 y4 y5 y6 y7 y8 y9 y10
  unfold thalwegref09_Same.l0
  repeat' first
  | (with_reducible exact ih0 _ _ _ _ _ _ _ _ _ _ _)
  | (with_reducible exact ih1 _ _ _ _ _ _ _ _ _ _ _)
  | (with_reducible exact thalwegref09_SamePart.mono _ _ _ _ _ _ _ _ _ _ _ _ _ _ _ _ _ _ _ _ _ _ _)
  | (with_reducible exact LeO.refl _)
  | (with_reducible exact LeO.none _)
  | (with_reducible refine LeO.ite ?_ ?_)
  | (with_reducible refine LeO.bind ?_ (fun _ => ?_))
  | exact ih0 _ _ _ _ _ _ _ _ _ _ _
  | exact ih1 _ _ _ _ _ _ _ _ _ _ _
  | exact thalwegref09_SamePart.mono _ _ _ _ _ _ _ _ _ _ _ _ _ _ _ _ _ _ _ _ _ _ _
  | exact LeO.none _
  | refine LeO.ite ?_ ?_
  | refine LeO.bind ?_ (fun _ => ?_)
theorem thalwegref09_Same.mono : ∀ a0 a1 a2 a3 a4 a5 a6 a7 a8 a9 k, LeO (thalwegref09_Same.f k a0 a1 a2 a3 a4 a5 a6 a7 a8 a9) (thalwegref09_Same.f (k + 1) a0 a1 a2 a3 a4 a5 a6 a7 a8 a9) := by
 intro a0 a1 a2 a3 a4 a5 a6 a7 a8 a9 k
 obtain ⟨ih0, ih1⟩ := thalwegref09_Same.mono_l k
 unfold thalwegref09_Same.f
 repeat' first
   | (with_reducible exact ih0 _ _ _ _ _ _ _ _ _ _ _)
   | (with_reducible exact ih1 _ _ _ _ _ _ _ _ _ _ _)
   | (with_reducible exact thalwegref09_SamePart.mono _ _ _ _ _ _ _ _ _ _ _ _ _ _ _ _ _ _ _ _ _ _ _)
   | (with_reducible exact LeO.refl _)
   | (with_reducible exact LeO.none _)
   | (with_reducible refine LeO.ite ?_ ?_)
   | (with_reducible refine LeO.bind ?_ (fun _ => ?_))
   | exact ih0 _ _ _ _ _ _ _ _ _ _ _
   | exact ih1 _ _ _ _ _ _ _ _ _ _ _
   | exact thalwegref09_SamePart.mono _ _ _ _ _ _ _ _ _ _ _ _ _ _ _ _ _ _ _ _ _ _ _
   | exact LeO.none _
   | refine LeO.ite ?_ ?_
   | refine LeO.bind ?_ (fun _ => ?_)
def thalwegref09_Same.T6 : Bool × List (List Nat × List Nat) := (true, [([], []), ([0], [0]), ([], []), ([1, 2], [1, 2]), ([3], [3]), ([], []), ([5], [5]), ([], []), ([6, 7], [6, 7]), ([8], [8]), ([4, 9], [4, 9]), ([10], [10])])
def thalwegref09_Same.B6 : List Nat := [0, 1, 0, 7, 15, 0, 32, 0, 224, 480, 1023, 2047]
theorem thalwegref09_Same.tab6 : rtab .any (opsOf Try.f18 6) = thalwegref09_Same.T6 := by kernel_rfl
theorem thalwegref09_Same.bits6 : waitsOk thalwegref09_Same.T6.2 thalwegref09_Same.B6 = true := by kernel_rfl
theorem thalwegref09_Same.calls (k : Nat) (a0_0 : Int) (a0_1 : Int) (a0_2 : Int) (a0_3 : Int) (A0_4 : Option Addr) (c0_4 : Nat) (l0_4 : List (S50)) (a1_0 : Int) (a1_1 : Int) (a1_2 : Int) (a1_3 : Int) (A1_4 : Option Addr) (c1_4 : Nat) (l1_4 : List (S50)) (r : Bool) (w : World) (hr0_4 : Kd.C k50 w A0_4 l0_4.length l0_4) (hc0_4 : l0_4.length ≤ c0_4) (hr1_4 : Kd.C k50 w A1_4 l1_4.length l1_4) (hc1_4 : l1_4.length ≤ c1_4) (h : thalwegref09_Same.f k a0_0 a0_1 a0_2 a0_3 l0_4 a1_0 a1_1 a1_2 a1_3 l1_4 = some r) :
  Calls Try.prog 18 #[.agg #[.int .i64 a0_0, .int .i64 a0_1, .int .i64 a0_2, .int .i64 a0_3, .slice A0_4 l0_4.length c0_4], .agg #[.int .i64 a1_0, .int .i64 a1_1, .int .i64 a1_2, .int .i64 a1_3, .slice A1_4 l1_4.length c1_4]] w fun e w' => e = .returned (.bool r) ∧ Below w.heap.size w w' := by
 have hu24 := Try.underlying24; have hu50 := Try.underlying50; have HR0_4 := Aside0.mk hr0_4; have HC0_4 := Aside0.mk hc0_4; clear hr0_4 hc0_4; have HR1_4 := Aside0.mk hr1_4; have HC1_4 := Aside0.mk hc1_4; clear hr1_4 hc1_4; have HB := Aside0.mk (Below.refl w.heap.size w)
 have H : (if a0_0 = a1_0 then (if a0_2 = a1_2 then (if a0_1 = a1_1 then (if a0_3 = a1_3 then (thalwegref09_Same.j0 k ((l0_4.length : Int) != (l1_4.length : Int)) a0_0 a0_1 a0_2 a0_3 l0_4 a1_0 a1_1 a1_2 a1_3 l1_4) else (thalwegref09_Same.j0 k true a0_0 a0_1 a0_2 a0_3 l0_4 a1_0 a1_1 a1_2 a1_3 l1_4)) else (thalwegref09_Same.j0 k true a0_0 a0_1 a0_2 a0_3 l0_4 a1_0 a1_1 a1_2 a1_3 l1_4)) else (thalwegref09_Same.j0 k true a0_0 a0_1 a0_2 a0_3 l0_4 a1_0 a1_1 a1_2 a1_3 l1_4)) else (thalwegref09_Same.j0 k true a0_0 a0_1 a0_2 a0_3 l0_4 a1_0 a1_1 a1_2 a1_3 l1_4)) = some r := h
 clear h; have HC3 := Aside0.mk H; clear H
 go_enter Try.func18, Try.ntmps18
 go_upto_region 1 with (first | ((with_reducible refine gate_dst (N := 2) rfl ?_); (try (refine gate_guard (by rfl) ?_; dsimp only)); refine bx #[.int .i64 a0_0, .int .i64 a0_1, .int .i64 a0_2, .int .i64 a0_3, .slice A0_4 l0_4.length c0_4] 24 ?_; intro gb498 hg w4 hbox hb; have BK498 := Aside0.mk hbox; have GW498 := ge HB hg; have GE498 := ge HB hg; replace HB := bs HB hb; clear hb hbox hg) | ((with_reducible refine gate_dst (N := 3) rfl ?_); (try (refine gate_guard (by rfl) ?_; dsimp only)); refine bx #[.int .i64 a1_0, .int .i64 a1_1, .int .i64 a1_2, .int .i64 a1_3, .slice A1_4 l1_4.length c1_4] 24 ?_; intro gb499 hg w5 hbox hb; have BK499 := Aside0.mk hbox; have GW499 := ge HB hg; have GE499 := ge HB hg; replace HB := bs HB hb; have NB498_499 := nL BK498 hg; have NB499_498 := nG BK498 hg; replace BK498 := kb BK498 hb; clear hb hbox hg))
 (try simp only [Act.put, List.setIfInBounds_toArray, List.set_cons_zero, List.set_cons_succ])
 go_cut [40] (fun v40 wc => ∃ (kq : Nat) (x40_2 : Bool), v40 = .bool x40_2 ∧ Aside0 (thalwegref09_Same.j0 kq x40_2 a0_0 a0_1 a0_2 a0_3 l0_4 a1_0 a1_1 a1_2 a1_3 l1_4 = some r) ∧ Aside0 (kq ≤ k) ∧ Aside0 (wc.heap[gb498]? = some (.cells #[.int .i64 a0_0, .int .i64 a0_1, .int .i64 a0_2, .int .i64 a0_3, (.slice A0_4 l0_4.length c0_4)] 24 (0, 0))) ∧ Aside0 (wc.heap[gb499]? = some (.cells #[.int .i64 a1_0, .int .i64 a1_1, .int .i64 a1_2, .int .i64 a1_3, (.slice A1_4 l1_4.length c1_4)] 24 (0, 0))) ∧ Aside0 (Below w.heap.size w wc))
 case first =>
  have H := HC3.out
  clear HC3
  by_cases c6 : a0_0 = a1_0
  ·rw [if_pos c6] at H
   have c6b0 : (a0_0 == a1_0) = true := beq_iff_eq.mpr c6
   have c6b1 : (a0_0 != a1_0) = false := bne_eq_false_iff_eq.mpr c6
   clear c6
   (first | rw [c6b0] | (simp only [i64_w, i32_w]; rw [c6b0]) | rw [c6b1] | skip)
   by_cases c7 : a0_2 = a1_2
   ·rw [if_pos c7] at H
    have c7b0 : (a0_2 == a1_2) = true := beq_iff_eq.mpr c7
    have c7b1 : (a0_2 != a1_2) = false := bne_eq_false_iff_eq.mpr c7
    clear c7
    by_cases c8 : a0_1 = a1_1
    ·rw [if_pos c8] at H
     have c8b0 : (a0_1 == a1_1) = true := beq_iff_eq.mpr c8
     have c8b1 : (a0_1 != a1_1) = false := bne_eq_false_iff_eq.mpr c8
     clear c8
     by_cases c9 : a0_3 = a1_3
     ·rw [if_pos c9] at H
      have c9b0 : (a0_3 == a1_3) = true := beq_iff_eq.mpr c9
      have c9b1 : (a0_3 != a1_3) = false := bne_eq_false_iff_eq.mpr c9
      clear c9
      have H' := Aside0.mk H
      clear H; have hnb10 := NB498_499.out; have hnc10 := NB499_498.out; obtain ⟨q11_0, q11_1, q11_2, q11_3, q11_4⟩ := cA5 BK498; obtain ⟨f11_0, f11_1, f11_2, f11_3, f11_4⟩ := fA5 BK498; obtain ⟨q12_0, q12_1, q12_2, q12_3, q12_4⟩ := cA5 BK499; obtain ⟨f12_0, f12_1, f12_2, f12_3, f12_4⟩ := fA5 BK499
      go_wp2
      go_meet
      case rel => exact ⟨_, (((l0_4.length : Int) != (l1_4.length : Int))), gv, H', ⟨by first | omega | exact Nat.le_refl _⟩, ⟨uK BK498⟩, ⟨uK BK499⟩, ⟨uB HB⟩⟩
     rw [if_neg c9] at H
     have c9b0 : (a0_3 == a1_3) = false := beq_eq_false_iff_ne.mpr c9
     have c9b1 : (a0_3 != a1_3) = true := bne_iff_ne.mpr c9
     have H' := Aside0.mk H
     clear H; have hnb13 := NB498_499.out; have hnc13 := NB499_498.out; obtain ⟨q14_0, q14_1, q14_2, q14_3, q14_4⟩ := cA5 BK498; obtain ⟨f14_0, f14_1, f14_2, f14_3, f14_4⟩ := fA5 BK498; obtain ⟨q15_0, q15_1, q15_2, q15_3, q15_4⟩ := cA5 BK499; obtain ⟨f15_0, f15_1, f15_2, f15_3, f15_4⟩ := fA5 BK499
     go_wp2
     go_meet
     case rel => exact ⟨_, (true), gv, H', ⟨by first | omega | exact Nat.le_refl _⟩, ⟨uK BK498⟩, ⟨uK BK499⟩, ⟨uB HB⟩⟩
    rw [if_neg c8] at H
    have c8b0 : (a0_1 == a1_1) = false := beq_eq_false_iff_ne.mpr c8
    have c8b1 : (a0_1 != a1_1) = true := bne_iff_ne.mpr c8
    have H' := Aside0.mk H
    clear H; have hnb16 := NB498_499.out; have hnc16 := NB499_498.out; obtain ⟨q17_0, q17_1, q17_2, q17_3, q17_4⟩ := cA5 BK498; obtain ⟨f17_0, f17_1, f17_2, f17_3, f17_4⟩ := fA5 BK498; obtain ⟨q18_0, q18_1, q18_2, q18_3, q18_4⟩ := cA5 BK499; obtain ⟨f18_0, f18_1, f18_2, f18_3, f18_4⟩ := fA5 BK499
    go_wp2
    go_meet
    case rel => exact ⟨_, (true), gv, H', ⟨by first | omega | exact Nat.le_refl _⟩, ⟨uK BK498⟩, ⟨uK BK499⟩, ⟨uB HB⟩⟩
   rw [if_neg c7] at H
   have c7b0 : (a0_2 == a1_2) = false := beq_eq_false_iff_ne.mpr c7
   have c7b1 : (a0_2 != a1_2) = true := bne_iff_ne.mpr c7
   have H' := Aside0.mk H
   clear H; have hnb19 := NB498_499.out; have hnc19 := NB499_498.out; obtain ⟨q20_0, q20_1, q20_2, q20_3, q20_4⟩ := cA5 BK498; obtain ⟨f20_0, f20_1, f20_2, f20_3, f20_4⟩ := fA5 BK498; obtain ⟨q21_0, q21_1, q21_2, q21_3, q21_4⟩ := cA5 BK499; obtain ⟨f21_0, f21_1, f21_2, f21_3, f21_4⟩ := fA5 BK499
   go_wp2
   go_meet
   case rel => exact ⟨_, (true), gv, H', ⟨by first | omega | exact Nat.le_refl _⟩, ⟨uK BK498⟩, ⟨uK BK499⟩, ⟨uB HB⟩⟩
  rw [if_neg c6] at H
  have c6b0 : (a0_0 == a1_0) = false := beq_eq_false_iff_ne.mpr c6
  have c6b1 : (a0_0 != a1_0) = true := bne_iff_ne.mpr c6
  (first | rw [c6b0] | (simp only [i64_w, i32_w]; rw [c6b0]) | rw [c6b1] | skip)
  have H' := Aside0.mk H
  clear H; have hnb22 := NB498_499.out; have hnc22 := NB499_498.out; obtain ⟨q23_0, q23_1, q23_2, q23_3, q23_4⟩ := cA5 BK498; obtain ⟨f23_0, f23_1, f23_2, f23_3, f23_4⟩ := fA5 BK498; obtain ⟨q24_0, q24_1, q24_2, q24_3, q24_4⟩ := cA5 BK499; obtain ⟨f24_0, f24_1, f24_2, f24_3, f24_4⟩ := fA5 BK499
  go_wp2
  go_meet
  case rel => exact ⟨_, (true), gv, H', ⟨by first | omega | exact Nat.le_refl _⟩, ⟨uK BK498⟩, ⟨uK BK499⟩, ⟨uB HB⟩⟩
 case rest =>
  clear HC3; (try clear c1); (try clear c2); (try clear p2); (try clear c6); (try clear c6b0); (try clear c6b1); (try clear c7); (try clear c7b0); (try clear c7b1); (try clear c8); (try clear c8b0); (try clear c8b1); (try clear c9); (try clear c9b0); (try clear c9b1); (try clear c10); (try clear c13); (try clear c16); (try clear c18); (try clear c19); (try clear c22); (try clear q11_0); (try clear q11_1); (try clear q11_2); (try clear q11_3); (try clear q11_4); (try clear q12_0); (try clear q12_1); (try clear q12_2); (try clear q12_3); (try clear q12_4); (try clear q14_0); (try clear q14_1); (try clear q14_2); (try clear q14_3); (try clear q14_4); (try clear q15_0); (try clear q15_1); (try clear q15_2); (try clear q15_3); (try clear q15_4); (try clear q17_0); (try clear q17_1); (try clear q17_2); (try clear q17_3); (try clear q17_4); (try clear q18_0); (try clear q18_1); (try clear q18_2); (try clear q18_3); (try clear q18_4); (try clear q20_0); (try clear q20_1); (try clear q20_2); (try clear q20_3); (try clear q20_4); (try clear q21_0); (try clear q21_1); (try clear q21_2); (try clear q21_3); (try clear q21_4); (try clear q23_0); (try clear q23_1); (try clear q23_2); (try clear q23_3); (try clear q23_4); (try clear q24_0); (try clear q24_1); (try clear q24_2); (try clear q24_3); (try clear q24_4); (try clear f11_0); (try clear f11_1); (try clear f11_2); (try clear f11_3); (try clear f11_4); (try clear f12_0); (try clear f12_1); (try clear f12_2); (try clear f12_3); (try clear f12_4); (try clear f14_0); (try clear f14_1); (try clear f14_2); (try clear f14_3); (try clear f14_4); (try clear f15_0); (try clear f15_1); (try clear f15_2); (try clear f15_3); (try clear f15_4); (try clear f17_0); (try clear f17_1); (try clear f17_2); (try clear f17_3); (try clear f17_4); (try clear f18_0); (try clear f18_1); (try clear f18_2); (try clear f18_3); (try clear f18_4); (try clear f20_0); (try clear f20_1); (try clear f20_2); (try clear f20_3); (try clear f20_4); (try clear f21_0); (try clear f21_1); (try clear f21_2); (try clear f21_3); (try clear f21_4); (try clear f23_0); (try clear f23_1); (try clear f23_2); (try clear f23_3); (try clear f23_4); (try clear f24_0); (try clear f24_1); (try clear f24_2); (try clear f24_3); (try clear f24_4); obtain ⟨kq, x40_2, rfl, HA, HJ2, BK498, BK499, HB⟩ := hcut
  cases kq with
  | zero => exact absurd HA.out (by simp [thalwegref09_Same.j0])
  | succ kj2 =>
   have H := HA.out
   clear HA
   simp only [thalwegref09_Same.j0] at H
   by_cases c25 : x40_2 = true
   ·subst c25
    rw [if_pos rfl] at H
    exact absurd H (by simp)
   replace c25 := Bool.eq_false_iff.mpr c25
   subst c25
   rw [if_neg (show ¬ (false = true) by decide)] at H
   have H' := Aside0.mk H
   clear H
   go_wp2
   go_loopg [5] kj2 (fun kq v5 w' => ∃ (x5_2 : Int), v5 = .int .i64 x5_2 ∧ Aside0 (thalwegref09_Same.l0 kq x5_2 a0_0 a0_1 a0_2 a0_3 l0_4 a1_0 a1_1 a1_2 a1_3 l1_4 = some r) ∧ Aside0 (kq ≤ kj2) ∧ Aside0 (w'.heap[gb498]? = some (.cells #[.int .i64 a0_0, .int .i64 a0_1, .int .i64 a0_2, .int .i64 a0_3, (.slice A0_4 l0_4.length c0_4)] 24 (0, 0))) ∧ Aside0 (w'.heap[gb499]? = some (.cells #[.int .i64 a1_0, .int .i64 a1_1, .int .i64 a1_2, .int .i64 a1_3, (.slice A1_4 l1_4.length c1_4)] 24 (0, 0))) ∧ Aside0 (Below w.heap.size w w'))
   case atStart => exact ⟨(0), gv, H', ⟨Nat.le_refl _⟩, ⟨uK BK498⟩, ⟨uK BK499⟩, ⟨uB HB⟩⟩
   case round =>
    clear H'; (try clear c1); (try clear c2); (try clear p2); (try clear c6); (try clear c6b0); (try clear c6b1); (try clear c7); (try clear c7b0); (try clear c7b1); (try clear c8); (try clear c8b0); (try clear c8b1); (try clear c9); (try clear c9b0); (try clear c9b1); (try clear c10); (try clear c13); (try clear c16); (try clear c18); (try clear c19); (try clear c22); (try clear c25); (try clear q11_0); (try clear q11_1); (try clear q11_2); (try clear q11_3); (try clear q11_4); (try clear q12_0); (try clear q12_1); (try clear q12_2); (try clear q12_3); (try clear q12_4); (try clear q14_0); (try clear q14_1); (try clear q14_2); (try clear q14_3); (try clear q14_4); (try clear q15_0); (try clear q15_1); (try clear q15_2); (try clear q15_3); (try clear q15_4); (try clear q17_0); (try clear q17_1); (try clear q17_2); (try clear q17_3); (try clear q17_4); (try clear q18_0); (try clear q18_1); (try clear q18_2); (try clear q18_3); (try clear q18_4); (try clear q20_0); (try clear q20_1); (try clear q20_2); (try clear q20_3); (try clear q20_4); (try clear q21_0); (try clear q21_1); (try clear q21_2); (try clear q21_3); (try clear q21_4); (try clear q23_0); (try clear q23_1); (try clear q23_2); (try clear q23_3); (try clear q23_4); (try clear q24_0); (try clear q24_1); (try clear q24_2); (try clear q24_3); (try clear q24_4); (try clear f11_0); (try clear f11_1); (try clear f11_2); (try clear f11_3); (try clear f11_4); (try clear f12_0); (try clear f12_1); (try clear f12_2); (try clear f12_3); (try clear f12_4); (try clear f14_0); (try clear f14_1); (try clear f14_2); (try clear f14_3); (try clear f14_4); (try clear f15_0); (try clear f15_1); (try clear f15_2); (try clear f15_3); (try clear f15_4); (try clear f17_0); (try clear f17_1); (try clear f17_2); (try clear f17_3); (try clear f17_4); (try clear f18_0); (try clear f18_1); (try clear f18_2); (try clear f18_3); (try clear f18_4); (try clear f20_0); (try clear f20_1); (try clear f20_2); (try clear f20_3); (try clear f20_4); (try clear f21_0); (try clear f21_1); (try clear f21_2); (try clear f21_3); (try clear f21_4); (try clear f23_0); (try clear f23_1); (try clear f23_2); (try clear f23_3); (try clear f23_4); (try clear f24_0); (try clear f24_1); (try clear f24_2); (try clear f24_3); (try clear f24_4); (try clear p2); obtain ⟨x5_2, rfl, HA, HK2, BK498, BK499, HB⟩ := hrel
    cases gk with
    | zero => exact absurd HA.out (by simp [thalwegref09_Same.l0])
    | succ k2 =>
     have H := HA.out
     clear HA
     simp only [thalwegref09_Same.l0] at H
     by_cases c26 : x5_2 < (l0_4.length : Int)
     ·rw [if_pos c26] at H
      have c26b0 := decide_eq_true c26; clear c26
      by_cases c27 : 0 ≤ x5_2
      rotate_left
      ·rw [if_neg c27] at H
       exact absurd H (by simp)
      rw [if_pos c27] at H; have c27b0 : decide (0 ≤ x5_2) = true := decide_eq_true c27; clear c27
      by_cases c28 : x5_2 < (l1_4.length : Int)
      rotate_left
      ·rw [if_neg c28] at H
       exact absurd H (by simp)
      rw [if_pos c28] at H; have c28b0 := decide_eq_true c28; clear c28; replace H := Option.bind_eq_some_iff.mp H; obtain ⟨t502, A290, H⟩ := H
      replace H : (if t502 = true then (thalwegref09_Same.l0 k2 (wrap64 (x5_2 + 1)) a0_0 a0_1 a0_2 a0_3 l0_4 a1_0 a1_1 a1_2 a1_3 l1_4) else (none)) = some r := H
      have A29 := Aside0.mk A290; clear A290
      by_cases c30 : t502 = true
      ·subst c30
       rw [if_pos rfl] at H
       have H' := Aside0.mk H
       clear H; have hnb31 := NB498_499.out; have hnc31 := NB499_498.out; obtain ⟨q32_0, q32_1, q32_2, q32_3, q32_4⟩ := cA5 BK498; obtain ⟨f32_0, f32_1, f32_2, f32_3, f32_4⟩ := fA5 BK498
       try go_wp2
       replace BK498 := Aside0.mk (blk_drew BK498.out); replace BK499 := Aside0.mk (blk_drew BK499.out); replace HB := Aside0.mk (below_drew1 HB.out)
       have p500 : 0 ≤ (x5_2 : Int) := of_decide_eq_true gA
       have q500 : x5_2 < (l0_4.length : Int) := of_decide_eq_true gA
       obtain ⟨ad500, A500_2, c500_2, A500_4, c500_4, A500_5, c500_5, e500, hx500_0, hx500_1, hx500_2, hx500_3, hx500_4, hx500_5, hx500_6, hx500_7, hx500_8, hx500_9, hx500_10, hl500_2, hi500_2, hl500_4, hi500_4, hl500_5, hi500_5⟩ := at_T50 HR0_4.out x5_2 p500 q500; have hw500_10 := hx500_10; have hw500_9 := hx500_9; have hw500_8 := hx500_8; have hw500_7 := hx500_7; have hw500_6 := hx500_6; have hw500_5 := hx500_5; have hw500_4 := hx500_4; have hw500_3 := hx500_3; have hw500_2 := hx500_2; have hw500_1 := hx500_1; have hw500_0 := hx500_0
       cases e500
       replace hx500_0 := bc HB hx500_0; replace hx500_1 := bc HB hx500_1; replace hx500_2 := bc HB hx500_2; replace hx500_3 := bc HB hx500_3; replace hx500_4 := bc HB hx500_4; replace hx500_5 := bc HB hx500_5; replace hx500_6 := bc HB hx500_6; replace hx500_7 := bc HB hx500_7; replace hx500_8 := bc HB hx500_8; replace hx500_9 := bc HB hx500_9; replace hx500_10 := bc HB hx500_10; have HR500_2 := Aside0.mk hi500_2; have HC500_2 := Aside0.mk hl500_2; clear hi500_2 hl500_2; have HR500_4 := Aside0.mk hi500_4; have HC500_4 := Aside0.mk hl500_4; clear hi500_4 hl500_4; have HR500_5 := Aside0.mk hi500_5; have HC500_5 := Aside0.mk hl500_5; clear hi500_5 hl500_5; replace p500 := eq_true p500; replace q500 := eq_true q500
       have p501 : 0 ≤ (x5_2 : Int) := of_decide_eq_true gA
       have q501 : x5_2 < (l1_4.length : Int) := of_decide_eq_true gA
       obtain ⟨ad501, A501_2, c501_2, A501_4, c501_4, A501_5, c501_5, e501, hx501_0, hx501_1, hx501_2, hx501_3, hx501_4, hx501_5, hx501_6, hx501_7, hx501_8, hx501_9, hx501_10, hl501_2, hi501_2, hl501_4, hi501_4, hl501_5, hi501_5⟩ := at_T50 HR1_4.out x5_2 p501 q501; have hw501_10 := hx501_10; have hw501_9 := hx501_9; have hw501_8 := hx501_8; have hw501_7 := hx501_7; have hw501_6 := hx501_6; have hw501_5 := hx501_5; have hw501_4 := hx501_4; have hw501_3 := hx501_3; have hw501_2 := hx501_2; have hw501_1 := hx501_1; have hw501_0 := hx501_0
       cases e501
       replace hx501_0 := bc HB hx501_0; replace hx501_1 := bc HB hx501_1; replace hx501_2 := bc HB hx501_2; replace hx501_3 := bc HB hx501_3; replace hx501_4 := bc HB hx501_4; replace hx501_5 := bc HB hx501_5; replace hx501_6 := bc HB hx501_6; replace hx501_7 := bc HB hx501_7; replace hx501_8 := bc HB hx501_8; replace hx501_9 := bc HB hx501_9; replace hx501_10 := bc HB hx501_10; have HR501_2 := Aside0.mk hi501_2; have HC501_2 := Aside0.mk hl501_2; clear hi501_2 hl501_2; have HR501_4 := Aside0.mk hi501_4; have HC501_4 := Aside0.mk hl501_4; clear hi501_4 hl501_4; have HR501_5 := Aside0.mk hi501_5; have HC501_5 := Aside0.mk hl501_5; clear hi501_5 hl501_5; replace p501 := eq_true p501; replace q501 := eq_true q501
       refine start_ (n := 12) (S := fun w' => w'.cell? ⟨gb498, 0, none⟩ = some (.int .i64 a0_0) ∧ w'.cell? ⟨gb498, 1, none⟩ = some (.int .i64 a0_1) ∧ w'.cell? ⟨gb498, 2, none⟩ = some (.int .i64 a0_2) ∧ w'.cell? ⟨gb498, 3, none⟩ = some (.int .i64 a0_3) ∧ w'.cell? ⟨gb498, 4, none⟩ = some (.slice (some ad500) l0_4.length c0_4) ∧ w'.cell? ⟨gb499, 0, none⟩ = some (.int .i64 a1_0) ∧ w'.cell? ⟨gb499, 1, none⟩ = some (.int .i64 a1_1) ∧ w'.cell? ⟨gb499, 2, none⟩ = some (.int .i64 a1_2) ∧ w'.cell? ⟨gb499, 3, none⟩ = some (.int .i64 a1_3) ∧ w'.cell? ⟨gb499, 4, none⟩ = some (.slice (some ad501) l1_4.length c1_4) ∧ w'.cell? (ad500.add ((x5_2).toNat * 11)) = some (.int .i64 ((rd_T50 l0_4 x5_2).f0)) ∧ w'.cell? ⟨(ad500.add ((x5_2).toNat * 11)).block, (ad500.add ((x5_2).toNat * 11)).off + 1, none⟩ = some (.int .i64 ((rd_T50 l0_4 x5_2).f1.f0)) ∧ w'.cell? ⟨(ad500.add ((x5_2).toNat * 11)).block, (ad500.add ((x5_2).toNat * 11)).off + 2, none⟩ = some (.slice A500_2 ((rd_T50 l0_4 x5_2).f1.f1).length c500_2) ∧ w'.cell? ⟨(ad500.add ((x5_2).toNat * 11)).block, (ad500.add ((x5_2).toNat * 11)).off + 3, none⟩ = some (.int .i64 ((rd_T50 l0_4 x5_2).f2.f0)) ∧ w'.cell? ⟨(ad500.add ((x5_2).toNat * 11)).block, (ad500.add ((x5_2).toNat * 11)).off + 4, none⟩ = some (.slice A500_4 ((rd_T50 l0_4 x5_2).f2.f1).length c500_4) ∧ w'.cell? ⟨(ad500.add ((x5_2).toNat * 11)).block, (ad500.add ((x5_2).toNat * 11)).off + 5, none⟩ = some (.slice A500_5 ((rd_T50 l0_4 x5_2).f3).length c500_5) ∧ w'.cell? ⟨(ad500.add ((x5_2).toNat * 11)).block, (ad500.add ((x5_2).toNat * 11)).off + 6, none⟩ = some (.int .i64 ((rd_T50 l0_4 x5_2).f4.f0)) ∧ w'.cell? ⟨(ad500.add ((x5_2).toNat * 11)).block, (ad500.add ((x5_2).toNat * 11)).off + 7, none⟩ = some (.int .i64 ((rd_T50 l0_4 x5_2).f4.f1)) ∧ w'.cell? ⟨(ad500.add ((x5_2).toNat * 11)).block, (ad500.add ((x5_2).toNat * 11)).off + 8, none⟩ = some (.int .i64 ((rd_T50 l0_4 x5_2).f4.f2)) ∧ w'.cell? ⟨(ad500.add ((x5_2).toNat * 11)).block, (ad500.add ((x5_2).toNat * 11)).off + 9, none⟩ = some (.int .i64 ((rd_T50 l0_4 x5_2).f4.f3)) ∧ w'.cell? ⟨(ad500.add ((x5_2).toNat * 11)).block, (ad500.add ((x5_2).toNat * 11)).off + 10, none⟩ = some (.string ((rd_T50 l0_4 x5_2).f4.f4)) ∧ w'.cell? (ad501.add ((x5_2).toNat * 11)) = some (.int .i64 ((rd_T50 l1_4 x5_2).f0)) ∧ w'.cell? ⟨(ad501.add ((x5_2).toNat * 11)).block, (ad501.add ((x5_2).toNat * 11)).off + 1, none⟩ = some (.int .i64 ((rd_T50 l1_4 x5_2).f1.f0)) ∧ w'.cell? ⟨(ad501.add ((x5_2).toNat * 11)).block, (ad501.add ((x5_2).toNat * 11)).off + 2, none⟩ = some (.slice A501_2 ((rd_T50 l1_4 x5_2).f1.f1).length c501_2) ∧ w'.cell? ⟨(ad501.add ((x5_2).toNat * 11)).block, (ad501.add ((x5_2).toNat * 11)).off + 3, none⟩ = some (.int .i64 ((rd_T50 l1_4 x5_2).f2.f0)) ∧ w'.cell? ⟨(ad501.add ((x5_2).toNat * 11)).block, (ad501.add ((x5_2).toNat * 11)).off + 4, none⟩ = some (.slice A501_4 ((rd_T50 l1_4 x5_2).f2.f1).length c501_4) ∧ w'.cell? ⟨(ad501.add ((x5_2).toNat * 11)).block, (ad501.add ((x5_2).toNat * 11)).off + 5, none⟩ = some (.slice A501_5 ((rd_T50 l1_4 x5_2).f3).length c501_5) ∧ w'.cell? ⟨(ad501.add ((x5_2).toNat * 11)).block, (ad501.add ((x5_2).toNat * 11)).off + 6, none⟩ = some (.int .i64 ((rd_T50 l1_4 x5_2).f4.f0)) ∧ w'.cell? ⟨(ad501.add ((x5_2).toNat * 11)).block, (ad501.add ((x5_2).toNat * 11)).off + 7, none⟩ = some (.int .i64 ((rd_T50 l1_4 x5_2).f4.f1)) ∧ w'.cell? ⟨(ad501.add ((x5_2).toNat * 11)).block, (ad501.add ((x5_2).toNat * 11)).off + 8, none⟩ = some (.int .i64 ((rd_T50 l1_4 x5_2).f4.f2)) ∧ w'.cell? ⟨(ad501.add ((x5_2).toNat * 11)).block, (ad501.add ((x5_2).toNat * 11)).off + 9, none⟩ = some (.int .i64 ((rd_T50 l1_4 x5_2).f4.f3)) ∧ w'.cell? ⟨(ad501.add ((x5_2).toNat * 11)).block, (ad501.add ((x5_2).toNat * 11)).off + 10, none⟩ = some (.string ((rd_T50 l1_4 x5_2).f4.f4))) (ds := []) #[false, false, false, false, false, false, false, false, false, false, false, false] (by kernel_rfl) rfl rfl ⟨(blk_cell BK498.out 0).trans rfl, (blk_cell BK498.out 1).trans rfl, (blk_cell BK498.out 2).trans rfl, (blk_cell BK498.out 3).trans rfl, (blk_cell BK498.out 4).trans rfl, (blk_cell BK499.out 0).trans rfl, (blk_cell BK499.out 1).trans rfl, (blk_cell BK499.out 2).trans rfl, (blk_cell BK499.out 3).trans rfl, (blk_cell BK499.out 4).trans rfl, ((HB.out.cell (World.block_lt_of_cell? w _ hw500_0)).trans hw500_0), ((HB.out.cell (World.block_lt_of_cell? w _ hw500_1)).trans hw500_1), ((HB.out.cell (World.block_lt_of_cell? w _ hw500_2)).trans hw500_2), ((HB.out.cell (World.block_lt_of_cell? w _ hw500_3)).trans hw500_3), ((HB.out.cell (World.block_lt_of_cell? w _ hw500_4)).trans hw500_4), ((HB.out.cell (World.block_lt_of_cell? w _ hw500_5)).trans hw500_5), ((HB.out.cell (World.block_lt_of_cell? w _ hw500_6)).trans hw500_6), ((HB.out.cell (World.block_lt_of_cell? w _ hw500_7)).trans hw500_7), ((HB.out.cell (World.block_lt_of_cell? w _ hw500_8)).trans hw500_8), ((HB.out.cell (World.block_lt_of_cell? w _ hw500_9)).trans hw500_9), ((HB.out.cell (World.block_lt_of_cell? w _ hw500_10)).trans hw500_10), ((HB.out.cell (World.block_lt_of_cell? w _ hw501_0)).trans hw501_0), ((HB.out.cell (World.block_lt_of_cell? w _ hw501_1)).trans hw501_1), ((HB.out.cell (World.block_lt_of_cell? w _ hw501_2)).trans hw501_2), ((HB.out.cell (World.block_lt_of_cell? w _ hw501_3)).trans hw501_3), ((HB.out.cell (World.block_lt_of_cell? w _ hw501_4)).trans hw501_4), ((HB.out.cell (World.block_lt_of_cell? w _ hw501_5)).trans hw501_5), ((HB.out.cell (World.block_lt_of_cell? w _ hw501_6)).trans hw501_6), ((HB.out.cell (World.block_lt_of_cell? w _ hw501_7)).trans hw501_7), ((HB.out.cell (World.block_lt_of_cell? w _ hw501_8)).trans hw501_8), ((HB.out.cell (World.block_lt_of_cell? w _ hw501_9)).trans hw501_9), ((HB.out.cell (World.block_lt_of_cell? w _ hw501_10)).trans hw501_10)⟩ (fun hHeld => ?_)
       refine with_tabW thalwegref09_Same.tab6 thalwegref09_Same.bits6 (fun HT_ HW_ => ?_)
       generalize wr.drew = w33 at BK498 BK499 HB HR500_2 HR500_4 HR500_5 HR501_2 HR501_4 HR501_5 hx500_0 hx500_1 hx500_10 hx500_2 hx500_3 hx500_4 hx500_5 hx500_6 hx500_7 hx500_8 hx500_9 hx501_0 hx501_1 hx501_10 hx501_2 hx501_3 hx501_4 hx501_5 hx501_6 hx501_7 hx501_8 hx501_9 hHeld ⊢
       refine pA 0 (some 48) ?_; refine pA 2 (some 50) ?_; refine pA 5 (some 53) ?_; refine pA 7 (some 55) ?_; refine tA 1 (some 49) ?_; refine pA 3 (some 51) ?_; refine tA 4 (some 52) ?_; refine tA 6 (some 54) ?_; refine pA 8 (some 56) ?_; refine tA 9 (some 57) ?_
       refine oA 10 (some 58) (fun K hK => ?_)
       refine gR Try.func29 #[.agg #[.int .i64 ((rd_T50 l0_4 x5_2).f0), .int .i64 ((rd_T50 l0_4 x5_2).f1.f0), .slice A500_2 ((rd_T50 l0_4 x5_2).f1.f1).length c500_2, .int .i64 ((rd_T50 l0_4 x5_2).f2.f0), .slice A500_4 ((rd_T50 l0_4 x5_2).f2.f1).length c500_4, .slice A500_5 ((rd_T50 l0_4 x5_2).f3).length c500_5, .int .i64 ((rd_T50 l0_4 x5_2).f4.f0), .int .i64 ((rd_T50 l0_4 x5_2).f4.f1), .int .i64 ((rd_T50 l0_4 x5_2).f4.f2), .int .i64 ((rd_T50 l0_4 x5_2).f4.f3), .string ((rd_T50 l0_4 x5_2).f4.f4)], .agg #[.int .i64 ((rd_T50 l1_4 x5_2).f0), .int .i64 ((rd_T50 l1_4 x5_2).f1.f0), .slice A501_2 ((rd_T50 l1_4 x5_2).f1.f1).length c501_2, .int .i64 ((rd_T50 l1_4 x5_2).f2.f0), .slice A501_4 ((rd_T50 l1_4 x5_2).f2.f1).length c501_4, .slice A501_5 ((rd_T50 l1_4 x5_2).f3).length c501_5, .int .i64 ((rd_T50 l1_4 x5_2).f4.f0), .int .i64 ((rd_T50 l1_4 x5_2).f4.f1), .int .i64 ((rd_T50 l1_4 x5_2).f4.f2), .int .i64 ((rd_T50 l1_4 x5_2).f4.f3), .string ((rd_T50 l1_4 x5_2).f4.f4)]] ?_
       with_reducible refine (thalwegref09_SamePart.calls k2 ((rd_T50 l0_4 x5_2).f0) ((rd_T50 l0_4 x5_2).f1.f0) _ _ ((rd_T50 l0_4 x5_2).f1.f1) ((rd_T50 l0_4 x5_2).f2.f0) (fun k_ => k_ < w.heap.size) _ _ ((rd_T50 l0_4 x5_2).f2.f1) _ _ ((rd_T50 l0_4 x5_2).f3) ((rd_T50 l0_4 x5_2).f4.f0) ((rd_T50 l0_4 x5_2).f4.f1) ((rd_T50 l0_4 x5_2).f4.f2) ((rd_T50 l0_4 x5_2).f4.f3) ((rd_T50 l0_4 x5_2).f4.f4) ((rd_T50 l1_4 x5_2).f0) ((rd_T50 l1_4 x5_2).f1.f0) _ _ ((rd_T50 l1_4 x5_2).f1.f1) ((rd_T50 l1_4 x5_2).f2.f0) (fun k_ => k_ < w.heap.size) _ _ ((rd_T50 l1_4 x5_2).f2.f1) _ _ ((rd_T50 l1_4 x5_2).f3) ((rd_T50 l1_4 x5_2).f4.f0) ((rd_T50 l1_4 x5_2).f4.f1) ((rd_T50 l1_4 x5_2).f4.f2) ((rd_T50 l1_4 x5_2).f4.f3) ((rd_T50 l1_4 x5_2).f4.f4) true _ ?side1 ?side2 ?side3 ?side4 ?side5 ?side6 ?side7 ?side8 ?side9 ?side10 A29.out).mono ?_
       (case side1 => repeat (first | exact (Kd.C_below HR500_2.out HB.out) | (with_reducible refine Kd.C_alloc ?_ _) | (with_reducible refine Kd.C_drewN ?_ _) | (with_reducible refine Kd.C_drew ?_)))
       (case side2 => exact HC500_2.out)
       (case side3 => exact Kd.V_mk HC500_4.out (Kd.F_below (Kd.C_F k62_heap HR500_4.out) (uB HB)))
       (case side4 => repeat (first | exact (Kd.C_below HR500_5.out HB.out) | (with_reducible refine Kd.C_alloc ?_ _) | (with_reducible refine Kd.C_drewN ?_ _) | (with_reducible refine Kd.C_drew ?_)))
       (case side5 => exact HC500_5.out)
       (case side6 => repeat (first | exact (Kd.C_below HR501_2.out HB.out) | (with_reducible refine Kd.C_alloc ?_ _) | (with_reducible refine Kd.C_drewN ?_ _) | (with_reducible refine Kd.C_drew ?_)))
       (case side7 => exact HC501_2.out)
       (case side8 => exact Kd.V_mk HC501_4.out (Kd.F_below (Kd.C_F k62_heap HR501_4.out) (uB HB)))
       (case side9 => repeat (first | exact (Kd.C_below HR501_5.out HB.out) | (with_reducible refine Kd.C_alloc ?_ _) | (with_reducible refine Kd.C_drewN ?_ _) | (with_reducible refine Kd.C_drew ?_)))
       (case side10 => exact HC501_5.out)
       rintro e w34 ⟨rfl, hb⟩
       refine ⟨_, rfl, ?_⟩
       replace BK498 := kb BK498 hb; replace BK499 := kb BK499 hb; replace HB := bs HB hb; (try clear hb); (try clear hb2); (try clear hk); (try clear hi)
       refine hK.out _ _ ⟨(blk_cell BK498.out 0).trans rfl, (blk_cell BK498.out 1).trans rfl, (blk_cell BK498.out 2).trans rfl, (blk_cell BK498.out 3).trans rfl, (blk_cell BK498.out 4).trans rfl, (blk_cell BK499.out 0).trans rfl, (blk_cell BK499.out 1).trans rfl, (blk_cell BK499.out 2).trans rfl, (blk_cell BK499.out 3).trans rfl, (blk_cell BK499.out 4).trans rfl, ((HB.out.cell (World.block_lt_of_cell? w _ hw500_0)).trans hw500_0), ((HB.out.cell (World.block_lt_of_cell? w _ hw500_1)).trans hw500_1), ((HB.out.cell (World.block_lt_of_cell? w _ hw500_2)).trans hw500_2), ((HB.out.cell (World.block_lt_of_cell? w _ hw500_3)).trans hw500_3), ((HB.out.cell (World.block_lt_of_cell? w _ hw500_4)).trans hw500_4), ((HB.out.cell (World.block_lt_of_cell? w _ hw500_5)).trans hw500_5), ((HB.out.cell (World.block_lt_of_cell? w _ hw500_6)).trans hw500_6), ((HB.out.cell (World.block_lt_of_cell? w _ hw500_7)).trans hw500_7), ((HB.out.cell (World.block_lt_of_cell? w _ hw500_8)).trans hw500_8), ((HB.out.cell (World.block_lt_of_cell? w _ hw500_9)).trans hw500_9), ((HB.out.cell (World.block_lt_of_cell? w _ hw500_10)).trans hw500_10), ((HB.out.cell (World.block_lt_of_cell? w _ hw501_0)).trans hw501_0), ((HB.out.cell (World.block_lt_of_cell? w _ hw501_1)).trans hw501_1), ((HB.out.cell (World.block_lt_of_cell? w _ hw501_2)).trans hw501_2), ((HB.out.cell (World.block_lt_of_cell? w _ hw501_3)).trans hw501_3), ((HB.out.cell (World.block_lt_of_cell? w _ hw501_4)).trans hw501_4), ((HB.out.cell (World.block_lt_of_cell? w _ hw501_5)).trans hw501_5), ((HB.out.cell (World.block_lt_of_cell? w _ hw501_6)).trans hw501_6), ((HB.out.cell (World.block_lt_of_cell? w _ hw501_7)).trans hw501_7), ((HB.out.cell (World.block_lt_of_cell? w _ hw501_8)).trans hw501_8), ((HB.out.cell (World.block_lt_of_cell? w _ hw501_9)).trans hw501_9), ((HB.out.cell (World.block_lt_of_cell? w _ hw501_10)).trans hw501_10)⟩ (fun hHeld => ?_)
       clear hK K; refine nA 58 ?_; refine pA 11 (some 59) ?_
       refine dA ?_
       try go_wp2
       go_roundg k2
       case measure => have := HJ2.out; have := HK2.out; omega
       case rel => exact ⟨(wrap64 (x5_2 + 1)), gv, H', ⟨by have := HJ2.out; have := HK2.out; omega⟩, ⟨uK BK498⟩, ⟨uK BK499⟩, ⟨uB HB⟩⟩
      replace c30 := Bool.eq_false_iff.mpr c30
      subst c30
      rw [if_neg (show ¬ (false = true) by decide)] at H
      exact absurd H (by simp)
     rw [if_neg c26] at H
     have c26b0 : decide (x5_2 < (l0_4.length : Int)) = false := decide_eq_false c26
     clear c26
     obtain rfl := Option.some.inj H
     have hnb35 := NB498_499.out; have hnc35 := NB499_498.out; obtain ⟨q36_0, q36_1, q36_2, q36_3, q36_4⟩ := cA5 BK498; obtain ⟨f36_0, f36_1, f36_2, f36_3, f36_4⟩ := fA5 BK498
     go_wp2
     go_ret
     exact ⟨gE, uB HB⟩
end Go.Proofs.Ytpgmmnlkiogamaa.P
