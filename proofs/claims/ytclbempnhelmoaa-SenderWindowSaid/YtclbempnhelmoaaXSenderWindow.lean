/- The statement SenderWindow, proved of the given program; it has no conditions. (Of many texts laid together) -/
import Derived.Deep.CutBlock
import Derived.Test.YtclbempnhelmoaaXSenderWindowWWords
import Derived.Test.YtclbempnhelmoaaXSenderWindowWMore
import Derived.ProofKit
import Derived.OpenShut
import Derived.ChangeSame
import Derived.ChangeOld
import Derived.Deep.Slices
import Derived.Deep.Fields
import Derived.Test.YtclbempnhelmoaaRows
import Derived.WalkKit
import Derived.ShutString
import Derived.Below
import Derived.SizedLaws
import Derived.Test.YtclbempnhelmoaaXSenderWindowa
import Derived.Test.YtclbempnhelmoaaXSenderWindowb
import Derived.Test.YtclbempnhelmoaaXSenderWindowc
import Derived.Test.YtclbempnhelmoaaXSenderWindowd
import Derived.Test.YtclbempnhelmoaaXSenderWindowe
set_option linter.unusedVariables false
set_option linter.unusedSimpArgs false
set_option maxHeartbeats 8000000
set_option maxRecDepth 100000
namespace Go.Proofs.Ytclbempnhelmoaa.P
open Go.RowKit YtclbempnhelmoaaW.PrintWords YtclbempnhelmoaaW.PrintLast YtclbempnhelmoaaW.PrintMore
open Classical
theorem push_D (o : S34) (s : AS) : (pushA o s).D = s.D := by unfold pushA; split <;> rfl
theorem row_lenB {w : World} {b : Nat} {ok : Nat → Prop} {v : Value} {X : List S48} (h : k48.R 48 w b ok v X) : ∃ A n c, v = .slice A n c ∧ n = X.length := by
 obtain ⟨A, c, e⟩ := Kd.R_slice h
 exact ⟨A, _, c, e, rfl⟩
theorem XA_each {wn tr : Int} {n : Nat} {s : AS} (hk : OkA tr n s) {b : S48} (hb : b ∈ XA wn s) : b.f1.length ≤ 1024 := by
 obtain ⟨i, hi, rfl⟩ := List.mem_iff_getElem.1 hb
 have h1 := len_gone _ i hi
 have h2 := XA_gone wn s
 have := hk.2.1
 omega
theorem drop_rd (X : List S48) (i : Int) (h0 : 0 ≤ i) (h1 : i < X.length) : X.drop i.toNat = rd_T48 X i :: X.drop (i + 1).toNat := by
 have hi : i.toNat < X.length := by omega
 rw [List.drop_eq_getElem_cons hi, show (i + 1).toNat = i.toNat + 1 by omega]
 congr 1
 unfold rd_T48
 rw [List.getD_eq_getElem?_getD, List.getElem?_eq_getElem hi]
 rfl
theorem sub_lt {α : Type} {x : α} {xs T : List α} {i : Nat} (h : (x :: xs).Sublist (T.drop i)) : i < T.length := by
 rcases Nat.lt_or_ge i T.length with e | e
 ·exact e
 ·rw [List.drop_eq_nil_of_le e] at h
  exact absurd h (fun h => sub_none h)
theorem rd_memB (X : List S48) (i : Int) (h0 : 0 ≤ i) (h1 : i < X.length) : rd_T48 X i ∈ X := by
 have := drop_rd X i h0 h1
 have h2 : rd_T48 X i ∈ X.drop i.toNat := by rw [this]; exact List.mem_cons_self
 exact List.mem_of_mem_drop h2
theorem win_at {wn : Int} {s : AS} {L : List S48} (hL : L = s.D.map Prod.fst) (h : Win wn s) (i : Int) (h0 : 0 ≤ i) (h1 : i < L.length) : serial_Within.f 3 (rd_T48 L i).f0 (rd_T48 L 0).f0 wn = some true := by
 subst hL
 have hm := rd_memB _ i h0 h1
 obtain ⟨d, hd, he⟩ := List.mem_map.1 hm
 have hf : fstA s = (rd_T48 (s.D.map Prod.fst) 0).f0 := by
  unfold fstA
  cases hD : s.D with
  | nil => rw [hD] at h1; simp at h1; omega
  | cons d D => rfl
 have hn := h.near d hd
 unfold serial_Within.f
 rw [show (3 : Nat) = 0 + 3 from rfl, serial_Far_eq, ← he, ← hf]
 show some (decide (far (fstA s) d.1.f0 < wn)) = some true
 rw [decide_eq_true hn]
def thalweglaw14_SenderWindow.f (a0 a1 : Int) (l2 : List S38) : Option Bool := some true
def swi.T22 : Bool × List (List Nat × List Nat) := (true, [([], []), ([], []), ([1], [1]), ([0, 2], [0, 2]), ([3], [3]), ([4], [4]), ([4], [4]), ([4], [4]), ([7, 4], [4, 7]), ([5, 6, 8, 4], [4, 5, 6, 8]), ([4], [4]), ([4], [4]), ([4], [4]), ([12, 4], [4, 12]), ([10, 11, 13, 4], [4, 10, 11, 13]), ([9, 14, 4, 4], [4, 9, 14]), ([15, 4], [4, 15]), ([4, 16], [4, 16])])
def swi.B22 : List Nat := [0, 0, 2, 7, 15, 31, 31, 31, 159, 511, 31, 31, 31, 4127, 15391, 32767, 65535, 131071]
theorem swi.tab22 : rtab .any (opsOf Try.f3 22) = swi.T22 := by kernel_rfl
theorem swi.bits22 : waitsOk swi.T22.2 swi.B22 = true := by kernel_rfl
def swi.T24 : Bool × List (List Nat × List Nat) := (true, [([], []), ([], []), ([1], [1]), ([0, 2], [0, 2]), ([3], [3]), ([4], [4]), ([4], [4]), ([5, 6, 4], [4, 5, 6]), ([7, 4], [4, 7]), ([8, 4], [4, 8]), ([4], [4]), ([10, 4], [4, 10]), ([11, 4], [4, 11]), ([12, 4], [4, 12]), ([4], [4]), ([9, 13, 14, 4, 4], [4, 9, 13, 14]), ([15, 4], [4, 15]), ([4, 16], [4, 16])])
def swi.B24 : List Nat := [0, 0, 2, 7, 15, 31, 31, 127, 255, 511, 31, 1055, 3103, 7199, 31, 32767, 65535, 131071]
theorem swi.tab24 : rtab .any (opsOf Try.f3 24) = swi.T24 := by kernel_rfl
theorem swi.bits24 : waitsOk swi.T24.2 swi.B24 = true := by kernel_rfl
theorem window_no (a0 a1 : Int) (A2 : Option Addr) (c2 n : Nat) (w : World) (hv : ¬ (1 ≤ a0 ∧ a0 ≤ 16 ∧ 1 ≤ a1 ∧ a1 ≤ 100)) :
  Calls Try.prog 3 #[.int .i64 a0, .int .i64 a1, .slice A2 n c2] w fun e w' => e = .returned (.bool true) ∧ Below w.heap.size w w' := by
 have HV := Aside0.mk hv
 clear hv
 go_enter Try.func3, Try.ntmps3
 go_wp2_with (first
  | (go_at_call 9; (with_reducible refine (new_no _ _ _ HV.out).mono ?_); rintro x_ w_ ⟨rfl, rfl⟩)
  | (go_at_call 10; (with_reducible refine (awake_a _).mono ?_); rintro x_ w9 ⟨rfl, hb⟩; have B9 := Aside0.mk (below_step (Below.refl _ _) hb); clear hb))
 go_ret
 exact ⟨rfl, B9.out⟩
theorem window_long (a0 a1 : Int) (A2 : Option Addr) (c2 n : Nat) (w : World) (hv : 1 ≤ a0 ∧ a0 ≤ 16 ∧ 1 ≤ a1 ∧ a1 ≤ 100) (hl : (n : Int) > 100) :
  Calls Try.prog 3 #[.int .i64 a0, .int .i64 a1, .slice A2 n c2] w fun e w' => e = .returned (.bool true) ∧ Below w.heap.size w w' := by
 have HV := Aside0.mk hv
 have bq : decide ((n : Int) > 100) = true := decide_eq_true hl
 clear hv hl
 go_enter Try.func3, Try.ntmps3
 go_wp2_with (first
  | (go_at_call 9; (with_reducible refine (new_a (Below.refl _ _) a0 a1 HV.out.1 HV.out.2.1 HV.out.2.2.1 HV.out.2.2.2).mono ?_); rintro x_ w2 ⟨g, F2, R2, rfl, hn, _, _⟩; have M2 := Aside0.mk hn; clear hn)
  | (go_at_call 10; (with_reducible refine (awake_a _).mono ?_); rintro x_ w9 ⟨rfl, hb⟩; have B9 := Aside0.mk (below_step M2.out.bl hb); clear hb))
 go_ret
 exact ⟨rfl, B9.out⟩
theorem window_ok (a0 a1 : Int) (A2 : Option Addr) (c2 n : Nat) (l2 : List S38) (w : World) (hr2 : Kd.C k38 w A2 n l2) (hv : 1 ≤ a0 ∧ a0 ≤ 16 ∧ 1 ≤ a1 ∧ a1 ≤ 100) (hl : ¬ (n : Int) > 100) :
  Calls Try.prog 3 #[.int .i64 a0, .int .i64 a1, .slice A2 n c2] w fun e w' => e = .returned (.bool true) ∧ Below w.heap.size w w' := by
 have HV := Aside0.mk hv
 have HR2 := Aside0.mk hr2
 have HL := Aside0.mk hl
 have bq : decide ((n : Int) > 100) = false := decide_eq_false hl
 clear hv hl hr2
 go_enter Try.func3, Try.ntmps3
 go_wp2_with (go_at_call 9; (with_reducible refine (new_a (Below.refl _ _) a0 a1 HV.out.1 HV.out.2.1 HV.out.2.2.1 HV.out.2.2.2).mono ?_); rintro x_ w2 ⟨g, F2, R2, rfl, hn, _, _⟩; have M2 := Aside0.mk hn; clear hn)
 go_loopg [9, 10] n (fun kq v9' v10 wr => ∃ (x : Int) (F R : Nat → Prop) (s : AS) (T : List S48) (v9 : Value), v10 = .int .i64 x ∧ v9 = v9' ∧ Aside0 (0 ≤ x) ∧ Aside0 (x + kq = n) ∧ Aside0 (Sn w wr F R g a0 a1 s) ∧ Aside0 (OkA a1 (2048 * x.toNat) s) ∧ Aside0 (Win a0 s) ∧ Aside0 (Hr k48 48 w wr F R v9 T) ∧ Aside0 ((s.D.map Prod.fst).Sublist T) ∧ Aside0 (T.length ≤ 2048 * x.toNat) ∧ Aside0 (∀ b ∈ T, b.f1.length ≤ 1024))
 case atStart => exact ⟨0, F2, R2, _, [], _, rfl, rfl, ⟨by omega⟩, ⟨by omega⟩, M2, ⟨OkA.nil _ _⟩, ⟨Win.nil HV.out.1⟩, ⟨Hr.nil _ _ _ _ _ _⟩, ⟨List.Sublist.refl _⟩, ⟨Nat.zero_le _⟩, ⟨fun b hb => by cases hb⟩⟩
 case round =>
  clear M2
  obtain ⟨x, F, R, s, T, v9, rfl, rfl, H0, HI, SS, HK, HW, TT0, HSB, HTN, HTB⟩ := hrel
  obtain ⟨wz, rfl⟩ : ∃ wz, wz = wr := ⟨_, rfl⟩
  cases gk with
  | zero =>
   have hnl : decide (x < (n : Int)) = false := decide_eq_false (by have := HI.out; omega)
   go_wp2_with (go_at_call 10; (with_reducible refine (awake_a _).mono ?_); rintro x_ w9 ⟨rfl, hb⟩; have B9 := Aside0.mk (below_step SS.out.bl hb); clear hb)
   go_ret
   exact ⟨rfl, B9.out⟩
  | succ k1 =>
   have hlt := (show x < (n : Int) by have := HI.out; omega)
   have HXL := Aside0.mk (show x < 100 by have := HI.out; have := HL.out; omega)
   have h0 := H0.out
   have hd : decide (x < (n : Int)) = true := decide_eq_true hlt
   have hw : wrap64 (x + 1) = x + 1 := w64 (by omega) (by have := HL.out; omega)
   have HN8 := Aside0.mk (show 2048 * x.toNat ≤ 900000 by have := HL.out; omega)
   have HN7 := Aside0.mk (show 2048 * (x.toNat + 1) ≤ 900000 by have := HL.out; omega)
   obtain ⟨ad, e_, x0, x1, x2, x3, x4, x5, x6, x7, x8, x9, x10, x11, x12, x13, x14, x15, x16⟩ := at_T38 (Kd.C_below HR2.out SS.out.bl) x h0 hlt
   cases e_
   obtain ⟨y, hy⟩ : ∃ y, y = rd_T38 l2 x := ⟨_, rfl⟩
   rw [← hy] at x0 x1 x2 x3 x4 x5 x6 x7 x8 x9 x10 x11 x12 x13 x14 x15 x16
   have h0t := eq_true h0
   have hltt := eq_true hlt
   clear hy bq
   go_upto_region 9 with ((with_reducible refine gate_dst (N := 11) rfl ?_); refine box_event ?hg (N := 11) ?hd (cs := #[.int .i64 0, .int .i64 0, .int .i64 0, .bool false, .int .i64 0, .int .i64 0, .int .i64 0, .int .i64 0, .int .i64 0, .int .i64 0, .int .i64 0, .int .i64 0, .int .i64 0, .int .i64 0, .int .i64 0, .int .i64 0, .int .i64 0]) (t := 38) ?hr ?_; (case hd => rfl); (case hg => rfl); (case hr => first | (go_simp; done) | (go_simp; rfl) | rfl | kernel_rfl); intro gb hg w3 hbox hb; have HB3 := Aside0.mk (show Below wz.heap.size wz (((((((((((((((((w3.setCell ⟨gb, 0, none⟩ (.int .i64 y.f0)).setCell ⟨gb, 1, none⟩ (.int .i64 y.f1.f0)).setCell ⟨gb, 2, none⟩ (.int .i64 y.f1.f1)).setCell ⟨gb, 3, none⟩ (.bool y.f1.f2.f0)).setCell ⟨gb, 4, none⟩ (.int .i64 y.f1.f2.f1)).setCell ⟨gb, 5, none⟩ (.int .i64 y.f1.f2.f2)).setCell ⟨gb, 6, none⟩ (.int .i64 y.f1.f2.f3)).setCell ⟨gb, 7, none⟩ (.int .i64 y.f1.f2.f4)).setCell ⟨gb, 8, none⟩ (.int .i64 y.f1.f2.f5)).setCell ⟨gb, 9, none⟩ (.int .i64 y.f1.f3.f0)).setCell ⟨gb, 10, none⟩ (.int .i64 y.f1.f3.f1)).setCell ⟨gb, 11, none⟩ (.int .i64 y.f1.f3.f2)).setCell ⟨gb, 12, none⟩ (.int .i64 y.f1.f4)).setCell ⟨gb, 13, none⟩ (.int .i64 y.f2.f0)).setCell ⟨gb, 14, none⟩ (.int .i64 y.f2.f1)).setCell ⟨gb, 15, none⟩ (.int .i64 y.f2.f2)).setCell ⟨gb, 16, none⟩ (.int .i64 y.f2.f3)) from below17 (Nat.le_of_eq hg.symm) hb); have BB3 := Aside0.mk (show (((((((((((((((((w3.setCell ⟨gb, 0, none⟩ (.int .i64 y.f0)).setCell ⟨gb, 1, none⟩ (.int .i64 y.f1.f0)).setCell ⟨gb, 2, none⟩ (.int .i64 y.f1.f1)).setCell ⟨gb, 3, none⟩ (.bool y.f1.f2.f0)).setCell ⟨gb, 4, none⟩ (.int .i64 y.f1.f2.f1)).setCell ⟨gb, 5, none⟩ (.int .i64 y.f1.f2.f2)).setCell ⟨gb, 6, none⟩ (.int .i64 y.f1.f2.f3)).setCell ⟨gb, 7, none⟩ (.int .i64 y.f1.f2.f4)).setCell ⟨gb, 8, none⟩ (.int .i64 y.f1.f2.f5)).setCell ⟨gb, 9, none⟩ (.int .i64 y.f1.f3.f0)).setCell ⟨gb, 10, none⟩ (.int .i64 y.f1.f3.f1)).setCell ⟨gb, 11, none⟩ (.int .i64 y.f1.f3.f2)).setCell ⟨gb, 12, none⟩ (.int .i64 y.f1.f4)).setCell ⟨gb, 13, none⟩ (.int .i64 y.f2.f0)).setCell ⟨gb, 14, none⟩ (.int .i64 y.f2.f1)).setCell ⟨gb, 15, none⟩ (.int .i64 y.f2.f2)).setCell ⟨gb, 16, none⟩ (.int .i64 y.f2.f3)).heap[gb]? = some (.cells #[.int .i64 y.f0, .int .i64 y.f1.f0, .int .i64 y.f1.f1, .bool y.f1.f2.f0, .int .i64 y.f1.f2.f1, .int .i64 y.f1.f2.f2, .int .i64 y.f1.f2.f3, .int .i64 y.f1.f2.f4, .int .i64 y.f1.f2.f5, .int .i64 y.f1.f3.f0, .int .i64 y.f1.f3.f1, .int .i64 y.f1.f3.f2, .int .i64 y.f1.f4, .int .i64 y.f2.f0, .int .i64 y.f2.f1, .int .i64 y.f2.f2, .int .i64 y.f2.f3] 38 (0, 0)) from put17 hbox); have HNF := Aside0.mk (show ¬ F gb from fun hF => by have := SS.out.lt gb hF; omega); have S3 := Aside0.mk (SS.out.below HB3.out); obtain ⟨z0, z1, z2, z3, z4, z5, z6, z7, z8, z9, z10, z11, z12, z13, z14, z15, z16⟩ := cells17 hbox; obtain ⟨zf0, zf1, zf2, zf3, zf4, zf5, zf6, zf7, zf8, zf9, zf10, zf11, zf12, zf13, zf14, zf15, zf16⟩ := frozen17 hbox; obtain ⟨b0, b1, b2, b3, b4, b5, b6, b7, b8, b9, b10, b11, b12, b13, b14, b15, b16⟩ := cells17 BB3.out; clear hb hbox hg)
   have T3 := Aside0.mk (TT0.out.below HB3.out)
   generalize (((((((((((((((((w3.setCell ⟨gb, 0, none⟩ (.int .i64 y.f0)).setCell ⟨gb, 1, none⟩ (.int .i64 y.f1.f0)).setCell ⟨gb, 2, none⟩ (.int .i64 y.f1.f1)).setCell ⟨gb, 3, none⟩ (.bool y.f1.f2.f0)).setCell ⟨gb, 4, none⟩ (.int .i64 y.f1.f2.f1)).setCell ⟨gb, 5, none⟩ (.int .i64 y.f1.f2.f2)).setCell ⟨gb, 6, none⟩ (.int .i64 y.f1.f2.f3)).setCell ⟨gb, 7, none⟩ (.int .i64 y.f1.f2.f4)).setCell ⟨gb, 8, none⟩ (.int .i64 y.f1.f2.f5)).setCell ⟨gb, 9, none⟩ (.int .i64 y.f1.f3.f0)).setCell ⟨gb, 10, none⟩ (.int .i64 y.f1.f3.f1)).setCell ⟨gb, 11, none⟩ (.int .i64 y.f1.f3.f2)).setCell ⟨gb, 12, none⟩ (.int .i64 y.f1.f4)).setCell ⟨gb, 13, none⟩ (.int .i64 y.f2.f0)).setCell ⟨gb, 14, none⟩ (.int .i64 y.f2.f1)).setCell ⟨gb, 15, none⟩ (.int .i64 y.f2.f2)).setCell ⟨gb, 16, none⟩ (.int .i64 y.f2.f3)) = wq at HB3 BB3 S3 T3 b0 b1 b2 b3 b4 b5 b6 b7 b8 b9 b10 b11 b12 b13 b14 b15 b16 ⊢
   go_upto_block 2 with (fail)
   go_cut [9] (fun v9' wc => ∃ (F R : Nat → Prop) (s : AS) (T : List S48) (v9 : Value), v9 = v9' ∧ Aside0 (Sn w wc F R g a0 a1 s) ∧ Aside0 (OkA a1 (2048 * (x.toNat + 1)) s) ∧ Aside0 (Win a0 s) ∧ Aside0 (Hr k48 48 w wc F R v9 T) ∧ Aside0 ((s.D.map Prod.fst).Sublist T) ∧ Aside0 (T.length ≤ 2048 * (x.toNat + 1)) ∧ Aside0 (∀ b ∈ T, b.f1.length ≤ 1024))
   case first =>
    by_cases q0 : y.f0 = 0
    ·have b0q : (y.f0 == 0) = true := beq_iff_eq.mpr q0
     clear q0
     go_wp2_with (go_at_call 11; (with_reducible refine (push_a S3.out y.f1).mono ?_); rintro x_ w4 ⟨F4, R4, rfl, hn, hx⟩; have M4 := Aside0.mk hn; have T4 := Aside0.mk (T3.out.step hx); clear hn hx)
     go_meet
     case rel => exact ⟨F4, R4, (pushA y.f1 s), T, v9, rfl, M4, ⟨OkA.more (HK.out.push y.f1) (by have := H0.out; omega)⟩, ⟨HW.out.push y.f1⟩, T4, ⟨by rw [push_D]; exact HSB.out⟩, ⟨by have := HTN.out; have := H0.out; omega⟩, ⟨HTB.out⟩⟩
    have b0q : (y.f0 == 0) = false := beq_eq_false_iff_ne.mpr q0
    clear q0
    by_cases q1 : y.f0 = 1
    ·have b1q : (y.f0 == 1) = true := beq_iff_eq.mpr q1
     clear q1
     obtain ⟨X, hX⟩ : ∃ X, X = XA a0 s := ⟨_, rfl⟩
     obtain ⟨nX, hnX⟩ : ∃ nX, nX = X.length := ⟨_, rfl⟩
     have HXX := Aside0.mk hX
     have HNX := Aside0.mk hnX
     have HXN := Aside0.mk (show nX ≤ 1024 by rw [hnX, hX]; exact Nat.le_trans (XA_len HK.out.1) HK.out.2.1)
     clear hX hnX
     go_wp2_with (first
      | (go_at_call 12; (with_reducible refine (send_w S3.out HK.out HN8.out HXX.out HNX.out).mono ?_); rintro x_ w4 ⟨A4, c4, F4, R4, rfl, hn, hx, hr⟩; have M4 := Aside0.mk hn; have T4 := Aside0.mk (T3.out.step hx); have HSR := Aside0.mk hr; have HTL := Aside0.mk (Hr.lt T3.out); have HWS := Aside0.mk hx.sz; clear hn hx hr)
      | ((with_reducible refine gate_builtin (b := .append) (xs := #[.tmp 57, .tmp 59]) rfl ?_); at_builtin; refine Kd.R_append_rows k48 (w0 := w4) w.heap.size rfl (.tmp 57) (.tmp 59) 28 48 (.agg #[(.int .i64 0), (.slice none 0 0)]) 32 rfl Try.underlying28 info48 rfl (by decide) (by omega) v9 T X _ _ _ (fun k => ¬ R4 k) (fun k => wq.heap.size ≤ k ∧ ¬ R4 k) rfl rfl ?aO ?aR (fun _ _ h => h) ?aP ?aF ?aB ?aS ?aL ?_; (case aR => exact R_readsM HSR.out); (case aB => exact Below.refl _ _); (case aF => exact (fun k hk hR => by have := M4.out.lt k (M4.out.rf k hR); omega)); (case aP => exact (fun k hk => ⟨hk.2, fun e => by have := HTL.out k e.symm; omega⟩)); (case aO => exact T4.out.row); (case aS => exact below_size M4.out.bl); (case aL => have := HTN.out; have := HXN.out; have := HXL.out; have := H0.out; omega); intro v2 w6 ho hb hg hat; have M6 := Aside0.mk (M4.out.grown hg (fun k hk => ⟨Kd.R_base T4.out.row k hk, T4.out.own k hk⟩)); have T6 := Aside0.mk (T4.out.grownH ho hat M4.out.lt); clear ho hb hg hat))
     go_meet
     case rel => exact ⟨F4, R4, (sendA a0 s), (T ++ X), v2, rfl, M6, ⟨OkA.more (HK.out.send a0 HV.out.2.2.1) (by have := H0.out; omega)⟩, ⟨Win.send ⟨HV.out.1, HV.out.2.1⟩ HK.out.2.2.2.2 HW.out⟩, T6, ⟨by rw [HXX.out]; exact sub_send HSB.out⟩, ⟨by rw [List.length_append, ← HNX.out]; have := HXN.out; have := HTN.out; have := H0.out; omega⟩, ⟨fun b hb => (List.mem_append.1 hb).elim (HTB.out b) (fun h => XA_each HK.out (by rw [← HXX.out]; exact h))⟩⟩
    have b1q : (y.f0 == 1) = false := beq_eq_false_iff_ne.mpr q1
    clear q1
    by_cases q2 : y.f0 = 2
    ·have b2q : (y.f0 == 2) = true := beq_iff_eq.mpr q2
     clear q2
     go_wp2_with (go_at_call 13; (with_reducible refine (again_a S3.out HK.out HN8.out HV.out.2.2.2).mono ?_); rintro x_ w4 ⟨v4, R4, rfl, hn, hx, _⟩; have M4 := Aside0.mk hn; have T4 := Aside0.mk (T3.out.step hx); clear hn hx)
     go_meet
     case rel => exact ⟨F, R4, (againA a1 s), T, v9, rfl, M4, ⟨OkA.more HK.out.again (by have := H0.out; omega)⟩, ⟨HW.out.again⟩, T4, ⟨sub_again HSB.out⟩, ⟨by have := HTN.out; have := H0.out; omega⟩, ⟨HTB.out⟩⟩
    have b2q : (y.f0 == 2) = false := beq_eq_false_iff_ne.mpr q2
    clear q2
    go_wp2_with (go_at_call 14; (with_reducible refine (got_a S3.out HK.out HN8.out y.f2).mono ?_); rintro x_ w4 ⟨R4, rfl, hn, hx⟩; have M4 := Aside0.mk hn; have T4 := Aside0.mk (T3.out.step hx); clear hn hx)
    go_meet
    case rel => exact ⟨F, R4, (gotA y.f2 s), T, v9, rfl, M4, ⟨OkA.more (HK.out.got y.f2) (by have := H0.out; omega)⟩, ⟨Win.got HV.out.1 HW.out y.f2⟩, T4, ⟨sub_got HSB.out⟩, ⟨by have := HTN.out; have := H0.out; omega⟩, ⟨HTB.out⟩⟩
   case rest =>
    obtain ⟨F, R, s, T, v9, rfl, MT, HKT, HWT, TT, HST, HTN, HTB⟩ := hcut
    obtain ⟨L, hL⟩ : ∃ L, L = s.D.map Prod.fst := ⟨_, rfl⟩
    obtain ⟨nl, hnl⟩ : ∃ nl, nl = (s.D.map Prod.fst).length := ⟨_, rfl⟩
    obtain ⟨A9, n9, c9, ev9, en9⟩ := row_lenB TT.out.row
    subst ev9
    have HLL := Aside0.mk hL
    have HL2 := Aside0.mk hnl
    have HNT := Aside0.mk en9
    have HLN := Aside0.mk (show nl = L.length by rw [hnl, hL])
    have HSU := Aside0.mk (show L.Sublist T by rw [hL]; exact HST.out)
    have HNW := Aside0.mk (show (nl : Int) ≤ a0 by rw [hnl, List.length_map]; exact HWT.out.len)
    have HT9 := Aside0.mk (show n9 ≤ 1000000 by have := HTN.out; have := HXL.out; have := H0.out; omega)
    clear hL hnl en9
    go_wp2_with (go_at_call 15; (with_reducible refine (out_l MT.out HKT.out HN7.out HL2.out).mono ?_); rintro x_ wl ⟨Al, cl, rfl, hb, hr⟩; rw [← HLL.out] at hr; have ML := Aside0.mk (MT.out.below hb); have TL := Aside0.mk (TT.out.below hb); have HLR := Aside0.mk hr; clear hb hr)
    go_loopg [13, 14] nl (fun kq v13 v14 wr => ∃ (at_ kx : Int), v13 = .int .i64 at_ ∧ v14 = .int .i64 kx ∧ Aside0 (0 ≤ at_) ∧ Aside0 (0 ≤ kx) ∧ Aside0 (kx + kq = nl) ∧ Aside0 ((L.drop kx.toNat).Sublist (T.drop at_.toNat)) ∧ Aside0 (Below wl.heap.size wl wr))
    case atStart => exact ⟨0, 0, rfl, rfl, ⟨by omega⟩, ⟨by omega⟩, ⟨by omega⟩, ⟨HSU.out⟩, ⟨Below.refl _ _⟩⟩
    case round =>
    obtain ⟨at_, kx, rfl, rfl, KA, K0, KI, KS, KB⟩ := hrel
    obtain ⟨wk, rfl⟩ : ∃ wk, wk = wr := ⟨_, rfl⟩
    cases gk with
    | zero =>
     have hnk : decide (kx < (nl : Int)) = false := decide_eq_false (by have := KI.out; omega)
     have hnw : decide ((nl : Int) > a0) = false := decide_eq_false (by have := HNW.out; omega)
     go_wp2
     go_roundg k1
     case measure => have := HI.out; omega
     case rel =>
      have hxs : (x + 1).toNat = x.toNat + 1 := by have := H0.out; omega
      exact ⟨x + 1, F, R, s, T, _, by first | rfl | simp [hw], rfl, ⟨by have := H0.out; omega⟩, ⟨by have := HI.out; omega⟩, ⟨ML.out.below KB.out⟩, ⟨by rw [hxs]; exact HKT.out⟩, HWT, ⟨TL.out.below KB.out⟩, HST, ⟨by rw [hxs]; exact HTN.out⟩, HTB⟩
    | succ k2 =>
     have hltk := (show kx < (nl : Int) by have := KI.out; omega)
     have h0k := K0.out
     have hdk : decide (kx < (nl : Int)) = true := decide_eq_true hltk
     have hwk1 : wrap64 (kx + 1) = kx + 1 := w64 (by omega) (by have := HNW.out; have := HV.out; omega)
     have hzl : (0 : Int) < (nl : Int) := by omega
     obtain ⟨bk, hbk⟩ : ∃ bk, bk = rd_T48 L kx := ⟨_, rfl⟩
     obtain ⟨b00, hb00⟩ : ∃ b00, b00 = rd_T48 L 0 := ⟨_, rfl⟩
     have hLn : kx < (L.length : Int) := by have := HLN.out; omega
     have hdr := drop_rd L kx h0k hLn
     rw [← hbk] at hdr
     have KS1 := Aside0.mk (show (bk :: L.drop (kx + 1).toNat).Sublist (T.drop at_.toNat) by rw [← hdr]; exact KS.out)
     have HWI := Aside0.mk (show serial_Within.f 3 bk.f0 b00.f0 a0 = some true by rw [hbk, hb00]; exact win_at HLL.out HWT.out kx h0k hLn)
     have hCl : k48.C wl Al nl L := by have h := Kd.R_reads' HLR.out.row; rw [HLN.out]; exact h.2.2
     obtain ⟨ad, _, _, e1_, k0, _, _, _⟩ := at_T48 hCl kx h0k hltk
     obtain ⟨ad2, _, _, e2_, l0, _, _, _⟩ := at_T48 hCl 0 (Int.le_refl _) hzl
     cases e1_
     cases e2_
     have e0 : ad.add ((0 : Int).toNat * 2) = ad := by
      show ad.add 0 = ad
      cases ad
      simp [Addr.add]
     rw [e0, ← hb00] at l0
     rw [← hbk] at k0
     have HK70 := Aside0.mk k0
     have HL70 := Aside0.mk l0
     have HBKE := Aside0.mk hbk
     have HBL2 := Aside0.mk (show bk.f1.length ≤ 100000 from Nat.le_trans (HTB.out bk (HSU.out.subset (by rw [hbk]; exact rd_memB L kx h0k hLn))) (by decide))
     have h0kt := eq_true h0k
     have hltkt := eq_true hltk
     have hzlt := eq_true hzl
     have hzn : (0 < nl) = True := eq_true (by omega)
     clear hbk hb00 hdr hCl k0 l0 e0 hLn
     go_wp2
     go_loopg [13] (n9 - at_.toNat) (fun kq v13 wr => ∃ at2 : Int, v13 = .int .i64 at2 ∧ Aside0 (0 ≤ at2) ∧ Aside0 (at2 + kq = n9) ∧ Aside0 ((bk :: L.drop (kx + 1).toNat).Sublist (T.drop at2.toNat)) ∧ Aside0 (Below wl.heap.size wl wr))
     case atStart => exact ⟨at_, rfl, KA, ⟨by have := sub_lt KS1.out; have := HNT.out; have := KA.out; omega⟩, KS1, KB⟩
     case round =>
     obtain ⟨at2, rfl, J0, JI, JS, KB2⟩ := hrel
     cases gk with
     | zero => exact absurd (sub_lt JS.out) (by have := JI.out; have := HNT.out; omega)
     | succ k3 =>
      have hlt2 := (show at2 < (n9 : Int) by have := JI.out; omega)
      have h02 := J0.out
      have hd2 : decide (at2 < (n9 : Int)) = true := decide_eq_true hlt2
      have hw2 : wrap64 (at2 + 1) = at2 + 1 := w64 (by omega) (by have := HT9.out; omega)
      have hne : ((at2 : Int) == (n9 : Int)) = false := beq_eq_false_iff_ne.mpr (by omega)
      have hTn : at2 < (T.length : Int) := by have := HNT.out; omega
      have hdr2 := drop_rd T at2 h02 hTn
      obtain ⟨bt, hbt⟩ : ∃ bt, bt = rd_T48 T at2 := ⟨_, rfl⟩
      rw [← hbt] at hdr2
      have HDR2 := Aside0.mk hdr2
      have HBT := Aside0.mk (show bt.f1.length ≤ 100000 from Nat.le_trans (HTB.out bt (by rw [hbt]; exact rd_memB T at2 h02 hTn)) (by decide))
      obtain ⟨A91, c91, hc1, hC91, hc91⟩ := cut_one (TL.out.below KB2.out).row at2 h02 hlt2
      obtain ⟨Al1, cl1, hc2, hCl1, hcl1⟩ := cut_one (HLR.out.below KB2.out).row kx h0k hltk
      rw [← hbt] at hC91
      rw [← HBKE.out] at hCl1
      have HC91 := Aside0.mk (And.intro (Kd.C_drew hC91) hc91)
      have HCL1 := Aside0.mk (And.intro (Kd.C_drew hCl1) hcl1)
      clear hdr2 hbt hC91 hCl1 hc91 hcl1 hTn
      by_cases he : bt = bk
      ·have HEQ := Aside0.mk (show decide (bt = bk) = true from decide_eq_true he)
       clear he
       go_upto_region 22 with (fail)
       refine start_ (n := 18) (S := fun w' => True) (ds := [15]) #[false, false, false, false, false, false, false, false, false, false, false, false, false, false, false, false, false, false] (by kernel_rfl) rfl rfl trivial (fun hHeld => ?_); refine with_tabW swi.tab22 swi.bits22 (fun HT_ HW_ => ?_)
       refine pure_ (i := 0) (N := some 73) (v := ?_) (a' := ?_) #[true, false, false, false, false, false, false, false, false, false, false, false, false, false, false, false, false, false] rfl rfl (any_of HT_.out (by kernel_rfl)) (fun _ _ _ h => h) (Or.inl ⟨by rfl, ?_⟩) ?_ ?_
       rotate_left
       ·intro w'
        go_simp
        with_reducible rfl
       rotate_left
       ·simp only [Act.put, List.setIfInBounds_toArray, List.set_cons_zero, List.set_cons_succ, i64_w, i32_w]
        rfl
       refine pure_ (i := 1) (N := some 74) (v := ?_) (a' := ?_) #[true, true, false, false, false, false, false, false, false, false, false, false, false, false, false, false, false, false] rfl rfl (any_of HT_.out (by kernel_rfl)) (fun _ _ _ h => h) (Or.inl ⟨by rfl, ?_⟩) ?_ ?_
       rotate_left
       ·intro w'
        go_simp
        with_reducible rfl
       rotate_left
       ·simp only [Act.put, List.setIfInBounds_toArray, List.set_cons_zero, List.set_cons_succ, i64_w, i32_w]
        rfl
       refine pure_ (i := 2) (N := some 75) (v := ?_) (a' := ?_) #[true, true, true, false, false, false, false, false, false, false, false, false, false, false, false, false, false, false] rfl rfl (any_of HT_.out (by kernel_rfl)) (fun _ _ _ h => h) (Or.inl ⟨by rfl, ?_⟩) ?_ ?_
       rotate_left
       ·intro w'
        go_simp
        with_reducible rfl
       rotate_left
       ·simp only [Act.put, List.setIfInBounds_toArray, List.set_cons_zero, List.set_cons_succ, i64_w, i32_w]
        rfl
       refine pure_ (i := 3) (N := some 76) (v := ?_) (a' := ?_) #[true, true, true, true, false, false, false, false, false, false, false, false, false, false, false, false, false, false] rfl rfl (any_of HT_.out (by kernel_rfl)) (fun _ _ _ h => h) (Or.inl ⟨by rfl, ?_⟩) ?_ ?_
       rotate_left
       ·intro w'
        go_simp
        with_reducible rfl
       rotate_left
       ·simp only [Act.put, List.setIfInBounds_toArray, List.set_cons_zero, List.set_cons_succ, i64_w, i32_w]
        rfl
       refine pure_ (i := 4) (N := some 77) (v := ?_) (a' := ?_) #[true, true, true, true, true, false, false, false, false, false, false, false, false, false, false, false, false, false] rfl rfl (any_of HT_.out (by kernel_rfl)) (fun _ _ _ h => h) (Or.inl ⟨by rfl, ?_⟩) ?_ ?_
       rotate_left
       ·intro w'
        go_simp
        with_reducible rfl
       rotate_left
       ·simp only [Act.put, List.setIfInBounds_toArray, List.set_cons_zero, List.set_cons_succ, i64_w, i32_w]
        rfl
       refine pure_ (i := 5) (N := some 78) (v := ?_) (a' := ?_) #[true, true, true, true, true, true, false, false, false, false, false, false, false, false, false, false, false, false] rfl rfl (any_of HT_.out (by kernel_rfl)) (fun _ _ _ h => h) (Or.inl ⟨by rfl, ?_⟩) ?_ ?_
       rotate_left
       ·intro w'
        go_simp
        with_reducible rfl
       rotate_left
       ·simp only [Act.put, List.setIfInBounds_toArray, List.set_cons_zero, List.set_cons_succ, i64_w, i32_w]
        rfl
       refine pure_ (i := 6) (N := some 79) (v := ?_) (a' := ?_) #[true, true, true, true, true, true, true, false, false, false, false, false, false, false, false, false, false, false] rfl rfl (any_of HT_.out (by kernel_rfl)) (fun _ _ _ h => h) (Or.inl ⟨by rfl, ?_⟩) ?_ ?_
       rotate_left
       ·intro w'
        go_simp
        with_reducible rfl
       rotate_left
       ·simp only [Act.put, List.setIfInBounds_toArray, List.set_cons_zero, List.set_cons_succ, i64_w, i32_w]
        rfl
       refine pure_ (i := 7) (N := some 80) (v := ?_) (a' := ?_) #[true, true, true, true, true, true, true, true, false, false, false, false, false, false, false, false, false, false] rfl rfl (any_of HT_.out (by kernel_rfl)) (fun _ _ _ h => h) (Or.inl ⟨by rfl, ?_⟩) ?_ ?_
       rotate_left
       ·intro w'
        go_simp
        with_reducible rfl
       rotate_left
       ·simp only [Act.put, List.setIfInBounds_toArray, List.set_cons_zero, List.set_cons_succ, i64_w, i32_w]
        rfl
       refine pure_ (i := 8) (N := some 81) (v := ?_) (a' := ?_) #[true, true, true, true, true, true, true, true, true, false, false, false, false, false, false, false, false, false] rfl rfl (any_of HT_.out (by kernel_rfl)) (fun _ _ _ h => h) (Or.inl ⟨by rfl, ?_⟩) ?_ ?_
       rotate_left
       ·intro w'
        go_simp
        with_reducible rfl
       rotate_left
       ·simp only [Act.put, List.setIfInBounds_toArray, List.set_cons_zero, List.set_cons_succ, i64_w, i32_w]
        rfl
       refine pure_ (i := 9) (N := some 82) (v := ?_) (a' := ?_) #[true, true, true, true, true, true, true, true, true, true, false, false, false, false, false, false, false, false] rfl rfl (any_of HT_.out (by kernel_rfl)) (fun _ _ _ h => h) (Or.inl ⟨by rfl, ?_⟩) ?_ ?_
       rotate_left
       ·intro w'
        go_simp
        with_reducible rfl
       rotate_left
       ·simp only [Act.put, List.setIfInBounds_toArray, List.set_cons_zero, List.set_cons_succ, i64_w, i32_w]
        rfl
       refine pure_ (i := 10) (N := some 83) (v := ?_) (a' := ?_) #[true, true, true, true, true, true, true, true, true, true, true, false, false, false, false, false, false, false] rfl rfl (any_of HT_.out (by kernel_rfl)) (fun _ _ _ h => h) (Or.inl ⟨by rfl, ?_⟩) ?_ ?_
       rotate_left
       ·intro w'
        go_simp
        with_reducible rfl
       rotate_left
       ·simp only [Act.put, List.setIfInBounds_toArray, List.set_cons_zero, List.set_cons_succ, i64_w, i32_w]
        rfl
       refine pure_ (i := 11) (N := some 84) (v := ?_) (a' := ?_) #[true, true, true, true, true, true, true, true, true, true, true, true, false, false, false, false, false, false] rfl rfl (any_of HT_.out (by kernel_rfl)) (fun _ _ _ h => h) (Or.inl ⟨by rfl, ?_⟩) ?_ ?_
       rotate_left
       ·intro w'
        go_simp
        with_reducible rfl
       rotate_left
       ·simp only [Act.put, List.setIfInBounds_toArray, List.set_cons_zero, List.set_cons_succ, i64_w, i32_w]
        rfl
       refine pure_ (i := 12) (N := some 85) (v := ?_) (a' := ?_) #[true, true, true, true, true, true, true, true, true, true, true, true, true, false, false, false, false, false] rfl rfl (any_of HT_.out (by kernel_rfl)) (fun _ _ _ h => h) (Or.inl ⟨by rfl, ?_⟩) ?_ ?_
       rotate_left
       ·intro w'
        go_simp
        with_reducible rfl
       rotate_left
       ·simp only [Act.put, List.setIfInBounds_toArray, List.set_cons_zero, List.set_cons_succ, i64_w, i32_w]
        rfl
       refine pure_ (i := 13) (N := some 86) (v := ?_) (a' := ?_) #[true, true, true, true, true, true, true, true, true, true, true, true, true, true, false, false, false, false] rfl rfl (any_of HT_.out (by kernel_rfl)) (fun _ _ _ h => h) (Or.inl ⟨by rfl, ?_⟩) ?_ ?_
       rotate_left
       ·intro w'
        go_simp
        with_reducible rfl
       rotate_left
       ·simp only [Act.put, List.setIfInBounds_toArray, List.set_cons_zero, List.set_cons_succ, i64_w, i32_w]
        rfl
       refine pure_ (i := 14) (N := some 87) (v := ?_) (a' := ?_) #[true, true, true, true, true, true, true, true, true, true, true, true, true, true, true, false, false, false] rfl rfl (any_of HT_.out (by kernel_rfl)) (fun _ _ _ h => h) (Or.inl ⟨by rfl, ?_⟩) ?_ ?_
       rotate_left
       ·intro w'
        go_simp
        with_reducible rfl
       rotate_left
       ·simp only [Act.put, List.setIfInBounds_toArray, List.set_cons_zero, List.set_cons_succ, i64_w, i32_w]
        rfl
       refine last_ (i := 15) (N := some 88) #[true, true, true, true, true, true, true, true, true, true, true, true, true, true, true, true, false, false] rfl rfl (one_of HT_.out (by kernel_rfl)) (by decide) (fun K hK => ?_)
       refine goes_ Try.func16 (by kernel_rfl) rfl #[.slice A91 1 c91, .slice Al1 1 cl1] (by rfl) rfl rfl (by simp only [List.map_toArray, List.map_cons, List.map_nil]; rfl) ?_
       with_reducible refine (sameB_w HC91.out HCL1.out HBT.out HBL2.out _ HEQ.out).mono ?_
       rintro e w7 ⟨rfl, hb7⟩
       refine ⟨_, rfl, ?_⟩
       have B7 := Aside0.mk (below_step KB2.out (below_step (below_drew (Below.refl _ _)) hb7))
       have k70 := cell_below' B7.out HK70.out
       have l70 := cell_below' B7.out HL70.out
       clear hb7
       refine hK.out _ _ ?_
       clear hK K
       refine norm_ (a' := ?_) ?_ ?_
       rotate_left
       ·show Act.put _ (some 88) _ = _
        simp only [Act.put, List.setIfInBounds_toArray, List.set_cons_zero, List.set_cons_succ, i64_w, i32_w]
        rfl
       refine pure_ (i := 16) (N := some 89) (v := ?_) (a' := ?_) #[true, true, true, true, true, true, true, true, true, true, true, true, true, true, true, true, true, false] rfl rfl (any_of HT_.out (by kernel_rfl)) (fun _ _ _ h => h) (Or.inl ⟨by rfl, ?_⟩) ?_ ?_
       rotate_left
       ·intro w'
        go_simp
        with_reducible rfl
       rotate_left
       ·simp only [Act.put, List.setIfInBounds_toArray, List.set_cons_zero, List.set_cons_succ, i64_w, i32_w]
        rfl
       refine pure_ (i := 17) (N := some 90) (v := ?_) (a' := ?_) #[true, true, true, true, true, true, true, true, true, true, true, true, true, true, true, true, true, true] rfl rfl (any_of HT_.out (by kernel_rfl)) (fun _ _ _ h => h) (Or.inl ⟨by rfl, ?_⟩) ?_ ?_
       rotate_left
       ·intro w'
        go_simp
        with_reducible rfl
       rotate_left
       ·simp only [Act.put, List.setIfInBounds_toArray, List.set_cons_zero, List.set_cons_succ, i64_w, i32_w]
        rfl
       refine done_ (done_of HT_.out (by kernel_rfl)) ?_
       go_upto_region 24 with (fail)
       refine start_ (n := 18) (S := fun w' => w'.cell? (ad.add (kx.toNat * 2)) = some (.int .i64 bk.f0) ∧ w'.cell? ad = some (.int .i64 b00.f0)) (ds := [15]) #[false, false, false, false, false, false, false, false, false, false, false, false, false, false, false, false, false, false] (by kernel_rfl) rfl rfl ⟨k70, l70⟩ (fun hHeld => ?_); refine with_tabW swi.tab24 swi.bits24 (fun HT_ HW_ => ?_)
       refine pure_ (i := 0) (N := some 93) (v := ?_) (a' := ?_) #[true, false, false, false, false, false, false, false, false, false, false, false, false, false, false, false, false, false] rfl rfl (any_of HT_.out (by kernel_rfl)) (fun _ _ _ h => h) (Or.inl ⟨by rfl, ?_⟩) ?_ ?_
       rotate_left
       ·intro w'
        go_simp
        with_reducible rfl
       rotate_left
       ·simp only [Act.put, List.setIfInBounds_toArray, List.set_cons_zero, List.set_cons_succ, i64_w, i32_w]
        rfl
       refine pure_ (i := 1) (N := some 94) (v := ?_) (a' := ?_) #[true, true, false, false, false, false, false, false, false, false, false, false, false, false, false, false, false, false] rfl rfl (any_of HT_.out (by kernel_rfl)) (fun _ _ _ h => h) (Or.inl ⟨by rfl, ?_⟩) ?_ ?_
       rotate_left
       ·intro w'
        go_simp
        with_reducible rfl
       rotate_left
       ·simp only [Act.put, List.setIfInBounds_toArray, List.set_cons_zero, List.set_cons_succ, i64_w, i32_w]
        rfl
       refine pure_ (i := 2) (N := some 95) (v := ?_) (a' := ?_) #[true, true, true, false, false, false, false, false, false, false, false, false, false, false, false, false, false, false] rfl rfl (any_of HT_.out (by kernel_rfl)) (fun _ _ _ h => h) (Or.inl ⟨by rfl, ?_⟩) ?_ ?_
       rotate_left
       ·intro w'
        go_simp
        with_reducible rfl
       rotate_left
       ·simp only [Act.put, List.setIfInBounds_toArray, List.set_cons_zero, List.set_cons_succ, i64_w, i32_w]
        rfl
       refine pure_ (i := 3) (N := some 96) (v := ?_) (a' := ?_) #[true, true, true, true, false, false, false, false, false, false, false, false, false, false, false, false, false, false] rfl rfl (any_of HT_.out (by kernel_rfl)) (fun _ _ _ h => h) (Or.inl ⟨by rfl, ?_⟩) ?_ ?_
       rotate_left
       ·intro w'
        go_simp
        with_reducible rfl
       rotate_left
       ·simp only [Act.put, List.setIfInBounds_toArray, List.set_cons_zero, List.set_cons_succ, i64_w, i32_w]
        rfl
       refine pure_ (i := 4) (N := some 97) (v := ?_) (a' := ?_) #[true, true, true, true, true, false, false, false, false, false, false, false, false, false, false, false, false, false] rfl rfl (any_of HT_.out (by kernel_rfl)) (fun _ _ _ h => h) (Or.inl ⟨by rfl, ?_⟩) ?_ ?_
       rotate_left
       ·intro w'
        go_simp
        with_reducible rfl
       rotate_left
       ·simp only [Act.put, List.setIfInBounds_toArray, List.set_cons_zero, List.set_cons_succ, i64_w, i32_w]
        rfl
       refine pure_ (i := 5) (N := some 98) (v := ?_) (a' := ?_) #[true, true, true, true, true, true, false, false, false, false, false, false, false, false, false, false, false, false] rfl rfl (any_of HT_.out (by kernel_rfl)) (fun _ _ _ h => h) (Or.inl ⟨by rfl, ?_⟩) ?_ ?_
       rotate_left
       ·intro w'
        go_simp
        with_reducible rfl
       rotate_left
       ·simp only [Act.put, List.setIfInBounds_toArray, List.set_cons_zero, List.set_cons_succ, i64_w, i32_w]
        rfl
       refine pure_ (i := 6) (N := some 99) (v := ?_) (a' := ?_) #[true, true, true, true, true, true, true, false, false, false, false, false, false, false, false, false, false, false] rfl rfl (any_of HT_.out (by kernel_rfl)) (fun _ _ _ h => h) (Or.inl ⟨by rfl, ?_⟩) ?_ ?_
       rotate_left
       ·intro w'
        go_simp
        with_reducible rfl
       rotate_left
       ·simp only [Act.put, List.setIfInBounds_toArray, List.set_cons_zero, List.set_cons_succ, i64_w, i32_w]
        rfl
       refine pure_ (i := 7) (N := some 100) (v := ?_) (a' := ?_) #[true, true, true, true, true, true, true, true, false, false, false, false, false, false, false, false, false, false] rfl rfl (any_of HT_.out (by kernel_rfl)) (fun _ _ _ h => h) (Or.inl ⟨by rfl, ?_⟩) ?_ ?_
       rotate_left
       ·intro w'
        go_simp
        with_reducible rfl
       rotate_left
       ·simp only [Act.put, List.setIfInBounds_toArray, List.set_cons_zero, List.set_cons_succ, i64_w, i32_w]
        rfl
       refine pure_ (i := 8) (N := some 101) (v := ?_) (a' := ?_) #[true, true, true, true, true, true, true, true, true, false, false, false, false, false, false, false, false, false] rfl rfl (any_of HT_.out (by kernel_rfl)) (fun _ _ _ h => h) (Or.inl ⟨by rfl, ?_⟩) ?_ ?_
       rotate_left
       ·intro w'
        go_simp
        with_reducible rfl
       rotate_left
       ·simp only [Act.put, List.setIfInBounds_toArray, List.set_cons_zero, List.set_cons_succ, i64_w, i32_w]
        rfl
       refine pure_ (i := 10) (N := some 103) (v := ?_) (a' := ?_) #[true, true, true, true, true, true, true, true, true, false, true, false, false, false, false, false, false, false] rfl rfl (any_of HT_.out (by kernel_rfl)) (fun _ _ _ h => h) (Or.inl ⟨by rfl, ?_⟩) ?_ ?_
       rotate_left
       ·intro w'
        go_simp
        with_reducible rfl
       rotate_left
       ·simp only [Act.put, List.setIfInBounds_toArray, List.set_cons_zero, List.set_cons_succ, i64_w, i32_w]
        rfl
       refine pure_ (i := 11) (N := some 104) (v := ?_) (a' := ?_) #[true, true, true, true, true, true, true, true, true, false, true, true, false, false, false, false, false, false] rfl rfl (any_of HT_.out (by kernel_rfl)) (fun _ _ _ h => h) (Or.inl ⟨by rfl, ?_⟩) ?_ ?_
       rotate_left
       ·intro w'
        go_simp
        with_reducible rfl
       rotate_left
       ·simp only [Act.put, List.setIfInBounds_toArray, List.set_cons_zero, List.set_cons_succ, i64_w, i32_w]
        rfl
       refine pure_ (i := 12) (N := some 105) (v := ?_) (a' := ?_) #[true, true, true, true, true, true, true, true, true, false, true, true, true, false, false, false, false, false] rfl rfl (any_of HT_.out (by kernel_rfl)) (fun _ _ _ h => h) (Or.inl ⟨by rfl, ?_⟩) ?_ ?_
       rotate_left
       ·intro w'
        go_simp
        with_reducible rfl
       rotate_left
       ·simp only [Act.put, List.setIfInBounds_toArray, List.set_cons_zero, List.set_cons_succ, i64_w, i32_w]
        rfl
       refine pure_ (i := 14) (N := some 107) (v := ?_) (a' := ?_) #[true, true, true, true, true, true, true, true, true, false, true, true, true, false, true, false, false, false] rfl rfl (any_of HT_.out (by kernel_rfl)) (fun _ _ _ h => h) (Or.inl ⟨by rfl, ?_⟩) ?_ ?_
       rotate_left
       ·intro w'
        go_simp
        with_reducible rfl
       rotate_left
       ·simp only [Act.put, List.setIfInBounds_toArray, List.set_cons_zero, List.set_cons_succ, i64_w, i32_w]
        rfl
       refine take_ (i := 9) (N := some 102) (v := ?_) (a' := ?_) #[true, true, true, true, true, true, true, true, true, true, true, true, true, false, true, false, false, false] rfl rfl (take_ofW HT_.out HW_.out (by kernel_rfl)) (fun _ _ _ h => h) (Or.inl ⟨by rfl, ?_⟩) hHeld ?_ ?_
       rotate_left
       ·rintro w' ⟨s0, s1⟩
        go_simp
        with_reducible rfl
       rotate_left
       ·simp only [Act.put, List.setIfInBounds_toArray, List.set_cons_zero, List.set_cons_succ, i64_w, i32_w]
        rfl
       refine take_ (i := 13) (N := some 106) (v := ?_) (a' := ?_) #[true, true, true, true, true, true, true, true, true, true, true, true, true, true, true, false, false, false] rfl rfl (take_ofW HT_.out HW_.out (by kernel_rfl)) (fun _ _ _ h => h) (Or.inl ⟨by rfl, ?_⟩) hHeld ?_ ?_
       rotate_left
       ·rintro w' ⟨s0, s1⟩
        go_simp
        with_reducible rfl
       rotate_left
       ·simp only [Act.put, List.setIfInBounds_toArray, List.set_cons_zero, List.set_cons_succ, i64_w, i32_w]
        rfl
       refine last_ (i := 15) (N := some 108) #[true, true, true, true, true, true, true, true, true, true, true, true, true, true, true, true, false, false] rfl rfl (one_of HT_.out (by kernel_rfl)) (by decide) (fun K hK => ?_)
       refine goes_ Try.func17 (by kernel_rfl) rfl #[.int .i64 bk.f0, .int .i64 b00.f0, .int .i64 a0] (by rfl) rfl rfl (by simp only [List.map_toArray, List.map_cons, List.map_nil]; rfl) ?_
       with_reducible refine (serial_Within.calls 3 _ _ _ _ _ HWI.out).mono ?_
       rintro e w8 ⟨rfl, hb8⟩
       refine ⟨_, rfl, ?_⟩
       have B8 := Aside0.mk (below_step B7.out (below_step (below_drew (Below.refl _ _)) hb8))
       clear hb8
       refine hK.out _ _ ?_
       clear hK K
       refine norm_ (a' := ?_) ?_ ?_
       rotate_left
       ·show Act.put _ (some 108) _ = _
        simp only [Act.put, List.setIfInBounds_toArray, List.set_cons_zero, List.set_cons_succ, i64_w, i32_w]
        rfl
       refine pure_ (i := 16) (N := some 109) (v := ?_) (a' := ?_) #[true, true, true, true, true, true, true, true, true, true, true, true, true, true, true, true, true, false] rfl rfl (any_of HT_.out (by kernel_rfl)) (fun _ _ _ h => h) (Or.inl ⟨by rfl, ?_⟩) ?_ ?_
       rotate_left
       ·intro w'
        go_simp
        with_reducible rfl
       rotate_left
       ·simp only [Act.put, List.setIfInBounds_toArray, List.set_cons_zero, List.set_cons_succ, i64_w, i32_w]
        rfl
       refine pure_ (i := 17) (N := some 110) (v := ?_) (a' := ?_) #[true, true, true, true, true, true, true, true, true, true, true, true, true, true, true, true, true, true] rfl rfl (any_of HT_.out (by kernel_rfl)) (fun _ _ _ h => h) (Or.inl ⟨by rfl, ?_⟩) ?_ ?_
       rotate_left
       ·intro w'
        go_simp
        with_reducible rfl
       rotate_left
       ·simp only [Act.put, List.setIfInBounds_toArray, List.set_cons_zero, List.set_cons_succ, i64_w, i32_w]
        rfl
       refine done_ (done_of HT_.out (by kernel_rfl)) ?_
       go_wp2
       go_roundg k2
       case measure => have := KI.out; omega
       case rel => exact ⟨at2 + 1, kx + 1, by first | rfl | simp [hw2], by first | rfl | simp [hwk1], ⟨by have := J0.out; omega⟩, ⟨by have := K0.out; omega⟩, ⟨by have := KI.out; omega⟩, ⟨sub_take (by rw [← HDR2.out]; exact JS.out)⟩, B8⟩
      ·have HEQ := Aside0.mk (show decide (bt = bk) = false from decide_eq_false he)
       have HNE := Aside0.mk he
       clear he
       go_upto_region 22 with (fail)
       refine start_ (n := 18) (S := fun w' => True) (ds := [15]) #[false, false, false, false, false, false, false, false, false, false, false, false, false, false, false, false, false, false] (by kernel_rfl) rfl rfl trivial (fun hHeld => ?_); refine with_tabW swi.tab22 swi.bits22 (fun HT_ HW_ => ?_)
       refine pure_ (i := 0) (N := some 73) (v := ?_) (a' := ?_) #[true, false, false, false, false, false, false, false, false, false, false, false, false, false, false, false, false, false] rfl rfl (any_of HT_.out (by kernel_rfl)) (fun _ _ _ h => h) (Or.inl ⟨by rfl, ?_⟩) ?_ ?_
       rotate_left
       ·intro w'
        go_simp
        with_reducible rfl
       rotate_left
       ·simp only [Act.put, List.setIfInBounds_toArray, List.set_cons_zero, List.set_cons_succ, i64_w, i32_w]
        rfl
       refine pure_ (i := 1) (N := some 74) (v := ?_) (a' := ?_) #[true, true, false, false, false, false, false, false, false, false, false, false, false, false, false, false, false, false] rfl rfl (any_of HT_.out (by kernel_rfl)) (fun _ _ _ h => h) (Or.inl ⟨by rfl, ?_⟩) ?_ ?_
       rotate_left
       ·intro w'
        go_simp
        with_reducible rfl
       rotate_left
       ·simp only [Act.put, List.setIfInBounds_toArray, List.set_cons_zero, List.set_cons_succ, i64_w, i32_w]
        rfl
       refine pure_ (i := 2) (N := some 75) (v := ?_) (a' := ?_) #[true, true, true, false, false, false, false, false, false, false, false, false, false, false, false, false, false, false] rfl rfl (any_of HT_.out (by kernel_rfl)) (fun _ _ _ h => h) (Or.inl ⟨by rfl, ?_⟩) ?_ ?_
       rotate_left
       ·intro w'
        go_simp
        with_reducible rfl
       rotate_left
       ·simp only [Act.put, List.setIfInBounds_toArray, List.set_cons_zero, List.set_cons_succ, i64_w, i32_w]
        rfl
       refine pure_ (i := 3) (N := some 76) (v := ?_) (a' := ?_) #[true, true, true, true, false, false, false, false, false, false, false, false, false, false, false, false, false, false] rfl rfl (any_of HT_.out (by kernel_rfl)) (fun _ _ _ h => h) (Or.inl ⟨by rfl, ?_⟩) ?_ ?_
       rotate_left
       ·intro w'
        go_simp
        with_reducible rfl
       rotate_left
       ·simp only [Act.put, List.setIfInBounds_toArray, List.set_cons_zero, List.set_cons_succ, i64_w, i32_w]
        rfl
       refine pure_ (i := 4) (N := some 77) (v := ?_) (a' := ?_) #[true, true, true, true, true, false, false, false, false, false, false, false, false, false, false, false, false, false] rfl rfl (any_of HT_.out (by kernel_rfl)) (fun _ _ _ h => h) (Or.inl ⟨by rfl, ?_⟩) ?_ ?_
       rotate_left
       ·intro w'
        go_simp
        with_reducible rfl
       rotate_left
       ·simp only [Act.put, List.setIfInBounds_toArray, List.set_cons_zero, List.set_cons_succ, i64_w, i32_w]
        rfl
       refine pure_ (i := 5) (N := some 78) (v := ?_) (a' := ?_) #[true, true, true, true, true, true, false, false, false, false, false, false, false, false, false, false, false, false] rfl rfl (any_of HT_.out (by kernel_rfl)) (fun _ _ _ h => h) (Or.inl ⟨by rfl, ?_⟩) ?_ ?_
       rotate_left
       ·intro w'
        go_simp
        with_reducible rfl
       rotate_left
       ·simp only [Act.put, List.setIfInBounds_toArray, List.set_cons_zero, List.set_cons_succ, i64_w, i32_w]
        rfl
       refine pure_ (i := 6) (N := some 79) (v := ?_) (a' := ?_) #[true, true, true, true, true, true, true, false, false, false, false, false, false, false, false, false, false, false] rfl rfl (any_of HT_.out (by kernel_rfl)) (fun _ _ _ h => h) (Or.inl ⟨by rfl, ?_⟩) ?_ ?_
       rotate_left
       ·intro w'
        go_simp
        with_reducible rfl
       rotate_left
       ·simp only [Act.put, List.setIfInBounds_toArray, List.set_cons_zero, List.set_cons_succ, i64_w, i32_w]
        rfl
       refine pure_ (i := 7) (N := some 80) (v := ?_) (a' := ?_) #[true, true, true, true, true, true, true, true, false, false, false, false, false, false, false, false, false, false] rfl rfl (any_of HT_.out (by kernel_rfl)) (fun _ _ _ h => h) (Or.inl ⟨by rfl, ?_⟩) ?_ ?_
       rotate_left
       ·intro w'
        go_simp
        with_reducible rfl
       rotate_left
       ·simp only [Act.put, List.setIfInBounds_toArray, List.set_cons_zero, List.set_cons_succ, i64_w, i32_w]
        rfl
       refine pure_ (i := 8) (N := some 81) (v := ?_) (a' := ?_) #[true, true, true, true, true, true, true, true, true, false, false, false, false, false, false, false, false, false] rfl rfl (any_of HT_.out (by kernel_rfl)) (fun _ _ _ h => h) (Or.inl ⟨by rfl, ?_⟩) ?_ ?_
       rotate_left
       ·intro w'
        go_simp
        with_reducible rfl
       rotate_left
       ·simp only [Act.put, List.setIfInBounds_toArray, List.set_cons_zero, List.set_cons_succ, i64_w, i32_w]
        rfl
       refine pure_ (i := 9) (N := some 82) (v := ?_) (a' := ?_) #[true, true, true, true, true, true, true, true, true, true, false, false, false, false, false, false, false, false] rfl rfl (any_of HT_.out (by kernel_rfl)) (fun _ _ _ h => h) (Or.inl ⟨by rfl, ?_⟩) ?_ ?_
       rotate_left
       ·intro w'
        go_simp
        with_reducible rfl
       rotate_left
       ·simp only [Act.put, List.setIfInBounds_toArray, List.set_cons_zero, List.set_cons_succ, i64_w, i32_w]
        rfl
       refine pure_ (i := 10) (N := some 83) (v := ?_) (a' := ?_) #[true, true, true, true, true, true, true, true, true, true, true, false, false, false, false, false, false, false] rfl rfl (any_of HT_.out (by kernel_rfl)) (fun _ _ _ h => h) (Or.inl ⟨by rfl, ?_⟩) ?_ ?_
       rotate_left
       ·intro w'
        go_simp
        with_reducible rfl
       rotate_left
       ·simp only [Act.put, List.setIfInBounds_toArray, List.set_cons_zero, List.set_cons_succ, i64_w, i32_w]
        rfl
       refine pure_ (i := 11) (N := some 84) (v := ?_) (a' := ?_) #[true, true, true, true, true, true, true, true, true, true, true, true, false, false, false, false, false, false] rfl rfl (any_of HT_.out (by kernel_rfl)) (fun _ _ _ h => h) (Or.inl ⟨by rfl, ?_⟩) ?_ ?_
       rotate_left
       ·intro w'
        go_simp
        with_reducible rfl
       rotate_left
       ·simp only [Act.put, List.setIfInBounds_toArray, List.set_cons_zero, List.set_cons_succ, i64_w, i32_w]
        rfl
       refine pure_ (i := 12) (N := some 85) (v := ?_) (a' := ?_) #[true, true, true, true, true, true, true, true, true, true, true, true, true, false, false, false, false, false] rfl rfl (any_of HT_.out (by kernel_rfl)) (fun _ _ _ h => h) (Or.inl ⟨by rfl, ?_⟩) ?_ ?_
       rotate_left
       ·intro w'
        go_simp
        with_reducible rfl
       rotate_left
       ·simp only [Act.put, List.setIfInBounds_toArray, List.set_cons_zero, List.set_cons_succ, i64_w, i32_w]
        rfl
       refine pure_ (i := 13) (N := some 86) (v := ?_) (a' := ?_) #[true, true, true, true, true, true, true, true, true, true, true, true, true, true, false, false, false, false] rfl rfl (any_of HT_.out (by kernel_rfl)) (fun _ _ _ h => h) (Or.inl ⟨by rfl, ?_⟩) ?_ ?_
       rotate_left
       ·intro w'
        go_simp
        with_reducible rfl
       rotate_left
       ·simp only [Act.put, List.setIfInBounds_toArray, List.set_cons_zero, List.set_cons_succ, i64_w, i32_w]
        rfl
       refine pure_ (i := 14) (N := some 87) (v := ?_) (a' := ?_) #[true, true, true, true, true, true, true, true, true, true, true, true, true, true, true, false, false, false] rfl rfl (any_of HT_.out (by kernel_rfl)) (fun _ _ _ h => h) (Or.inl ⟨by rfl, ?_⟩) ?_ ?_
       rotate_left
       ·intro w'
        go_simp
        with_reducible rfl
       rotate_left
       ·simp only [Act.put, List.setIfInBounds_toArray, List.set_cons_zero, List.set_cons_succ, i64_w, i32_w]
        rfl
       refine last_ (i := 15) (N := some 88) #[true, true, true, true, true, true, true, true, true, true, true, true, true, true, true, true, false, false] rfl rfl (one_of HT_.out (by kernel_rfl)) (by decide) (fun K hK => ?_)
       refine goes_ Try.func16 (by kernel_rfl) rfl #[.slice A91 1 c91, .slice Al1 1 cl1] (by rfl) rfl rfl (by simp only [List.map_toArray, List.map_cons, List.map_nil]; rfl) ?_
       with_reducible refine (sameB_w HC91.out HCL1.out HBT.out HBL2.out _ HEQ.out).mono ?_
       rintro e w7 ⟨rfl, hb7⟩
       refine ⟨_, rfl, ?_⟩
       have B7 := Aside0.mk (below_step KB2.out (below_step (below_drew (Below.refl _ _)) hb7))
       have k70 := cell_below' B7.out HK70.out
       have l70 := cell_below' B7.out HL70.out
       clear hb7
       refine hK.out _ _ ?_
       clear hK K
       refine norm_ (a' := ?_) ?_ ?_
       rotate_left
       ·show Act.put _ (some 88) _ = _
        simp only [Act.put, List.setIfInBounds_toArray, List.set_cons_zero, List.set_cons_succ, i64_w, i32_w]
        rfl
       refine pure_ (i := 16) (N := some 89) (v := ?_) (a' := ?_) #[true, true, true, true, true, true, true, true, true, true, true, true, true, true, true, true, true, false] rfl rfl (any_of HT_.out (by kernel_rfl)) (fun _ _ _ h => h) (Or.inl ⟨by rfl, ?_⟩) ?_ ?_
       rotate_left
       ·intro w'
        go_simp
        with_reducible rfl
       rotate_left
       ·simp only [Act.put, List.setIfInBounds_toArray, List.set_cons_zero, List.set_cons_succ, i64_w, i32_w]
        rfl
       refine pure_ (i := 17) (N := some 90) (v := ?_) (a' := ?_) #[true, true, true, true, true, true, true, true, true, true, true, true, true, true, true, true, true, true] rfl rfl (any_of HT_.out (by kernel_rfl)) (fun _ _ _ h => h) (Or.inl ⟨by rfl, ?_⟩) ?_ ?_
       rotate_left
       ·intro w'
        go_simp
        with_reducible rfl
       rotate_left
       ·simp only [Act.put, List.setIfInBounds_toArray, List.set_cons_zero, List.set_cons_succ, i64_w, i32_w]
        rfl
       refine done_ (done_of HT_.out (by kernel_rfl)) ?_
       go_wp2
       go_roundg k3
       case measure => have := JI.out; omega
       case rel => exact ⟨at2 + 1, by first | rfl | simp [hw2], ⟨by have := J0.out; omega⟩, ⟨by have := JI.out; omega⟩, ⟨sub_skip (by rw [← HDR2.out]; exact JS.out) HNE.out⟩, B7⟩
theorem thalweglaw14_SenderWindow.calls (a0 a1 : Int) (A2 : Option Addr) (c2 : Nat) (l2 : List S38) (r : Bool) (w : World) (hr2 : Kd.C k38 w A2 l2.length l2) (hc2 : l2.length ≤ c2) (h : thalweglaw14_SenderWindow.f a0 a1 l2 = some r) :
  Calls Try.prog 3 #[.int .i64 a0, .int .i64 a1, .slice A2 l2.length c2] w fun e w' => e = .returned (.bool r) ∧ Below w.heap.size w w' := by
 have hr : true = r := Option.some.inj h
 subst hr
 by_cases hv : 1 ≤ a0 ∧ a0 ≤ 16 ∧ 1 ≤ a1 ∧ a1 ≤ 100
 ·by_cases hl : (l2.length : Int) > 100
  ·exact window_long a0 a1 A2 c2 _ w hv hl
  ·exact window_ok a0 a1 A2 c2 _ l2 w hr2 hv hl
 ·exact window_no a0 a1 A2 c2 _ w hv
end Go.Proofs.Ytclbempnhelmoaa.P
namespace Go.Proofs.Ytclbempnhelmoaa.P
open Go.RowKit YtclbempnhelmoaaW.PrintWords
def thalweglaw14_SenderWindow.Pure : Prop := ∀ (a0 : Int) (a1 : Int) (l2 : List S38), (Lit.int .i64 a0).wf = true → (Lit.int .i64 a1).wf = true → (l2.length ≤ maxLen ∧ ∀ x0_ ∈ l2, ((Lit.int .i64 x0_.f0).wf = true ∧ ((Lit.int .i64 x0_.f1.f0).wf = true ∧ (Lit.int .i64 x0_.f1.f1).wf = true ∧ (True ∧ (Lit.int .i64 x0_.f1.f2.f1).wf = true ∧ (Lit.int .i64 x0_.f1.f2.f2).wf = true ∧ (Lit.int .i64 x0_.f1.f2.f3).wf = true ∧ (Lit.int .i64 x0_.f1.f2.f4).wf = true ∧ (Lit.int .i64 x0_.f1.f2.f5).wf = true) ∧ ((Lit.int .i64 x0_.f1.f3.f0).wf = true ∧ (Lit.int .i64 x0_.f1.f3.f1).wf = true ∧ (Lit.int .i64 x0_.f1.f3.f2).wf = true) ∧ (Lit.int .i64 x0_.f1.f4).wf = true) ∧ ((Lit.int .i64 x0_.f2.f0).wf = true ∧ (Lit.int .i64 x0_.f2.f1).wf = true ∧ (Lit.int .i64 x0_.f2.f2).wf = true ∧ (Lit.int .i64 x0_.f2.f3).wf = true))) → thalweglaw14_SenderWindow.f a0 a1 l2 = some true
end Go.Proofs.Ytclbempnhelmoaa.P
namespace Go.Proofs.Ytclbempnhelmoaa.Pure
open Go.RowKit Go.Proofs.Ytclbempnhelmoaa.P
theorem SenderWindow : thalweglaw14_SenderWindow.Pure := by
 unfold thalweglaw14_SenderWindow.Pure
 intros
 rfl
end Go.Proofs.Ytclbempnhelmoaa.Pure
namespace Go.Proofs.YtclbempnhelmoaaW.Opn
open Go.RowKit YtclbempnhelmoaaW.PrintWords Go.ChangeShapes Go.WideShapes Go.Deep
def Opens (P : Program) (t : TypeId) {α : Type} (d : Kd α) (wf : α → Prop) : Prop :=
 ∀ {H : Type} (enc : TypeId × Value → H) (w : World) (base : Nat) (spare : Nat → Bool) (held : Bool) (fuel : Nat) (cs : List Value) (y : DataW H × List MemPlace),
  DataW.trod enc P w base spare held fuel t cs = some y → ∃ x : α, d.K w x cs ∧ wf x
theorem opens_int {P : Program} {t : TypeId} {k : IntKind} (ht : P.underlying t = some (.int k)) : Opens P t (Kd.int k) (fun x => (Lit.int k x).wf = true) := by
 intro H enc w base spare held fuel cs y h
 obtain ⟨n, rfl, _, hw⟩ := DataW.trod_int ht h
 exact ⟨n, rfl, hw⟩
theorem opens_bool {P : Program} {t : TypeId} (ht : P.underlying t = some .bool) : Opens P t Kd.bool (fun _ => True) := by
 intro H enc w base spare held fuel cs y h
 obtain ⟨n, rfl, _⟩ := DataW.trod_bool ht h
 exact ⟨n, rfl, trivial⟩
theorem opens_iso {P : Program} {t : TypeId} {α β : Type} {d : Kd α} {wf : α → Prop} (f : β → α) (g : α → β) (hg : ∀ a, f (g a) = a) (h : Opens P t d wf) : Opens P t (Kd.iso d f) (fun b => wf (f b)) := by
 intro H enc w base spare held fuel cs y hy
 obtain ⟨x, hx, hw⟩ := h enc w base spare held fuel cs y hy
 exact ⟨g x, by show d.K w (f (g x)) cs; rw [hg]; exact hx, by show wf (f (g x)); rw [hg]; exact hw⟩
def OpensL (P : Program) : (ts : List TypeId) → {α : Type} → (d : Kd α) → (wf : α → Prop) → Prop := fun ts {α} d wf =>
 ∀ {H : Type} (enc : TypeId × Value → H) (w : World) (base : Nat) (spare : Nat → Bool) (held : Bool) (n : Nat) (cs : List Value) (xs : List (DataW H × List MemPlace)) (off : Nat),
  (∀ (i : Nat) (t : TypeId), ts[i]? = some t → ∃ y, DataW.trod enc P w base spare held n t ((cs.drop (off + ((ts.take i).map P.cellsOf).sum)).take (P.cellsOf t)) = some y) →
  ∃ x : α, d.K w x ((cs.drop off).take ((ts.map P.cellsOf).sum)) ∧ wf x
theorem opensL_one {P : Program} {t : TypeId} {α : Type} {d : Kd α} {wf : α → Prop} (h : Opens P t d wf) : OpensL P [t] d wf := by
 intro H enc w base spare held n cs xs off hx
 obtain ⟨y, hy⟩ := hx 0 t rfl
 simpa using h enc w base spare held n _ y (by simpa using hy)
theorem opensL_cons {P : Program} {t : TypeId} {ts : List TypeId} {α β : Type} {d : Kd α} {d' : Kd β} {wf : α → Prop} {wf' : β → Prop} (h : Opens P t d wf) (h' : OpensL P ts d' wf') :
  OpensL P (t :: ts) (Kd.pair d d') (fun x => wf x.1 ∧ wf' x.2) := by
 intro H enc w base spare held n cs xs off hx
 obtain ⟨y, hy⟩ := hx 0 t rfl
 obtain ⟨x, hk, hw⟩ := h enc w base spare held n _ y (by simpa using hy)
 obtain ⟨x', hk', hw'⟩ := h' enc w base spare held n cs xs (off + P.cellsOf t) (fun i u hu => by
  have := hx (i + 1) u hu
  simpa [Nat.add_assoc] using this)
 refine ⟨(x, x'), ⟨(cs.drop off).take (P.cellsOf t), (cs.drop (off + P.cellsOf t)).take ((ts.map P.cellsOf).sum), ?_, hk, hk'⟩, hw, hw'⟩
 simp only [List.map_cons, List.sum_cons]
 rw [List.take_add, List.drop_drop]
def lineB (P : Program) : List Field → Nat → Bool
 | [], _ => true
 | f :: fs, off => (f.offset == off) && lineB P fs (off + P.cellsOf f.type)
theorem line_at {P : Program} : ∀ (fs : List Field) (off : Nat), lineB P fs off = true → ∀ (i : Nat) (f : Field), fs[i]? = some f → f.offset = off + (((fs.map (·.type)).take i).map P.cellsOf).sum := by
 intro fs
 induction fs with
 | nil => intro off _ i f h; simp at h
 | cons g gs ih =>
  intro off hb i f h
  unfold lineB at hb
  rw [Bool.and_eq_true, beq_iff_eq] at hb
  cases i with
  | zero =>
   simp at h
   subst h
   simpa using hb.1
  | succ i =>
   have := ih _ hb.2 i f (by simpa using h)
   simp only [List.map_cons, List.take_succ_cons, List.sum_cons]
   omega
theorem opens_struct {P : Program} {t : TypeId} {fs : Array Field} {α : Type} {d : Kd α} {wf : α → Prop} (ht : P.underlying t = some (.struct fs)) (hl : lineB P fs.toList 0 = true) (hc : P.cellsOf t = ((fs.toList.map (·.type)).map P.cellsOf).sum)
  (h : OpensL P (fs.toList.map (·.type)) d wf) : Opens P t d wf := by
 intro H enc w base spare held fuel cs y hy
 obtain ⟨xs, n, _, _, hlen, hxl, hf⟩ := DataW.trod_struct ht hy
 obtain ⟨x, hk, hw⟩ := h enc w base spare held n cs xs 0 (fun i u hu => by
  rw [List.getElem?_map, Option.map_eq_some_iff] at hu
  obtain ⟨f, hf0, rfl⟩ := hu
  have hi : i < fs.size := by
   have := (List.getElem?_eq_some_iff.1 hf0).1
   simpa using this
  have h1 := hf i f (by rw [← Array.getElem?_toList]; exact hf0)
  rw [line_at _ 0 hl i f hf0] at h1
  exact ⟨_, h1.trans (List.getElem?_eq_getElem (by omega))⟩)
 rw [← hc, List.drop_zero, ← hlen, List.take_length] at hk
 exact ⟨x, hk, hw⟩
theorem reads_build {P : Program} {e : TypeId} {α : Type} {d : Kd α} {wf : α → Prop} (hs : P.cellsOf e = d.sz) (w : World) (ad : Addr) : ∀ (len : Nat), (∀ i, i < len → ∃ (x : α) (c : List Value), c.length = d.sz ∧ d.K w x c ∧ wf x ∧ ∀ j u, c[j]? = some u → w.cell? (ad.add (i * d.sz + j)) = some u) →
  ∃ xs : List α, xs.length = len ∧ (∀ x ∈ xs, wf x) ∧ ∀ j p, xs[j]? = some p → ∃ c, c.length = d.sz ∧ d.K w p c ∧ ∀ i u, c[i]? = some u → w.cell? (ad.add (j * d.sz + i)) = some u := by
 intro len
 induction len with
 | zero => intro _; exact ⟨[], rfl, by simp, by simp⟩
 | succ n ih =>
  intro h
  obtain ⟨xs, hl, hw, hx⟩ := ih (fun i hi => h i (by omega))
  obtain ⟨x, c, hc, hk, hwx, hcell⟩ := h n (by omega)
  refine ⟨xs ++ [x], by simp [hl], ?_, ?_⟩
  ·intro y hy
   rcases List.mem_append.1 hy with hy | hy
   ·exact hw y hy
   ·rw [List.mem_singleton.1 hy]; exact hwx
  ·intro j p hj
   rcases Nat.lt_or_ge j xs.length with hjl | hjl
   ·rw [List.getElem?_append_left hjl] at hj
    exact hx j p hj
   ·have : j = xs.length := by
     have := (List.getElem?_eq_some_iff.1 hj).1
     simp at this
     omega
    subst this
    have hp : x = p := by simpa using hj
    subst hp
    exact ⟨c, hc, hk, by rw [hl]; exact hcell⟩
theorem opens_slice {P : Program} {t e : TypeId} {α : Type} {d : Kd α} {wf : α → Prop} (ht : P.underlying t = some (.slice e)) (hs : P.cellsOf e = d.sz) (h : Opens P e d wf) : Opens P t (Kd.slice e d) (fun l => l.length ≤ maxLen ∧ ∀ x ∈ l, wf x) := by
 intro H enc w base spare held fuel cs y hy
 rcases open_slice ht hy with ⟨rfl, _⟩ | ⟨a, len, cap, m, n, D, Pl, rfl, hb, hl, hm, hmm, hx, hi⟩
 ·exact ⟨[], ⟨none, 0, rfl, Nat.le_refl _, rfl, by simp, by simp⟩, by simp, by simp⟩
 ·have hle : len ≤ m := by rw [hmm]; split <;> omega
  obtain ⟨xs, hxl, hwf, hxs⟩ := reads_build (P := P) (e := e) (d := d) (wf := wf) hs w a len (fun i hlt => by
   obtain ⟨cs', hc, ht'⟩ := hi i (by omega)
   obtain ⟨_, hcl, hat⟩ := World.cells?_some hc
   obtain ⟨x, hk, hwx⟩ := h enc w base spare held n cs' _ ht'
   refine ⟨x, cs', by omega, hk, hwx, fun j u hj => ?_⟩
   have hjl := (List.getElem?_eq_some_iff.1 hj).1
   have := hat j (by omega)
   rw [← Go.Deep.add_add, ← hs, this, hj])
  have hm' : len ≤ maxLen := by omega
  subst hxl
  have hm2 : xs.length ≤ 9223372036854775807 := by unfold maxLen at hm'; omega
  exact ⟨xs, ⟨some a, cap, rfl, hl, rfl, hm2, fun _ => ⟨a, rfl, hxs⟩⟩, hm', hwf⟩
end Go.Proofs.YtclbempnhelmoaaW.Opn
namespace Go.Proofs.Ytclbempnhelmoaa.senderWindow
open Go.ChangeShapes Go.WideShapes Go.ChangeAt Go.RowKit Go.Proofs.YtclbempnhelmoaaW YtclbempnhelmoaaW.PrintWords Go.Proofs.Ytclbempnhelmoaa.P
open Go.ChangeMaps (open_string shut_string)
theorem own : ownKnob Try.prog.godebug = none := by kernel_rfl
theorem laidOut : laidOutB Try.prog = true := by kernel_rfl
theorem opn30 : Opn.Opens Try.prog 30 k30 (fun x => (True ∧ (Lit.int .i64 x.f1).wf = true ∧ (Lit.int .i64 x.f2).wf = true ∧ (Lit.int .i64 x.f3).wf = true ∧ (Lit.int .i64 x.f4).wf = true ∧ (Lit.int .i64 x.f5).wf = true)) :=
 Opn.opens_iso (fun x : S30 => (x.f0, x.f1, x.f2, x.f3, x.f4, x.f5)) (fun a => ⟨a.1, a.2.1, a.2.2.1, a.2.2.2.1, a.2.2.2.2.1, a.2.2.2.2.2⟩) (fun _ => rfl) (Opn.opens_struct Try.underlying30 (by kernel_rfl) (by kernel_rfl) (Opn.opensL_cons (Opn.opens_bool Try.underlying4) (Opn.opensL_cons (Opn.opens_int Try.underlying3) (Opn.opensL_cons (Opn.opens_int Try.underlying3) (Opn.opensL_cons (Opn.opens_int Try.underlying3) (Opn.opensL_cons (Opn.opens_int Try.underlying3) (Opn.opensL_one (Opn.opens_int Try.underlying3))))))))
theorem opn32 : Opn.Opens Try.prog 32 k32 (fun x => ((Lit.int .i64 x.f0).wf = true ∧ (Lit.int .i64 x.f1).wf = true ∧ (Lit.int .i64 x.f2).wf = true)) :=
 Opn.opens_iso (fun x : S32 => (x.f0, x.f1, x.f2)) (fun a => ⟨a.1, a.2.1, a.2.2⟩) (fun _ => rfl) (Opn.opens_struct Try.underlying32 (by kernel_rfl) (by kernel_rfl) (Opn.opensL_cons (Opn.opens_int Try.underlying3) (Opn.opensL_cons (Opn.opens_int Try.underlying3) (Opn.opensL_one (Opn.opens_int Try.underlying3)))))
theorem opn34 : Opn.Opens Try.prog 34 k34 (fun x => ((Lit.int .i64 x.f0).wf = true ∧ (Lit.int .i64 x.f1).wf = true ∧ (True ∧ (Lit.int .i64 x.f2.f1).wf = true ∧ (Lit.int .i64 x.f2.f2).wf = true ∧ (Lit.int .i64 x.f2.f3).wf = true ∧ (Lit.int .i64 x.f2.f4).wf = true ∧ (Lit.int .i64 x.f2.f5).wf = true) ∧ ((Lit.int .i64 x.f3.f0).wf = true ∧ (Lit.int .i64 x.f3.f1).wf = true ∧ (Lit.int .i64 x.f3.f2).wf = true) ∧ (Lit.int .i64 x.f4).wf = true)) :=
 Opn.opens_iso (fun x : S34 => (x.f0, x.f1, x.f2, x.f3, x.f4)) (fun a => ⟨a.1, a.2.1, a.2.2.1, a.2.2.2.1, a.2.2.2.2⟩) (fun _ => rfl) (Opn.opens_struct Try.underlying34 (by kernel_rfl) (by kernel_rfl) (Opn.opensL_cons (Opn.opens_int Try.underlying3) (Opn.opensL_cons (Opn.opens_int Try.underlying3) (Opn.opensL_cons opn30 (Opn.opensL_cons opn32 (Opn.opensL_one (Opn.opens_int Try.underlying3)))))))
theorem opn36 : Opn.Opens Try.prog 36 k36 (fun x => ((Lit.int .i64 x.f0).wf = true ∧ (Lit.int .i64 x.f1).wf = true ∧ (Lit.int .i64 x.f2).wf = true ∧ (Lit.int .i64 x.f3).wf = true)) :=
 Opn.opens_iso (fun x : S36 => (x.f0, x.f1, x.f2, x.f3)) (fun a => ⟨a.1, a.2.1, a.2.2.1, a.2.2.2⟩) (fun _ => rfl) (Opn.opens_struct Try.underlying36 (by kernel_rfl) (by kernel_rfl) (Opn.opensL_cons (Opn.opens_int Try.underlying3) (Opn.opensL_cons (Opn.opens_int Try.underlying3) (Opn.opensL_cons (Opn.opens_int Try.underlying3) (Opn.opensL_one (Opn.opens_int Try.underlying3))))))
theorem opn38 : Opn.Opens Try.prog 38 k38 (fun x => ((Lit.int .i64 x.f0).wf = true ∧ ((Lit.int .i64 x.f1.f0).wf = true ∧ (Lit.int .i64 x.f1.f1).wf = true ∧ (True ∧ (Lit.int .i64 x.f1.f2.f1).wf = true ∧ (Lit.int .i64 x.f1.f2.f2).wf = true ∧ (Lit.int .i64 x.f1.f2.f3).wf = true ∧ (Lit.int .i64 x.f1.f2.f4).wf = true ∧ (Lit.int .i64 x.f1.f2.f5).wf = true) ∧ ((Lit.int .i64 x.f1.f3.f0).wf = true ∧ (Lit.int .i64 x.f1.f3.f1).wf = true ∧ (Lit.int .i64 x.f1.f3.f2).wf = true) ∧ (Lit.int .i64 x.f1.f4).wf = true) ∧ ((Lit.int .i64 x.f2.f0).wf = true ∧ (Lit.int .i64 x.f2.f1).wf = true ∧ (Lit.int .i64 x.f2.f2).wf = true ∧ (Lit.int .i64 x.f2.f3).wf = true))) :=
 Opn.opens_iso (fun x : S38 => (x.f0, x.f1, x.f2)) (fun a => ⟨a.1, a.2.1, a.2.2⟩) (fun _ => rfl) (Opn.opens_struct Try.underlying38 (by kernel_rfl) (by kernel_rfl) (Opn.opensL_cons (Opn.opens_int Try.underlying3) (Opn.opensL_cons opn34 (Opn.opensL_one opn36))))
theorem lifted (os : Os) (started : os.Started) (H : Type) (enc : TypeId × Value → H) :
  ReturnsInHanded {} Try.checked os 3 .any (Rows.senderWindowSpec.pre6 enc Try.prog Try.f3 Rows.senderWindowRow.domain false) (Rows.senderWindowSpec.post enc Try.prog Try.f3 false true false false) := by
 refine returnsInHanded_of_change_sized (C := Try.checked) own started (by kernel_rfl) Try.func3
  (ChangeSpec.witness6 (enc := enc) (C := Try.checked) false ⟨#[], #[.int .i64 0, .int .i64 0, .slice none 0 0], []⟩ 8 (by kernel_rfl) (by kernel_rfl) (by kernel_rfl) (by kernel_rfl)) ?_
 intro W base args ds gs before hval0 hW hcnd hsz0 _
 have hval : ∀ (j : Nat) t v, Try.f3.params[j]? = some t → args[j]? = some v → Value.okWide Try.prog W .any base t v := hval0
 have hW' := hW
 obtain ⟨p, q, hA0, hV, rfl, hfz, hnd⟩ := hW
 have hA : DataW.TrodAll enc Try.prog W 0 (fun _ => true) true Try.f3.params.toList args.toList ds p := hA0
 rw [Try.params3] at hA hval
 obtain ⟨v0, vs0, d0, ds0, p0, q0, hargs, rfl, rfl, h0, r0⟩ := trodAll_cons hA
 obtain ⟨v1, vs1, d1, ds1, p1, q1, rfl, rfl, rfl, h1, r1⟩ := trodAll_cons r0
 obtain ⟨v2, vs2, d2, ds2, p2, q2, rfl, rfl, rfl, h2, r2⟩ := trodAll_cons r1
 obtain ⟨rfl, rfl, rfl⟩ := trodAll_nil r2
 obtain rfl : args = #[v0, v1, v2] := by cases args; simp_all
 obtain ⟨rfl, rfl⟩ := trodVars_none hV
 obtain ⟨a0, rfl, rfl, rfl, w0⟩ := open_int Try.underlying3 (hval 0 3 v0 rfl rfl) h0
 obtain ⟨a1, rfl, rfl, rfl, w1⟩ := open_int Try.underlying3 (hval 1 3 v1 rfl rfl) h1
 have k2 := h2
 have lt2 : ∀ x ∈ p2, x.block < W.heap.size := by obtain ⟨m, hm⟩ := k2; exact DataW.trod_lt m _ _ _ hm
 obtain ⟨a2, len2, cap2, rfl⟩ := okWide_slice Try.underlying22 (hval 2 22 v2 rfl rfl)
 obtain ⟨l2, K2, W2⟩ : ∃ l : List S38, (Kd.slice 38 k38).K W l [.slice a2 len2 cap2] ∧ (l.length ≤ maxLen ∧ ∀ x0_ ∈ l, ((Lit.int .i64 x0_.f0).wf = true ∧ ((Lit.int .i64 x0_.f1.f0).wf = true ∧ (Lit.int .i64 x0_.f1.f1).wf = true ∧ (True ∧ (Lit.int .i64 x0_.f1.f2.f1).wf = true ∧ (Lit.int .i64 x0_.f1.f2.f2).wf = true ∧ (Lit.int .i64 x0_.f1.f2.f3).wf = true ∧ (Lit.int .i64 x0_.f1.f2.f4).wf = true ∧ (Lit.int .i64 x0_.f1.f2.f5).wf = true) ∧ ((Lit.int .i64 x0_.f1.f3.f0).wf = true ∧ (Lit.int .i64 x0_.f1.f3.f1).wf = true ∧ (Lit.int .i64 x0_.f1.f3.f2).wf = true) ∧ (Lit.int .i64 x0_.f1.f4).wf = true) ∧ ((Lit.int .i64 x0_.f2.f0).wf = true ∧ (Lit.int .i64 x0_.f2.f1).wf = true ∧ (Lit.int .i64 x0_.f2.f2).wf = true ∧ (Lit.int .i64 x0_.f2.f3).wf = true))) := by
  obtain ⟨fuel, hf⟩ := h2
  exact (Opn.opens_slice Try.underlying22 (by kernel_rfl) opn38) enc W 0 (fun _ => true) true fuel _ _ hf
 obtain ⟨A2, c2, E2, g2, C2⟩ := K2
 simp only [List.cons.injEq, Value.slice.injEq, and_true] at E2
 obtain ⟨rfl, rfl, rfl⟩ := E2
 have hk := Pure.SenderWindow a0 a1 l2 w0 w1 W2
 clear hA0 hval0 hsz0
 refine (thalweglaw14_SenderWindow.calls (a0 := a0) (a1 := a1) (A2 := a2) (c2 := cap2) (l2 := l2) (r := true) (w := W) (hr2 := C2) (hc2 := g2) (h := hk)).mono fun e W' ⟨he, bel⟩ => ?_
 subst he
 exact ⟨_, rfl, _, _, _, [], _, [], hW', trodAll_mk1 (shut_bool Try.underlying4 _), (trodAll_cons_mk (shut_int Try.underlying3 w0) (trodAll_cons_mk (shut_int Try.underlying3 w1) (trodAll_cons_mk (Below.trod laidOut (by kernel_rfl) (of_decide_eq_true (by kernel_rfl)) k2 bel lt2) trodAll_mk0))), rfl, bel.frame _, fun h => by cases h⟩
theorem over : Rows.senderWindowRow.holds Try.pinned (OpenSpec.ofChange Rows.senderWindowSpec) :=
 OpenClaim.holds_of_wide 3 Try.f3 rfl rfl rfl rfl rfl rfl rfl ⟨rfl, rfl, rfl, rfl, rfl⟩ rfl rfl rfl rfl rfl (by kernel_rfl) Try.func3 (by kernel_rfl)
  (of_decide_eq_true (by kernel_rfl)) (by unfold Func.isWrapper; first | (rw [if_pos (by decide +kernel)]; kernel_rfl) | (rw [if_neg (by decide +kernel)]; exact ⟨rfl, rfl⟩))
  (fun os started H enc _ => lifted os started H enc)
theorem proved : Rows.SenderWindowSaid := over
end Go.Proofs.Ytclbempnhelmoaa.senderWindow
namespace Go.Proofs.Ytclbempnhelmoaa
theorem senderWindow_holds : Rows.SenderWindowSaid := senderWindow.proved
end Go.Proofs.Ytclbempnhelmoaa
