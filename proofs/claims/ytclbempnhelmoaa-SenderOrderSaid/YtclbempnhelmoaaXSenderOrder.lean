/- The statement SenderOrder, proved of the given program; it has no conditions. (Of many texts laid together) -/
import Derived.Test.YtclbempnhelmoaaXSenderOrderWWords
import Derived.Test.YtclbempnhelmoaaXSenderOrderWMore
import Derived.ProofKit
import Derived.OpenShut
import Derived.ChangeSame
import Derived.ChangeOld
import Derived.Deep.Slices
import Derived.Deep.Fields
import Derived.Test.YtclbempnhelmoaaRows
import Derived.WalkKit
import Derived.ShutString
import Derived.Below
import Derived.SizedLaws
import Derived.Test.YtclbempnhelmoaaXSenderOrdera
import Derived.Test.YtclbempnhelmoaaXSenderOrderb
import Derived.Test.YtclbempnhelmoaaXSenderOrderc
import Derived.Test.YtclbempnhelmoaaXSenderOrderd
import Derived.Test.YtclbempnhelmoaaXSenderOrdere
set_option linter.unusedVariables false
set_option linter.unusedSimpArgs false
set_option maxHeartbeats 8000000
set_option maxRecDepth 100000
namespace Go.Proofs.Ytclbempnhelmoaa.P
open Go.RowKit YtclbempnhelmoaaW.PrintWords YtclbempnhelmoaaW.PrintLast YtclbempnhelmoaaW.PrintMore
open Classical
def thalweglaw14_SenderOrder.f (a0 a1 : Int) (l2 : List S38) : Option Bool := some true
theorem order_no (a0 a1 : Int) (A2 : Option Addr) (c2 n : Nat) (w : World) (hv : ¬ (1 ≤ a0 ∧ a0 ≤ 16 ∧ 1 ≤ a1 ∧ a1 ≤ 100)) :
  Calls Try.prog 6 #[.int .i64 a0, .int .i64 a1, .slice A2 n c2] w fun e w' => e = .returned (.bool true) ∧ Below w.heap.size w w' := by
 have HV := Aside0.mk hv
 clear hv
 go_enter Try.func6, Try.ntmps6
 go_wp2_with (first
  | (go_at_call 9; (with_reducible refine (new_no _ _ _ HV.out).mono ?_); rintro x_ w_ ⟨rfl, rfl⟩)
  | (go_at_call 10; (with_reducible refine (awake_a _).mono ?_); rintro x_ w9 ⟨rfl, hb⟩; have B9 := Aside0.mk (below_step (Below.refl _ _) hb); clear hb))
 go_ret
 exact ⟨rfl, B9.out⟩
theorem order_long (a0 a1 : Int) (A2 : Option Addr) (c2 n : Nat) (w : World) (hv : 1 ≤ a0 ∧ a0 ≤ 16 ∧ 1 ≤ a1 ∧ a1 ≤ 100) (hl : (n : Int) > 100) :
  Calls Try.prog 6 #[.int .i64 a0, .int .i64 a1, .slice A2 n c2] w fun e w' => e = .returned (.bool true) ∧ Below w.heap.size w w' := by
 have HV := Aside0.mk hv
 have bq : decide ((n : Int) > 100) = true := decide_eq_true hl
 clear hv hl
 go_enter Try.func6, Try.ntmps6
 go_wp2_with (first
  | (go_at_call 9; (with_reducible refine (new_a (Below.refl _ _) a0 a1 HV.out.1 HV.out.2.1 HV.out.2.2.1 HV.out.2.2.2).mono ?_); rintro x_ w2 ⟨g, F2, R2, rfl, hn, _, _⟩; have M2 := Aside0.mk hn; clear hn)
  | (go_at_call 10; (with_reducible refine (awake_a _).mono ?_); rintro x_ w9 ⟨rfl, hb⟩; have B9 := Aside0.mk (below_step M2.out.bl hb); clear hb))
 go_ret
 exact ⟨rfl, B9.out⟩
theorem order_ok (a0 a1 : Int) (A2 : Option Addr) (c2 n : Nat) (l2 : List S38) (w : World) (hr2 : Kd.C k38 w A2 n l2) (hv : 1 ≤ a0 ∧ a0 ≤ 16 ∧ 1 ≤ a1 ∧ a1 ≤ 100) (hl : ¬ (n : Int) > 100) :
  Calls Try.prog 6 #[.int .i64 a0, .int .i64 a1, .slice A2 n c2] w fun e w' => e = .returned (.bool true) ∧ Below w.heap.size w w' := by
 have HV := Aside0.mk hv
 have HR2 := Aside0.mk hr2
 have HL := Aside0.mk hl
 have bq : decide ((n : Int) > 100) = false := decide_eq_false hl
 clear hv hl hr2
 go_enter Try.func6, Try.ntmps6
 go_wp2_with (go_at_call 9; (with_reducible refine (new_a (Below.refl _ _) a0 a1 HV.out.1 HV.out.2.1 HV.out.2.2.1 HV.out.2.2.2).mono ?_); rintro x_ w2 ⟨g, F2, R2, rfl, hn, _, _⟩; have M2 := Aside0.mk hn; clear hn)
 go_loopg [9, 10, 11, 12] n (fun kq v9' v10' v11 v12 wr => ∃ (x : Int) (F R : Nat → Prop) (s : AS) (P Q : List S34) (v9 v10 : Value), v12 = .int .i64 x ∧ v9 = v9' ∧ v10 = v10' ∧ v11 = .int .i64 s.nx ∧ Aside0 (0 ≤ x) ∧ Aside0 (x + kq = n) ∧ Aside0 (Sn w wr F R g a0 a1 s) ∧ Aside0 (OkA a1 (2048 * x.toNat) s) ∧ Aside0 (Od w wr F v9 v10 P Q) ∧ Aside0 (P = Q ++ s.W) ∧ Aside0 ((P.length : Int) ≤ x))
 case atStart => exact ⟨0, F2, R2, _, [], [], _, _, rfl, rfl, rfl, rfl, ⟨by omega⟩, ⟨by omega⟩, M2, ⟨OkA.nil _ _⟩, ⟨⟨Kd.R_nil _ _ _ _ _, Kd.R_nil _ _ _ _ _, (fun k hk => by simp [Value.ownBlock] at hk), (fun k hk => by simp [Value.ownBlock] at hk), (fun k hk => by simp [Value.ownBlock] at hk)⟩⟩, ⟨rfl⟩, ⟨by simp⟩⟩
 case round =>
  clear M2
  obtain ⟨x, F, R, s, P, Q, v9, v10, rfl, rfl, rfl, rfl, H0, HI, SS, HK, OO, HPS, HPL⟩ := hrel
  obtain ⟨wz, rfl⟩ : ∃ wz, wz = wr := ⟨_, rfl⟩
  cases gk with
  | zero =>
   have hnl : decide (x < (n : Int)) = false := decide_eq_false (by have := HI.out; omega)
   go_wp2_with (go_at_call 10; (with_reducible refine (awake_a _).mono ?_); rintro x_ w9 ⟨rfl, hb⟩; have B9 := Aside0.mk (below_step SS.out.bl hb); clear hb)
   go_ret
   exact ⟨rfl, B9.out⟩
  | succ k1 =>
   have hlt := (show x < (n : Int) by have := HI.out; omega)
   have HXL := Aside0.mk (show x < 100 by have := HI.out; have := HL.out; omega)
   have h0 := H0.out
   have hd : decide (x < (n : Int)) = true := decide_eq_true hlt
   have hw : wrap64 (x + 1) = x + 1 := w64 (by omega) (by have := HL.out; omega)
   have HN9 := Aside0.mk (show 2048 * x.toNat ≤ 800000 by have := HL.out; omega)
   have HN8 := Aside0.mk (show 2048 * x.toNat ≤ 900000 by have := HL.out; omega)
   obtain ⟨ad, e_, x0, x1, x2, x3, x4, x5, x6, x7, x8, x9, x10, x11, x12, x13, x14, x15, x16⟩ := at_T38 (Kd.C_below HR2.out SS.out.bl) x h0 hlt
   cases e_
   obtain ⟨y, hy⟩ : ∃ y, y = rd_T38 l2 x := ⟨_, rfl⟩
   rw [← hy] at x0 x1 x2 x3 x4 x5 x6 x7 x8 x9 x10 x11 x12 x13 x14 x15 x16
   have h0t := eq_true h0
   have hltt := eq_true hlt
   clear hy bq
   go_upto_region 11 with ((with_reducible refine gate_dst (N := 13) rfl ?_); refine box_event ?hg (N := 13) ?hd (cs := #[.int .i64 0, .int .i64 0, .int .i64 0, .bool false, .int .i64 0, .int .i64 0, .int .i64 0, .int .i64 0, .int .i64 0, .int .i64 0, .int .i64 0, .int .i64 0, .int .i64 0, .int .i64 0, .int .i64 0, .int .i64 0, .int .i64 0]) (t := 38) ?hr ?_; (case hd => rfl); (case hg => rfl); (case hr => first | (go_simp; done) | (go_simp; rfl) | rfl | kernel_rfl); intro gb hg w3 hbox hb; have HB3 := Aside0.mk (show Below wz.heap.size wz (((((((((((((((((w3.setCell ⟨gb, 0, none⟩ (.int .i64 y.f0)).setCell ⟨gb, 1, none⟩ (.int .i64 y.f1.f0)).setCell ⟨gb, 2, none⟩ (.int .i64 y.f1.f1)).setCell ⟨gb, 3, none⟩ (.bool y.f1.f2.f0)).setCell ⟨gb, 4, none⟩ (.int .i64 y.f1.f2.f1)).setCell ⟨gb, 5, none⟩ (.int .i64 y.f1.f2.f2)).setCell ⟨gb, 6, none⟩ (.int .i64 y.f1.f2.f3)).setCell ⟨gb, 7, none⟩ (.int .i64 y.f1.f2.f4)).setCell ⟨gb, 8, none⟩ (.int .i64 y.f1.f2.f5)).setCell ⟨gb, 9, none⟩ (.int .i64 y.f1.f3.f0)).setCell ⟨gb, 10, none⟩ (.int .i64 y.f1.f3.f1)).setCell ⟨gb, 11, none⟩ (.int .i64 y.f1.f3.f2)).setCell ⟨gb, 12, none⟩ (.int .i64 y.f1.f4)).setCell ⟨gb, 13, none⟩ (.int .i64 y.f2.f0)).setCell ⟨gb, 14, none⟩ (.int .i64 y.f2.f1)).setCell ⟨gb, 15, none⟩ (.int .i64 y.f2.f2)).setCell ⟨gb, 16, none⟩ (.int .i64 y.f2.f3)) from below17 (Nat.le_of_eq hg.symm) hb); have BB3 := Aside0.mk (show (((((((((((((((((w3.setCell ⟨gb, 0, none⟩ (.int .i64 y.f0)).setCell ⟨gb, 1, none⟩ (.int .i64 y.f1.f0)).setCell ⟨gb, 2, none⟩ (.int .i64 y.f1.f1)).setCell ⟨gb, 3, none⟩ (.bool y.f1.f2.f0)).setCell ⟨gb, 4, none⟩ (.int .i64 y.f1.f2.f1)).setCell ⟨gb, 5, none⟩ (.int .i64 y.f1.f2.f2)).setCell ⟨gb, 6, none⟩ (.int .i64 y.f1.f2.f3)).setCell ⟨gb, 7, none⟩ (.int .i64 y.f1.f2.f4)).setCell ⟨gb, 8, none⟩ (.int .i64 y.f1.f2.f5)).setCell ⟨gb, 9, none⟩ (.int .i64 y.f1.f3.f0)).setCell ⟨gb, 10, none⟩ (.int .i64 y.f1.f3.f1)).setCell ⟨gb, 11, none⟩ (.int .i64 y.f1.f3.f2)).setCell ⟨gb, 12, none⟩ (.int .i64 y.f1.f4)).setCell ⟨gb, 13, none⟩ (.int .i64 y.f2.f0)).setCell ⟨gb, 14, none⟩ (.int .i64 y.f2.f1)).setCell ⟨gb, 15, none⟩ (.int .i64 y.f2.f2)).setCell ⟨gb, 16, none⟩ (.int .i64 y.f2.f3)).heap[gb]? = some (.cells #[.int .i64 y.f0, .int .i64 y.f1.f0, .int .i64 y.f1.f1, .bool y.f1.f2.f0, .int .i64 y.f1.f2.f1, .int .i64 y.f1.f2.f2, .int .i64 y.f1.f2.f3, .int .i64 y.f1.f2.f4, .int .i64 y.f1.f2.f5, .int .i64 y.f1.f3.f0, .int .i64 y.f1.f3.f1, .int .i64 y.f1.f3.f2, .int .i64 y.f1.f4, .int .i64 y.f2.f0, .int .i64 y.f2.f1, .int .i64 y.f2.f2, .int .i64 y.f2.f3] 38 (0, 0)) from put17 hbox); have HNF := Aside0.mk (show ¬ F gb from fun hF => by have := SS.out.lt gb hF; omega); have S3 := Aside0.mk (SS.out.below HB3.out); obtain ⟨z0, z1, z2, z3, z4, z5, z6, z7, z8, z9, z10, z11, z12, z13, z14, z15, z16⟩ := cells17 hbox; obtain ⟨zf0, zf1, zf2, zf3, zf4, zf5, zf6, zf7, zf8, zf9, zf10, zf11, zf12, zf13, zf14, zf15, zf16⟩ := frozen17 hbox; obtain ⟨b0, b1, b2, b3, b4, b5, b6, b7, b8, b9, b10, b11, b12, b13, b14, b15, b16⟩ := cells17 BB3.out; clear hb hbox hg)
   have O3 := Aside0.mk (OO.out.below HB3.out)
   generalize (((((((((((((((((w3.setCell ⟨gb, 0, none⟩ (.int .i64 y.f0)).setCell ⟨gb, 1, none⟩ (.int .i64 y.f1.f0)).setCell ⟨gb, 2, none⟩ (.int .i64 y.f1.f1)).setCell ⟨gb, 3, none⟩ (.bool y.f1.f2.f0)).setCell ⟨gb, 4, none⟩ (.int .i64 y.f1.f2.f1)).setCell ⟨gb, 5, none⟩ (.int .i64 y.f1.f2.f2)).setCell ⟨gb, 6, none⟩ (.int .i64 y.f1.f2.f3)).setCell ⟨gb, 7, none⟩ (.int .i64 y.f1.f2.f4)).setCell ⟨gb, 8, none⟩ (.int .i64 y.f1.f2.f5)).setCell ⟨gb, 9, none⟩ (.int .i64 y.f1.f3.f0)).setCell ⟨gb, 10, none⟩ (.int .i64 y.f1.f3.f1)).setCell ⟨gb, 11, none⟩ (.int .i64 y.f1.f3.f2)).setCell ⟨gb, 12, none⟩ (.int .i64 y.f1.f4)).setCell ⟨gb, 13, none⟩ (.int .i64 y.f2.f0)).setCell ⟨gb, 14, none⟩ (.int .i64 y.f2.f1)).setCell ⟨gb, 15, none⟩ (.int .i64 y.f2.f2)).setCell ⟨gb, 16, none⟩ (.int .i64 y.f2.f3)) = wq at HB3 BB3 S3 O3 b0 b1 b2 b3 b4 b5 b6 b7 b8 b9 b10 b11 b12 b13 b14 b15 b16 ⊢
   by_cases q0 : y.f0 = 0
   ·have b0q : (y.f0 == 0) = true := beq_iff_eq.mpr q0
    clear q0
    by_cases hp : OR y.f1 ∧ s.W.length < 1024
    ·have HP := Aside0.mk hp
     clear hp
     go_upto_region 27 with (first
      | (go_at_call 11; (with_reducible refine (push_y S3.out y.f1 HP.out).mono ?_); rintro x_ w4 ⟨F4, R4, rfl, hn, hx⟩; have M4 := Aside0.mk hn; have O4 := Aside0.mk (O3.out.step hx S3.out.rf); have BB4 := Aside0.mk (S3.out.keepb hx BB3.out HNF.out).1; obtain ⟨_, d1, d2, d3, d4, d5, d6, d7, d8, d9, d10, d11, d12, _, _, _, _⟩ := cells17 BB4.out; clear hn hx)
      | ((with_reducible refine gate_dst (N := 61) rfl ?_); refine lit1_event ?hg (N := 61) ?hd (cs := #[.int .i64 y.f1.f0, .int .i64 y.f1.f1, .bool y.f1.f2.f0, .int .i64 y.f1.f2.f1, .int .i64 y.f1.f2.f2, .int .i64 y.f1.f2.f3, .int .i64 y.f1.f2.f4, .int .i64 y.f1.f2.f5, .int .i64 y.f1.f3.f0, .int .i64 y.f1.f3.f1, .int .i64 y.f1.f3.f2, .int .i64 y.f1.f4]) (t := 34) (n := 1) ?hr ?_; (case hd => rfl); (case hg => rfl); (case hr => first | (go_simp; done) | (go_simp; rfl)); intro gl hg w5 hbox hb; have M5 := Aside0.mk (M4.out.below hb); have O5 := Aside0.mk (O4.out.below hb); have BL := Aside0.mk hbox; clear hb hbox hg)
      | ((with_reducible refine gate_builtin (b := .append) (xs := #[.tmp 58, .tmp 61]) rfl ?_); at_builtin; refine Kd.R_append_rows k34 (w0 := w5) w.heap.size rfl (.tmp 58) (.tmp 61) 46 34 (.agg #[(.int .i64 0), (.int .i64 0), (.bool false), (.int .i64 0), (.int .i64 0), (.int .i64 0), (.int .i64 0), (.int .i64 0), (.int .i64 0), (.int .i64 0), (.int .i64 0), (.int .i64 0)]) 96 rfl Try.underlying46 info34 rfl (by decide) (by omega) v9 P [y.f1] _ _ _ (fun _ => True) (fun _ => False) rfl rfl ?aO ?aR (fun _ _ h => h) (fun _ h => h.elim) ?aF ?aB ?aS ?aL ?_; (case aR => exact oneO_C (x := y.f1) BL.out); (case aB => exact Below.refl _ _); (case aF => exact (fun _ _ => trivial)); (case aO => exact O5.out.r9); (case aS => exact below_size M5.out.bl); (case aL => have := HPL.out; have := HXL.out; omega); intro v2 w6 ho hb hg hat; have M6 := Aside0.mk (M5.out.grown hg (fun k hk => ⟨Kd.R_base O5.out.r9 k hk, O5.out.o9 k hk⟩)); have O6 := Aside0.mk (O5.out.push9 ho hg hat M5.out.lt); clear ho hb hg hat))
     have HKT := Aside0.mk (HK.out.pushy HP.out)
     have HP2 := Aside0.mk (show P ++ [y.f1] = (Q) ++ (s.W ++ [y.f1]) from by rw [HPS.out, List.append_assoc])
     have HPL2 := Aside0.mk (show (P ++ [y.f1]).length ≤ 1000 by have := HPL.out; have := HXL.out; (try simp only [List.length_append, List.length_cons, List.length_nil] at *); omega)
     have HSL := Aside0.mk (show (Q).length ≤ 1000 by have h1 := congrArg List.length HP2.out; have := HPL2.out; (try simp only [List.length_append] at *); omega)
     have HWL := Aside0.mk (show (s.W ++ [y.f1]).length ≤ 1024 from HKT.out.2.1)
     go_wp2_with (first
         | ((with_reducible refine gate_dst (N := 94) rfl ?_); refine lit1_event ?hg (N := 94) ?hd (cs := #[]) (t := 34) (n := 0) ?hr ?_; (case hd => rfl); (case hg => rfl); (case hr => first | (go_simp; done) | (go_simp; rfl)); intro ge hge t1 hbox hb; have T1 := Aside0.mk hb; have HE1 := Aside0.mk (emptyO_R hbox (Nat.le_of_eq hge.symm)); obtain ⟨A10, n10, c10, ev10, en10⟩ := row_len O6.out.r10; subst ev10; have HN10 := Aside0.mk en10; clear hb hbox hge en10)
         | ((with_reducible refine gate_builtin (b := .append) (xs := #[.tmp 94, .tmp 95]) rfl ?_); at_builtin; refine Kd.R_append_rows k34 (w0 := w6) w6.heap.size rfl (.tmp 94) (.tmp 95) 46 34 (.agg #[(.int .i64 0), (.int .i64 0), (.bool false), (.int .i64 0), (.int .i64 0), (.int .i64 0), (.int .i64 0), (.int .i64 0), (.int .i64 0), (.int .i64 0), (.int .i64 0), (.int .i64 0)]) 96 rfl Try.underlying46 info34 rfl (by decide) (by omega) (.slice (some ⟨ge, 0, none⟩) 0 0) ([] : List S34) (Q) _ _ _ (fun _ => True) (fun _ => False) rfl rfl ?aO ?aR (fun _ _ h => h) (fun _ h => h.elim) ?aF ?aB ?aS ?aL ?_; (case aR => exact row_Cn (Kd.R_below O6.out.r10 T1.out)); (case aB => exact T1.out); (case aF => exact (fun _ _ => trivial)); (case aO => exact HE1.out); (case aS => exact below_size T1.out); (case aL => have := HSL.out; have := HN10.out; simp only [List.length_nil]; omega); intro v2 t2 ho hb hg hat; rw [List.nil_append] at ho; have T2 := Aside0.mk hb; have HE2 := Aside0.mk ho; clear ho hb hg hat)
         | (go_at_call 23; (with_reducible refine (wait_a (M6.out.below T2.out) HKT.out).mono ?_); rintro x_ t3 ⟨v3, rfl, hr, hb⟩; (try dsimp only at hr); obtain ⟨Aw, nw, cw, evw, enw⟩ := row_len hr; subst evw; have HNW := Aside0.mk enw; have HWR := Aside0.mk hr; have T3 := Aside0.mk (below_step T2.out hb); have HE3 := Aside0.mk (Kd.R_below HE2.out hb); clear hr hb enw)
         | ((with_reducible refine gate_builtin (b := .append) (xs := #[.tmp 96, .tmp 98]) rfl ?_); at_builtin; refine Kd.R_append_rows k34 (w0 := w6) w6.heap.size rfl (.tmp 96) (.tmp 98) 46 34 (.agg #[(.int .i64 0), (.int .i64 0), (.bool false), (.int .i64 0), (.int .i64 0), (.int .i64 0), (.int .i64 0), (.int .i64 0), (.int .i64 0), (.int .i64 0), (.int .i64 0), (.int .i64 0)]) 96 rfl Try.underlying46 info34 rfl (by decide) (by omega) v2 (Q) (s.W ++ [y.f1]) _ _ _ (fun _ => True) (fun _ => False) rfl rfl ?aO ?aR (fun _ _ h => h) (fun _ h => h.elim) ?aF ?aB ?aS ?aL ?_; (case aR => exact row_Cn HWR.out); (case aB => exact T3.out); (case aF => exact (fun _ _ => trivial)); (case aO => exact HE3.out); (case aS => exact below_size T3.out); (case aL => have := HSL.out; have := HNW.out; have := HWL.out; omega); intro v4 t4 ho hb hg hat; rw [← HP2.out] at ho; obtain ⟨A99, n99, c99, ev99, en99⟩ := row_len ho; subst ev99; have HN99 := Aside0.mk en99; have T4 := Aside0.mk hb; have HE4 := Aside0.mk ho; obtain ⟨A9, n9, c9, ev9, en9⟩ := row_len O6.out.r9; subst ev9; have HN9' := Aside0.mk en9; clear ho hb hg hat en99 en9)
         | (go_at_call 22; (with_reducible refine (same_O HE4.out (Kd.R_below O6.out.r9 T4.out) HN99.out HN9'.out HPL2.out).mono ?_); rintro x_ t5 ⟨rfl, hb⟩; have T5 := Aside0.mk (below_step T4.out hb); clear hb))
     go_roundg k1
     case measure => have := HI.out; omega
     case rel => exact ⟨x + 1, F4, R4, ⟨s.W ++ [y.f1], s.D, s.nx⟩, P ++ [y.f1], Q, _, _, by first | rfl | simp [hw], rfl, rfl, by first | rfl | rw [hnx], ⟨by have := H0.out; omega⟩, ⟨by have := HI.out; omega⟩, ⟨M6.out.below T5.out⟩, ⟨OkA.more HKT.out (by have := H0.out; omega)⟩, ⟨O6.out.below T5.out⟩, HP2, ⟨by have := HPL.out; have := H0.out; (try simp only [List.length_append, List.length_cons, List.length_nil] at *); omega⟩⟩
    ·have HP := Aside0.mk hp
     clear hp
     go_upto_region 27 with (go_at_call 11; (with_reducible refine (push_n S3.out y.f1 HP.out).mono ?_); rintro x_ w4 ⟨F4, R4, ee, rfl, hee, hn, hx⟩; have bee : (ee == 0) = false := beq_eq_false_iff_ne.mpr hee; have M4 := Aside0.mk hn; have O4 := Aside0.mk (O3.out.step hx S3.out.rf); clear hn hx hee)
     have HKT := Aside0.mk (HK.out)
     have HP2 := Aside0.mk (show P = (Q) ++ (s.W) from by exact HPS.out)
     have HPL2 := Aside0.mk (show (P).length ≤ 1000 by have := HPL.out; have := HXL.out; (try simp only [List.length_append, List.length_cons, List.length_nil] at *); omega)
     have HSL := Aside0.mk (show (Q).length ≤ 1000 by have h1 := congrArg List.length HP2.out; have := HPL2.out; (try simp only [List.length_append] at *); omega)
     have HWL := Aside0.mk (show (s.W).length ≤ 1024 from HKT.out.2.1)
     go_wp2_with (first
         | ((with_reducible refine gate_dst (N := 94) rfl ?_); refine lit1_event ?hg (N := 94) ?hd (cs := #[]) (t := 34) (n := 0) ?hr ?_; (case hd => rfl); (case hg => rfl); (case hr => first | (go_simp; done) | (go_simp; rfl)); intro ge hge t1 hbox hb; have T1 := Aside0.mk hb; have HE1 := Aside0.mk (emptyO_R hbox (Nat.le_of_eq hge.symm)); obtain ⟨A10, n10, c10, ev10, en10⟩ := row_len O4.out.r10; subst ev10; have HN10 := Aside0.mk en10; clear hb hbox hge en10)
         | ((with_reducible refine gate_builtin (b := .append) (xs := #[.tmp 94, .tmp 95]) rfl ?_); at_builtin; refine Kd.R_append_rows k34 (w0 := w4) w4.heap.size rfl (.tmp 94) (.tmp 95) 46 34 (.agg #[(.int .i64 0), (.int .i64 0), (.bool false), (.int .i64 0), (.int .i64 0), (.int .i64 0), (.int .i64 0), (.int .i64 0), (.int .i64 0), (.int .i64 0), (.int .i64 0), (.int .i64 0)]) 96 rfl Try.underlying46 info34 rfl (by decide) (by omega) (.slice (some ⟨ge, 0, none⟩) 0 0) ([] : List S34) (Q) _ _ _ (fun _ => True) (fun _ => False) rfl rfl ?aO ?aR (fun _ _ h => h) (fun _ h => h.elim) ?aF ?aB ?aS ?aL ?_; (case aR => exact row_Cn (Kd.R_below O4.out.r10 T1.out)); (case aB => exact T1.out); (case aF => exact (fun _ _ => trivial)); (case aO => exact HE1.out); (case aS => exact below_size T1.out); (case aL => have := HSL.out; have := HN10.out; simp only [List.length_nil]; omega); intro v2 t2 ho hb hg hat; rw [List.nil_append] at ho; have T2 := Aside0.mk hb; have HE2 := Aside0.mk ho; clear ho hb hg hat)
         | (go_at_call 23; (with_reducible refine (wait_a (M4.out.below T2.out) HKT.out).mono ?_); rintro x_ t3 ⟨v3, rfl, hr, hb⟩; (try dsimp only at hr); obtain ⟨Aw, nw, cw, evw, enw⟩ := row_len hr; subst evw; have HNW := Aside0.mk enw; have HWR := Aside0.mk hr; have T3 := Aside0.mk (below_step T2.out hb); have HE3 := Aside0.mk (Kd.R_below HE2.out hb); clear hr hb enw)
         | ((with_reducible refine gate_builtin (b := .append) (xs := #[.tmp 96, .tmp 98]) rfl ?_); at_builtin; refine Kd.R_append_rows k34 (w0 := w4) w4.heap.size rfl (.tmp 96) (.tmp 98) 46 34 (.agg #[(.int .i64 0), (.int .i64 0), (.bool false), (.int .i64 0), (.int .i64 0), (.int .i64 0), (.int .i64 0), (.int .i64 0), (.int .i64 0), (.int .i64 0), (.int .i64 0), (.int .i64 0)]) 96 rfl Try.underlying46 info34 rfl (by decide) (by omega) v2 (Q) (s.W) _ _ _ (fun _ => True) (fun _ => False) rfl rfl ?aO ?aR (fun _ _ h => h) (fun _ h => h.elim) ?aF ?aB ?aS ?aL ?_; (case aR => exact row_Cn HWR.out); (case aB => exact T3.out); (case aF => exact (fun _ _ => trivial)); (case aO => exact HE3.out); (case aS => exact below_size T3.out); (case aL => have := HSL.out; have := HNW.out; have := HWL.out; omega); intro v4 t4 ho hb hg hat; rw [← HP2.out] at ho; obtain ⟨A99, n99, c99, ev99, en99⟩ := row_len ho; subst ev99; have HN99 := Aside0.mk en99; have T4 := Aside0.mk hb; have HE4 := Aside0.mk ho; obtain ⟨A9, n9, c9, ev9, en9⟩ := row_len O4.out.r9; subst ev9; have HN9' := Aside0.mk en9; clear ho hb hg hat en99 en9)
         | (go_at_call 22; (with_reducible refine (same_O HE4.out (Kd.R_below O4.out.r9 T4.out) HN99.out HN9'.out HPL2.out).mono ?_); rintro x_ t5 ⟨rfl, hb⟩; have T5 := Aside0.mk (below_step T4.out hb); clear hb))
     go_roundg k1
     case measure => have := HI.out; omega
     case rel => exact ⟨x + 1, F4, R4, s, P, Q, _, _, by first | rfl | simp [hw], rfl, rfl, by first | rfl | rw [hnx], ⟨by have := H0.out; omega⟩, ⟨by have := HI.out; omega⟩, ⟨M4.out.below T5.out⟩, ⟨OkA.more HKT.out (by have := H0.out; omega)⟩, ⟨O4.out.below T5.out⟩, HP2, ⟨by have := HPL.out; have := H0.out; (try simp only [List.length_append, List.length_cons, List.length_nil] at *); omega⟩⟩
   have b0q : (y.f0 == 0) = false := beq_eq_false_iff_ne.mpr q0
   clear q0
   by_cases q1 : y.f0 = 1
   ·have b1q : (y.f0 == 1) = true := beq_iff_eq.mpr q1
    obtain ⟨X, hX⟩ : ∃ X, X = XA a0 s := ⟨_, rfl⟩
    obtain ⟨nX, hnX⟩ : ∃ nX, nX = X.length := ⟨_, rfl⟩
    have HXX := Aside0.mk hX
    have HNX := Aside0.mk hnX
    clear q1 hX hnX
    go_wp2_with (go_at_call 12; (with_reducible refine (send_x S3.out HK.out HN9.out HXX.out HNX.out).mono ?_); rintro x_ w4 ⟨A4, c4, F4, R4, rfl, hn, hx, hr⟩; have I4 := Aside0.mk (InO.mk hn (O3.out.step hx S3.out.rf) hr (fun k hk => .inl (O3.out.below_own k hk)) (Nat.le_refl _)); clear hn hx hr)
    go_loopg [10, 11, 15] nX (fun kq v10' v11 v15 wr => ∃ (j : Int) (v10 : Value) (Q2 : List S34) (nn : Int), v15 = .int .i64 j ∧ v10 = v10' ∧ v11 = .int .i64 nn ∧ Aside0 (0 ≤ j) ∧ Aside0 (j + kq = nX) ∧ Aside0 (InO w wr F4 R4 g a0 a1 (sendA a0 s) v9 v10 P Q2 wq.heap.size w4.heap.size A4 nX c4 X) ∧ Aside0 (Q2 = Q ++ (X.take j.toNat).flatMap (fun b => b.f1)) ∧ Aside0 (nn = nextL s.nx (X.take j.toNat)))
    case atStart => exact ⟨0, _, Q, s.nx, rfl, rfl, rfl, ⟨by omega⟩, ⟨by omega⟩, I4, ⟨by simp⟩, ⟨rfl⟩⟩
    case round =>
    clear I4
    obtain ⟨j, v10, Q2, nn, rfl, rfl, rfl, HJ0, HJI, II, HQ2, HNN⟩ := hrel
    cases gk with
    | zero =>
     have hnj : decide (j < (nX : Int)) = false := decide_eq_false (by have := HJI.out; omega)
     have HTK := Aside0.mk (show X.take j.toNat = X from List.take_of_length_le (by have := HJI.out; have := HNX.out; omega))
     have hnn : nn = (sendA a0 s).nx := by rw [HNN.out, HTK.out, HXX.out]; rfl
     subst hnn
     have MI := Aside0.mk II.out.sn
     have OI := Aside0.mk II.out.od
     have HKT := Aside0.mk (HK.out.send a0 HV.out.2.2.1)
     have HP2 := Aside0.mk (show P = (Q2) ++ ((sendA a0 s).W) from by rw [HQ2.out, HTK.out, List.append_assoc, HPS.out]; congr 1; rw [HXX.out]; exact (flat_take a0 s).symm)
     have HPL2 := Aside0.mk (show (P).length ≤ 1000 by have := HPL.out; have := HXL.out; (try simp only [List.length_append, List.length_cons, List.length_nil] at *); omega)
     have HSL := Aside0.mk (show (Q2).length ≤ 1000 by have h1 := congrArg List.length HP2.out; have := HPL2.out; (try simp only [List.length_append] at *); omega)
     have HWL := Aside0.mk (show ((sendA a0 s).W).length ≤ 1024 from HKT.out.2.1)
     go_wp2_with (first
         | ((with_reducible refine gate_dst (N := 94) rfl ?_); refine lit1_event ?hg (N := 94) ?hd (cs := #[]) (t := 34) (n := 0) ?hr ?_; (case hd => rfl); (case hg => rfl); (case hr => first | (go_simp; done) | (go_simp; rfl)); intro ge hge t1 hbox hb; have T1 := Aside0.mk hb; have HE1 := Aside0.mk (emptyO_R hbox (Nat.le_of_eq hge.symm)); obtain ⟨A10, n10, c10, ev10, en10⟩ := row_len OI.out.r10; subst ev10; have HN10 := Aside0.mk en10; clear hb hbox hge en10)
         | ((with_reducible refine gate_builtin (b := .append) (xs := #[.tmp 94, .tmp 95]) rfl ?_); at_builtin; refine Kd.R_append_rows k34 (w0 := wr) wr.heap.size rfl (.tmp 94) (.tmp 95) 46 34 (.agg #[(.int .i64 0), (.int .i64 0), (.bool false), (.int .i64 0), (.int .i64 0), (.int .i64 0), (.int .i64 0), (.int .i64 0), (.int .i64 0), (.int .i64 0), (.int .i64 0), (.int .i64 0)]) 96 rfl Try.underlying46 info34 rfl (by decide) (by omega) (.slice (some ⟨ge, 0, none⟩) 0 0) ([] : List S34) (Q2) _ _ _ (fun _ => True) (fun _ => False) rfl rfl ?aO ?aR (fun _ _ h => h) (fun _ h => h.elim) ?aF ?aB ?aS ?aL ?_; (case aR => exact row_Cn (Kd.R_below OI.out.r10 T1.out)); (case aB => exact T1.out); (case aF => exact (fun _ _ => trivial)); (case aO => exact HE1.out); (case aS => exact below_size T1.out); (case aL => have := HSL.out; have := HN10.out; simp only [List.length_nil]; omega); intro v2 t2 ho hb hg hat; rw [List.nil_append] at ho; have T2 := Aside0.mk hb; have HE2 := Aside0.mk ho; clear ho hb hg hat)
         | (go_at_call 23; (with_reducible refine (wait_a (MI.out.below T2.out) HKT.out).mono ?_); rintro x_ t3 ⟨v3, rfl, hr, hb⟩; (try dsimp only at hr); obtain ⟨Aw, nw, cw, evw, enw⟩ := row_len hr; subst evw; have HNW := Aside0.mk enw; have HWR := Aside0.mk hr; have T3 := Aside0.mk (below_step T2.out hb); have HE3 := Aside0.mk (Kd.R_below HE2.out hb); clear hr hb enw)
         | ((with_reducible refine gate_builtin (b := .append) (xs := #[.tmp 96, .tmp 98]) rfl ?_); at_builtin; refine Kd.R_append_rows k34 (w0 := wr) wr.heap.size rfl (.tmp 96) (.tmp 98) 46 34 (.agg #[(.int .i64 0), (.int .i64 0), (.bool false), (.int .i64 0), (.int .i64 0), (.int .i64 0), (.int .i64 0), (.int .i64 0), (.int .i64 0), (.int .i64 0), (.int .i64 0), (.int .i64 0)]) 96 rfl Try.underlying46 info34 rfl (by decide) (by omega) v2 (Q2) ((sendA a0 s).W) _ _ _ (fun _ => True) (fun _ => False) rfl rfl ?aO ?aR (fun _ _ h => h) (fun _ h => h.elim) ?aF ?aB ?aS ?aL ?_; (case aR => exact row_Cn HWR.out); (case aB => exact T3.out); (case aF => exact (fun _ _ => trivial)); (case aO => exact HE3.out); (case aS => exact below_size T3.out); (case aL => have := HSL.out; have := HNW.out; have := HWL.out; omega); intro v4 t4 ho hb hg hat; rw [← HP2.out] at ho; obtain ⟨A99, n99, c99, ev99, en99⟩ := row_len ho; subst ev99; have HN99 := Aside0.mk en99; have T4 := Aside0.mk hb; have HE4 := Aside0.mk ho; obtain ⟨A9, n9, c9, ev9, en9⟩ := row_len OI.out.r9; subst ev9; have HN9' := Aside0.mk en9; clear ho hb hg hat en99 en9)
         | (go_at_call 22; (with_reducible refine (same_O HE4.out (Kd.R_below OI.out.r9 T4.out) HN99.out HN9'.out HPL2.out).mono ?_); rintro x_ t5 ⟨rfl, hb⟩; have T5 := Aside0.mk (below_step T4.out hb); clear hb))
     go_roundg k1
     case measure => have := HI.out; omega
     case rel => exact ⟨x + 1, F4, R4, (sendA a0 s), P, Q2, _, _, by first | rfl | simp [hw], rfl, rfl, by first | rfl | rw [hnx], ⟨by have := H0.out; omega⟩, ⟨by have := HI.out; omega⟩, ⟨MI.out.below T5.out⟩, ⟨OkA.more HKT.out (by have := H0.out; omega)⟩, ⟨OI.out.below T5.out⟩, HP2, ⟨by have := HPL.out; have := H0.out; (try simp only [List.length_append, List.length_cons, List.length_nil] at *); omega⟩⟩
    | succ k2 =>
     have hltj := (show j < (nX : Int) by have := HJI.out; omega)
     have h0j := HJ0.out
     have hdj : decide (j < (nX : Int)) = true := decide_eq_true hltj
     have hwj : wrap64 (j + 1) = j + 1 := w64 (by omega) (by
      have h1 := XA_len (wn := a0) HK.out.1
      rw [← HXX.out] at h1
      have := HK.out.2.1
      have := HNX.out
      omega)
     have HJL := Aside0.mk (show j.toNat < X.length by have := HNX.out; omega)
     obtain ⟨adj, A1, c1, ej_, j0, j1, _, hC1⟩ := at_T48 (n := nX) (by rw [HNX.out]; exact (Kd.R_reads' II.out.row).2.2) j h0j hltj
     cases ej_
     obtain ⟨y2, hy2⟩ : ∃ y2, y2 = rd_T48 X j := ⟨_, rfl⟩
     have HY2 := Aside0.mk (show y2 = X[j.toNat]'(HJL.out) by rw [hy2]; unfold rd_T48; rw [List.getD_eq_getElem?_getD, List.getElem?_eq_getElem HJL.out]; rfl)
     rw [← hy2] at j0 j1 hC1
     obtain ⟨m1, hm1⟩ : ∃ m1, m1 = y2.f1.length := ⟨_, rfl⟩
     rw [← hm1] at j1 hC1
     have hnum : y2.f0 = nn := by
      rw [HY2.out, HNN.out]
      have hz := HXX.out
      subst hz
      exact XA_num a0 HK.out.2.2.2.2 j.toNat HJL.out
     rw [hnum] at j0
     have HJ1 := Aside0.mk j1
     have HJC := Aside0.mk hC1
     have HQL := Aside0.mk (show Q2.length ≤ 100000 ∧ m1 ≤ 100000 by
      have g1 := XA_gone a0 s
      rw [← HXX.out] at g1
      have g2 := len_gone X j.toNat HJL.out
      rw [← HY2.out, ← hm1] at g2
      have g3 := goneL_le X j.toNat
      rw [flat_sum] at g3
      have g4 := congrArg List.length HQ2.out
      rw [List.length_append] at g4
      have g5 := congrArg List.length HPS.out
      rw [List.length_append] at g5
      have := HPL.out
      have := HXL.out
      have := HK.out.2.1
      omega)
     have h0jt := eq_true h0j
     have hltjt := eq_true hltj
     have hM1 := Aside0.mk hm1
     clear hy2 hm1 hC1 hnum
     go_wp2_with (first
      | (go_at_call 24; (with_reducible refine (serial_Far.calls 3 nn nn 0 _ (far0 nn)).mono ?_); rintro x_ w7 ⟨rfl, hb⟩; have I7 := Aside0.mk (II.out.below hb); have HB7 := Aside0.mk hb; clear hb)
      | (go_at_call 25; (with_reducible refine (serial_Next.calls nn (nextN nn) _ (nxt_eq nn)).mono ?_); rintro x_ w8 ⟨rfl, hd⟩; have I8 := Aside0.mk (I7.out.below hd.below); have HB8 := Aside0.mk (below_step HB7.out hd.below); have jc := cell_below' HB8.out HJ1.out; clear hd)
      | ((with_reducible refine gate_builtin (b := .append) (xs := #[.tmp 83, .tmp 88]) rfl ?_); at_builtin; refine Kd.R_append_rows k34 (w0 := w8) w.heap.size rfl (.tmp 83) (.tmp 88) 46 34 (.agg #[(.int .i64 0), (.int .i64 0), (.bool false), (.int .i64 0), (.int .i64 0), (.int .i64 0), (.int .i64 0), (.int .i64 0), (.int .i64 0), (.int .i64 0), (.int .i64 0), (.int .i64 0)]) 96 rfl Try.underlying46 info34 rfl (by decide) (by omega) v10 Q2 y2.f1 _ _ _ (fun _ => True) (fun _ => False) rfl rfl ?aO ?aR (fun _ _ h => h) (fun _ h => h.elim) ?aF ?aB ?aS ?aL ?_; (case aR => exact Kd.C_below HJC.out HB8.out); (case aB => exact Below.refl _ _); (case aF => exact (fun _ _ => trivial)); (case aO => exact I8.out.od.r10); (case aS => exact below_size I8.out.sn.bl); (case aL => have := HQL.out; omega); intro v2 w10 ho hb hg hat; have I10 := Aside0.mk (I8.out.app ho hg hat); clear ho hb hg hat))
     go_roundg k2
     case measure => have := HJI.out; omega
     case rel =>
      have hjs : (j + 1).toNat = j.toNat + 1 := by omega
      refine ⟨j + 1, _, Q2 ++ y2.f1, nextN nn, by first | rfl | simp [hwj], rfl, rfl, ⟨by have := HJ0.out; omega⟩, ⟨by have := HJI.out; omega⟩, I10, ⟨?_⟩, ⟨?_⟩⟩
      ·rw [hjs, take_flat X j.toNat HJL.out, ← HY2.out, ← List.append_assoc, ← HQ2.out]
      ·rw [hjs, take_nextL j.toNat HJL.out, HNN.out]
       congr 1
       have hz := HXX.out
       subst hz
       exact (XA_num a0 HK.out.2.2.2.2 j.toNat HJL.out).symm
   have b1q : (y.f0 == 1) = false := beq_eq_false_iff_ne.mpr q1
   clear q1
   by_cases q2 : y.f0 = 2
   ·have b2q : (y.f0 == 2) = true := beq_iff_eq.mpr q2
    have hnx : (againA a1 s).nx = s.nx := again_nx a1 s
    clear q2
    go_upto_region 27 with (go_at_call 13; (with_reducible refine (again_a S3.out HK.out HN8.out HV.out.2.2.2).mono ?_); rintro x_ w4 ⟨v4, R4, rfl, hn, hx, _⟩; have M4 := Aside0.mk hn; have O4 := Aside0.mk (O3.out.step hx S3.out.rf); clear hn hx)
    have HKT := Aside0.mk (HK.out.again)
    have HP2 := Aside0.mk (show P = (Q) ++ ((againA a1 s).W) from by rw [again_W]; exact HPS.out)
    have HPL2 := Aside0.mk (show (P).length ≤ 1000 by have := HPL.out; have := HXL.out; (try simp only [List.length_append, List.length_cons, List.length_nil] at *); omega)
    have HSL := Aside0.mk (show (Q).length ≤ 1000 by have h1 := congrArg List.length HP2.out; have := HPL2.out; (try simp only [List.length_append] at *); omega)
    have HWL := Aside0.mk (show ((againA a1 s).W).length ≤ 1024 from HKT.out.2.1)
    go_wp2_with (first
        | ((with_reducible refine gate_dst (N := 94) rfl ?_); refine lit1_event ?hg (N := 94) ?hd (cs := #[]) (t := 34) (n := 0) ?hr ?_; (case hd => rfl); (case hg => rfl); (case hr => first | (go_simp; done) | (go_simp; rfl)); intro ge hge t1 hbox hb; have T1 := Aside0.mk hb; have HE1 := Aside0.mk (emptyO_R hbox (Nat.le_of_eq hge.symm)); obtain ⟨A10, n10, c10, ev10, en10⟩ := row_len O4.out.r10; subst ev10; have HN10 := Aside0.mk en10; clear hb hbox hge en10)
        | ((with_reducible refine gate_builtin (b := .append) (xs := #[.tmp 94, .tmp 95]) rfl ?_); at_builtin; refine Kd.R_append_rows k34 (w0 := w4) w4.heap.size rfl (.tmp 94) (.tmp 95) 46 34 (.agg #[(.int .i64 0), (.int .i64 0), (.bool false), (.int .i64 0), (.int .i64 0), (.int .i64 0), (.int .i64 0), (.int .i64 0), (.int .i64 0), (.int .i64 0), (.int .i64 0), (.int .i64 0)]) 96 rfl Try.underlying46 info34 rfl (by decide) (by omega) (.slice (some ⟨ge, 0, none⟩) 0 0) ([] : List S34) (Q) _ _ _ (fun _ => True) (fun _ => False) rfl rfl ?aO ?aR (fun _ _ h => h) (fun _ h => h.elim) ?aF ?aB ?aS ?aL ?_; (case aR => exact row_Cn (Kd.R_below O4.out.r10 T1.out)); (case aB => exact T1.out); (case aF => exact (fun _ _ => trivial)); (case aO => exact HE1.out); (case aS => exact below_size T1.out); (case aL => have := HSL.out; have := HN10.out; simp only [List.length_nil]; omega); intro v2 t2 ho hb hg hat; rw [List.nil_append] at ho; have T2 := Aside0.mk hb; have HE2 := Aside0.mk ho; clear ho hb hg hat)
        | (go_at_call 23; (with_reducible refine (wait_a (M4.out.below T2.out) HKT.out).mono ?_); rintro x_ t3 ⟨v3, rfl, hr, hb⟩; (try dsimp only at hr); obtain ⟨Aw, nw, cw, evw, enw⟩ := row_len hr; subst evw; have HNW := Aside0.mk enw; have HWR := Aside0.mk hr; have T3 := Aside0.mk (below_step T2.out hb); have HE3 := Aside0.mk (Kd.R_below HE2.out hb); clear hr hb enw)
        | ((with_reducible refine gate_builtin (b := .append) (xs := #[.tmp 96, .tmp 98]) rfl ?_); at_builtin; refine Kd.R_append_rows k34 (w0 := w4) w4.heap.size rfl (.tmp 96) (.tmp 98) 46 34 (.agg #[(.int .i64 0), (.int .i64 0), (.bool false), (.int .i64 0), (.int .i64 0), (.int .i64 0), (.int .i64 0), (.int .i64 0), (.int .i64 0), (.int .i64 0), (.int .i64 0), (.int .i64 0)]) 96 rfl Try.underlying46 info34 rfl (by decide) (by omega) v2 (Q) ((againA a1 s).W) _ _ _ (fun _ => True) (fun _ => False) rfl rfl ?aO ?aR (fun _ _ h => h) (fun _ h => h.elim) ?aF ?aB ?aS ?aL ?_; (case aR => exact row_Cn HWR.out); (case aB => exact T3.out); (case aF => exact (fun _ _ => trivial)); (case aO => exact HE3.out); (case aS => exact below_size T3.out); (case aL => have := HSL.out; have := HNW.out; have := HWL.out; omega); intro v4 t4 ho hb hg hat; rw [← HP2.out] at ho; obtain ⟨A99, n99, c99, ev99, en99⟩ := row_len ho; subst ev99; have HN99 := Aside0.mk en99; have T4 := Aside0.mk hb; have HE4 := Aside0.mk ho; obtain ⟨A9, n9, c9, ev9, en9⟩ := row_len O4.out.r9; subst ev9; have HN9' := Aside0.mk en9; clear ho hb hg hat en99 en9)
        | (go_at_call 22; (with_reducible refine (same_O HE4.out (Kd.R_below O4.out.r9 T4.out) HN99.out HN9'.out HPL2.out).mono ?_); rintro x_ t5 ⟨rfl, hb⟩; have T5 := Aside0.mk (below_step T4.out hb); clear hb))
    go_roundg k1
    case measure => have := HI.out; omega
    case rel => exact ⟨x + 1, F, R4, (againA a1 s), P, Q, _, _, by first | rfl | simp [hw], rfl, rfl, by first | rfl | rw [hnx], ⟨by have := H0.out; omega⟩, ⟨by have := HI.out; omega⟩, ⟨M4.out.below T5.out⟩, ⟨OkA.more HKT.out (by have := H0.out; omega)⟩, ⟨O4.out.below T5.out⟩, HP2, ⟨by have := HPL.out; have := H0.out; (try simp only [List.length_append, List.length_cons, List.length_nil] at *); omega⟩⟩
   have b2q : (y.f0 == 2) = false := beq_eq_false_iff_ne.mpr q2
   have hnx : (gotA y.f2 s).nx = s.nx := got_nx y.f2 s
   clear q2
   go_upto_region 27 with (go_at_call 14; (with_reducible refine (got_a S3.out HK.out HN8.out y.f2).mono ?_); rintro x_ w4 ⟨R4, rfl, hn, hx⟩; have M4 := Aside0.mk hn; have O4 := Aside0.mk (O3.out.step hx S3.out.rf); clear hn hx)
   have HKT := Aside0.mk (HK.out.got y.f2)
   have HP2 := Aside0.mk (show P = (Q) ++ ((gotA y.f2 s).W) from by rw [got_W]; exact HPS.out)
   have HPL2 := Aside0.mk (show (P).length ≤ 1000 by have := HPL.out; have := HXL.out; (try simp only [List.length_append, List.length_cons, List.length_nil] at *); omega)
   have HSL := Aside0.mk (show (Q).length ≤ 1000 by have h1 := congrArg List.length HP2.out; have := HPL2.out; (try simp only [List.length_append] at *); omega)
   have HWL := Aside0.mk (show ((gotA y.f2 s).W).length ≤ 1024 from HKT.out.2.1)
   go_wp2_with (first
       | ((with_reducible refine gate_dst (N := 94) rfl ?_); refine lit1_event ?hg (N := 94) ?hd (cs := #[]) (t := 34) (n := 0) ?hr ?_; (case hd => rfl); (case hg => rfl); (case hr => first | (go_simp; done) | (go_simp; rfl)); intro ge hge t1 hbox hb; have T1 := Aside0.mk hb; have HE1 := Aside0.mk (emptyO_R hbox (Nat.le_of_eq hge.symm)); obtain ⟨A10, n10, c10, ev10, en10⟩ := row_len O4.out.r10; subst ev10; have HN10 := Aside0.mk en10; clear hb hbox hge en10)
       | ((with_reducible refine gate_builtin (b := .append) (xs := #[.tmp 94, .tmp 95]) rfl ?_); at_builtin; refine Kd.R_append_rows k34 (w0 := w4) w4.heap.size rfl (.tmp 94) (.tmp 95) 46 34 (.agg #[(.int .i64 0), (.int .i64 0), (.bool false), (.int .i64 0), (.int .i64 0), (.int .i64 0), (.int .i64 0), (.int .i64 0), (.int .i64 0), (.int .i64 0), (.int .i64 0), (.int .i64 0)]) 96 rfl Try.underlying46 info34 rfl (by decide) (by omega) (.slice (some ⟨ge, 0, none⟩) 0 0) ([] : List S34) (Q) _ _ _ (fun _ => True) (fun _ => False) rfl rfl ?aO ?aR (fun _ _ h => h) (fun _ h => h.elim) ?aF ?aB ?aS ?aL ?_; (case aR => exact row_Cn (Kd.R_below O4.out.r10 T1.out)); (case aB => exact T1.out); (case aF => exact (fun _ _ => trivial)); (case aO => exact HE1.out); (case aS => exact below_size T1.out); (case aL => have := HSL.out; have := HN10.out; simp only [List.length_nil]; omega); intro v2 t2 ho hb hg hat; rw [List.nil_append] at ho; have T2 := Aside0.mk hb; have HE2 := Aside0.mk ho; clear ho hb hg hat)
       | (go_at_call 23; (with_reducible refine (wait_a (M4.out.below T2.out) HKT.out).mono ?_); rintro x_ t3 ⟨v3, rfl, hr, hb⟩; (try dsimp only at hr); obtain ⟨Aw, nw, cw, evw, enw⟩ := row_len hr; subst evw; have HNW := Aside0.mk enw; have HWR := Aside0.mk hr; have T3 := Aside0.mk (below_step T2.out hb); have HE3 := Aside0.mk (Kd.R_below HE2.out hb); clear hr hb enw)
       | ((with_reducible refine gate_builtin (b := .append) (xs := #[.tmp 96, .tmp 98]) rfl ?_); at_builtin; refine Kd.R_append_rows k34 (w0 := w4) w4.heap.size rfl (.tmp 96) (.tmp 98) 46 34 (.agg #[(.int .i64 0), (.int .i64 0), (.bool false), (.int .i64 0), (.int .i64 0), (.int .i64 0), (.int .i64 0), (.int .i64 0), (.int .i64 0), (.int .i64 0), (.int .i64 0), (.int .i64 0)]) 96 rfl Try.underlying46 info34 rfl (by decide) (by omega) v2 (Q) ((gotA y.f2 s).W) _ _ _ (fun _ => True) (fun _ => False) rfl rfl ?aO ?aR (fun _ _ h => h) (fun _ h => h.elim) ?aF ?aB ?aS ?aL ?_; (case aR => exact row_Cn HWR.out); (case aB => exact T3.out); (case aF => exact (fun _ _ => trivial)); (case aO => exact HE3.out); (case aS => exact below_size T3.out); (case aL => have := HSL.out; have := HNW.out; have := HWL.out; omega); intro v4 t4 ho hb hg hat; rw [← HP2.out] at ho; obtain ⟨A99, n99, c99, ev99, en99⟩ := row_len ho; subst ev99; have HN99 := Aside0.mk en99; have T4 := Aside0.mk hb; have HE4 := Aside0.mk ho; obtain ⟨A9, n9, c9, ev9, en9⟩ := row_len O4.out.r9; subst ev9; have HN9' := Aside0.mk en9; clear ho hb hg hat en99 en9)
       | (go_at_call 22; (with_reducible refine (same_O HE4.out (Kd.R_below O4.out.r9 T4.out) HN99.out HN9'.out HPL2.out).mono ?_); rintro x_ t5 ⟨rfl, hb⟩; have T5 := Aside0.mk (below_step T4.out hb); clear hb))
   go_roundg k1
   case measure => have := HI.out; omega
   case rel => exact ⟨x + 1, F, R4, (gotA y.f2 s), P, Q, _, _, by first | rfl | simp [hw], rfl, rfl, by first | rfl | rw [hnx], ⟨by have := H0.out; omega⟩, ⟨by have := HI.out; omega⟩, ⟨M4.out.below T5.out⟩, ⟨OkA.more HKT.out (by have := H0.out; omega)⟩, ⟨O4.out.below T5.out⟩, HP2, ⟨by have := HPL.out; have := H0.out; (try simp only [List.length_append, List.length_cons, List.length_nil] at *); omega⟩⟩
theorem thalweglaw14_SenderOrder.calls (a0 a1 : Int) (A2 : Option Addr) (c2 : Nat) (l2 : List S38) (r : Bool) (w : World) (hr2 : Kd.C k38 w A2 l2.length l2) (hc2 : l2.length ≤ c2) (h : thalweglaw14_SenderOrder.f a0 a1 l2 = some r) :
  Calls Try.prog 6 #[.int .i64 a0, .int .i64 a1, .slice A2 l2.length c2] w fun e w' => e = .returned (.bool r) ∧ Below w.heap.size w w' := by
 have hr : true = r := Option.some.inj h
 subst hr
 by_cases hv : 1 ≤ a0 ∧ a0 ≤ 16 ∧ 1 ≤ a1 ∧ a1 ≤ 100
 ·by_cases hl : (l2.length : Int) > 100
  ·exact order_long a0 a1 A2 c2 _ w hv hl
  ·exact order_ok a0 a1 A2 c2 _ l2 w hr2 hv hl
 ·exact order_no a0 a1 A2 c2 _ w hv
end Go.Proofs.Ytclbempnhelmoaa.P
namespace Go.Proofs.Ytclbempnhelmoaa.P
open Go.RowKit YtclbempnhelmoaaW.PrintWords
def thalweglaw14_SenderOrder.Pure : Prop := ∀ (a0 : Int) (a1 : Int) (l2 : List S38), (Lit.int .i64 a0).wf = true → (Lit.int .i64 a1).wf = true → (l2.length ≤ maxLen ∧ ∀ x0_ ∈ l2, ((Lit.int .i64 x0_.f0).wf = true ∧ ((Lit.int .i64 x0_.f1.f0).wf = true ∧ (Lit.int .i64 x0_.f1.f1).wf = true ∧ (True ∧ (Lit.int .i64 x0_.f1.f2.f1).wf = true ∧ (Lit.int .i64 x0_.f1.f2.f2).wf = true ∧ (Lit.int .i64 x0_.f1.f2.f3).wf = true ∧ (Lit.int .i64 x0_.f1.f2.f4).wf = true ∧ (Lit.int .i64 x0_.f1.f2.f5).wf = true) ∧ ((Lit.int .i64 x0_.f1.f3.f0).wf = true ∧ (Lit.int .i64 x0_.f1.f3.f1).wf = true ∧ (Lit.int .i64 x0_.f1.f3.f2).wf = true) ∧ (Lit.int .i64 x0_.f1.f4).wf = true) ∧ ((Lit.int .i64 x0_.f2.f0).wf = true ∧ (Lit.int .i64 x0_.f2.f1).wf = true ∧ (Lit.int .i64 x0_.f2.f2).wf = true ∧ (Lit.int .i64 x0_.f2.f3).wf = true))) → thalweglaw14_SenderOrder.f a0 a1 l2 = some true
end Go.Proofs.Ytclbempnhelmoaa.P
namespace Go.Proofs.Ytclbempnhelmoaa.Pure
open Go.RowKit Go.Proofs.Ytclbempnhelmoaa.P
theorem SenderOrder : thalweglaw14_SenderOrder.Pure := by
 unfold thalweglaw14_SenderOrder.Pure
 intros
 rfl
end Go.Proofs.Ytclbempnhelmoaa.Pure
namespace Go.Proofs.YtclbempnhelmoaaW.Opn
open Go.RowKit YtclbempnhelmoaaW.PrintWords Go.ChangeShapes Go.WideShapes Go.Deep
def Opens (P : Program) (t : TypeId) {α : Type} (d : Kd α) (wf : α → Prop) : Prop :=
 ∀ {H : Type} (enc : TypeId × Value → H) (w : World) (base : Nat) (spare : Nat → Bool) (held : Bool) (fuel : Nat) (cs : List Value) (y : DataW H × List MemPlace),
  DataW.trod enc P w base spare held fuel t cs = some y → ∃ x : α, d.K w x cs ∧ wf x
theorem opens_int {P : Program} {t : TypeId} {k : IntKind} (ht : P.underlying t = some (.int k)) : Opens P t (Kd.int k) (fun x => (Lit.int k x).wf = true) := by
 intro H enc w base spare held fuel cs y h
 obtain ⟨n, rfl, _, hw⟩ := DataW.trod_int ht h
 exact ⟨n, rfl, hw⟩
theorem opens_bool {P : Program} {t : TypeId} (ht : P.underlying t = some .bool) : Opens P t Kd.bool (fun _ => True) := by
 intro H enc w base spare held fuel cs y h
 obtain ⟨n, rfl, _⟩ := DataW.trod_bool ht h
 exact ⟨n, rfl, trivial⟩
theorem opens_iso {P : Program} {t : TypeId} {α β : Type} {d : Kd α} {wf : α → Prop} (f : β → α) (g : α → β) (hg : ∀ a, f (g a) = a) (h : Opens P t d wf) : Opens P t (Kd.iso d f) (fun b => wf (f b)) := by
 intro H enc w base spare held fuel cs y hy
 obtain ⟨x, hx, hw⟩ := h enc w base spare held fuel cs y hy
 exact ⟨g x, by show d.K w (f (g x)) cs; rw [hg]; exact hx, by show wf (f (g x)); rw [hg]; exact hw⟩
def OpensL (P : Program) : (ts : List TypeId) → {α : Type} → (d : Kd α) → (wf : α → Prop) → Prop := fun ts {α} d wf =>
 ∀ {H : Type} (enc : TypeId × Value → H) (w : World) (base : Nat) (spare : Nat → Bool) (held : Bool) (n : Nat) (cs : List Value) (xs : List (DataW H × List MemPlace)) (off : Nat),
  (∀ (i : Nat) (t : TypeId), ts[i]? = some t → ∃ y, DataW.trod enc P w base spare held n t ((cs.drop (off + ((ts.take i).map P.cellsOf).sum)).take (P.cellsOf t)) = some y) →
  ∃ x : α, d.K w x ((cs.drop off).take ((ts.map P.cellsOf).sum)) ∧ wf x
theorem opensL_one {P : Program} {t : TypeId} {α : Type} {d : Kd α} {wf : α → Prop} (h : Opens P t d wf) : OpensL P [t] d wf := by
 intro H enc w base spare held n cs xs off hx
 obtain ⟨y, hy⟩ := hx 0 t rfl
 simpa using h enc w base spare held n _ y (by simpa using hy)
theorem opensL_cons {P : Program} {t : TypeId} {ts : List TypeId} {α β : Type} {d : Kd α} {d' : Kd β} {wf : α → Prop} {wf' : β → Prop} (h : Opens P t d wf) (h' : OpensL P ts d' wf') :
  OpensL P (t :: ts) (Kd.pair d d') (fun x => wf x.1 ∧ wf' x.2) := by
 intro H enc w base spare held n cs xs off hx
 obtain ⟨y, hy⟩ := hx 0 t rfl
 obtain ⟨x, hk, hw⟩ := h enc w base spare held n _ y (by simpa using hy)
 obtain ⟨x', hk', hw'⟩ := h' enc w base spare held n cs xs (off + P.cellsOf t) (fun i u hu => by
  have := hx (i + 1) u hu
  simpa [Nat.add_assoc] using this)
 refine ⟨(x, x'), ⟨(cs.drop off).take (P.cellsOf t), (cs.drop (off + P.cellsOf t)).take ((ts.map P.cellsOf).sum), ?_, hk, hk'⟩, hw, hw'⟩
 simp only [List.map_cons, List.sum_cons]
 rw [List.take_add, List.drop_drop]
def lineB (P : Program) : List Field → Nat → Bool
 | [], _ => true
 | f :: fs, off => (f.offset == off) && lineB P fs (off + P.cellsOf f.type)
theorem line_at {P : Program} : ∀ (fs : List Field) (off : Nat), lineB P fs off = true → ∀ (i : Nat) (f : Field), fs[i]? = some f → f.offset = off + (((fs.map (·.type)).take i).map P.cellsOf).sum := by
 intro fs
 induction fs with
 | nil => intro off _ i f h; simp at h
 | cons g gs ih =>
  intro off hb i f h
  unfold lineB at hb
  rw [Bool.and_eq_true, beq_iff_eq] at hb
  cases i with
  | zero =>
   simp at h
   subst h
   simpa using hb.1
  | succ i =>
   have := ih _ hb.2 i f (by simpa using h)
   simp only [List.map_cons, List.take_succ_cons, List.sum_cons]
   omega
theorem opens_struct {P : Program} {t : TypeId} {fs : Array Field} {α : Type} {d : Kd α} {wf : α → Prop} (ht : P.underlying t = some (.struct fs)) (hl : lineB P fs.toList 0 = true) (hc : P.cellsOf t = ((fs.toList.map (·.type)).map P.cellsOf).sum)
  (h : OpensL P (fs.toList.map (·.type)) d wf) : Opens P t d wf := by
 intro H enc w base spare held fuel cs y hy
 obtain ⟨xs, n, _, _, hlen, hxl, hf⟩ := DataW.trod_struct ht hy
 obtain ⟨x, hk, hw⟩ := h enc w base spare held n cs xs 0 (fun i u hu => by
  rw [List.getElem?_map, Option.map_eq_some_iff] at hu
  obtain ⟨f, hf0, rfl⟩ := hu
  have hi : i < fs.size := by
   have := (List.getElem?_eq_some_iff.1 hf0).1
   simpa using this
  have h1 := hf i f (by rw [← Array.getElem?_toList]; exact hf0)
  rw [line_at _ 0 hl i f hf0] at h1
  exact ⟨_, h1.trans (List.getElem?_eq_getElem (by omega))⟩)
 rw [← hc, List.drop_zero, ← hlen, List.take_length] at hk
 exact ⟨x, hk, hw⟩
theorem reads_build {P : Program} {e : TypeId} {α : Type} {d : Kd α} {wf : α → Prop} (hs : P.cellsOf e = d.sz) (w : World) (ad : Addr) : ∀ (len : Nat), (∀ i, i < len → ∃ (x : α) (c : List Value), c.length = d.sz ∧ d.K w x c ∧ wf x ∧ ∀ j u, c[j]? = some u → w.cell? (ad.add (i * d.sz + j)) = some u) →
  ∃ xs : List α, xs.length = len ∧ (∀ x ∈ xs, wf x) ∧ ∀ j p, xs[j]? = some p → ∃ c, c.length = d.sz ∧ d.K w p c ∧ ∀ i u, c[i]? = some u → w.cell? (ad.add (j * d.sz + i)) = some u := by
 intro len
 induction len with
 | zero => intro _; exact ⟨[], rfl, by simp, by simp⟩
 | succ n ih =>
  intro h
  obtain ⟨xs, hl, hw, hx⟩ := ih (fun i hi => h i (by omega))
  obtain ⟨x, c, hc, hk, hwx, hcell⟩ := h n (by omega)
  refine ⟨xs ++ [x], by simp [hl], ?_, ?_⟩
  ·intro y hy
   rcases List.mem_append.1 hy with hy | hy
   ·exact hw y hy
   ·rw [List.mem_singleton.1 hy]; exact hwx
  ·intro j p hj
   rcases Nat.lt_or_ge j xs.length with hjl | hjl
   ·rw [List.getElem?_append_left hjl] at hj
    exact hx j p hj
   ·have : j = xs.length := by
     have := (List.getElem?_eq_some_iff.1 hj).1
     simp at this
     omega
    subst this
    have hp : x = p := by simpa using hj
    subst hp
    exact ⟨c, hc, hk, by rw [hl]; exact hcell⟩
theorem opens_slice {P : Program} {t e : TypeId} {α : Type} {d : Kd α} {wf : α → Prop} (ht : P.underlying t = some (.slice e)) (hs : P.cellsOf e = d.sz) (h : Opens P e d wf) : Opens P t (Kd.slice e d) (fun l => l.length ≤ maxLen ∧ ∀ x ∈ l, wf x) := by
 intro H enc w base spare held fuel cs y hy
 rcases open_slice ht hy with ⟨rfl, _⟩ | ⟨a, len, cap, m, n, D, Pl, rfl, hb, hl, hm, hmm, hx, hi⟩
 ·exact ⟨[], ⟨none, 0, rfl, Nat.le_refl _, rfl, by simp, by simp⟩, by simp, by simp⟩
 ·have hle : len ≤ m := by rw [hmm]; split <;> omega
  obtain ⟨xs, hxl, hwf, hxs⟩ := reads_build (P := P) (e := e) (d := d) (wf := wf) hs w a len (fun i hlt => by
   obtain ⟨cs', hc, ht'⟩ := hi i (by omega)
   obtain ⟨_, hcl, hat⟩ := World.cells?_some hc
   obtain ⟨x, hk, hwx⟩ := h enc w base spare held n cs' _ ht'
   refine ⟨x, cs', by omega, hk, hwx, fun j u hj => ?_⟩
   have hjl := (List.getElem?_eq_some_iff.1 hj).1
   have := hat j (by omega)
   rw [← Go.Deep.add_add, ← hs, this, hj])
  have hm' : len ≤ maxLen := by omega
  subst hxl
  have hm2 : xs.length ≤ 9223372036854775807 := by unfold maxLen at hm'; omega
  exact ⟨xs, ⟨some a, cap, rfl, hl, rfl, hm2, fun _ => ⟨a, rfl, hxs⟩⟩, hm', hwf⟩
end Go.Proofs.YtclbempnhelmoaaW.Opn
namespace Go.Proofs.Ytclbempnhelmoaa.senderOrder
open Go.ChangeShapes Go.WideShapes Go.ChangeAt Go.RowKit Go.Proofs.YtclbempnhelmoaaW YtclbempnhelmoaaW.PrintWords Go.Proofs.Ytclbempnhelmoaa.P
open Go.ChangeMaps (open_string shut_string)
theorem own : ownKnob Try.prog.godebug = none := by kernel_rfl
theorem laidOut : laidOutB Try.prog = true := by kernel_rfl
theorem opn30 : Opn.Opens Try.prog 30 k30 (fun x => (True ∧ (Lit.int .i64 x.f1).wf = true ∧ (Lit.int .i64 x.f2).wf = true ∧ (Lit.int .i64 x.f3).wf = true ∧ (Lit.int .i64 x.f4).wf = true ∧ (Lit.int .i64 x.f5).wf = true)) :=
 Opn.opens_iso (fun x : S30 => (x.f0, x.f1, x.f2, x.f3, x.f4, x.f5)) (fun a => ⟨a.1, a.2.1, a.2.2.1, a.2.2.2.1, a.2.2.2.2.1, a.2.2.2.2.2⟩) (fun _ => rfl) (Opn.opens_struct Try.underlying30 (by kernel_rfl) (by kernel_rfl) (Opn.opensL_cons (Opn.opens_bool Try.underlying4) (Opn.opensL_cons (Opn.opens_int Try.underlying3) (Opn.opensL_cons (Opn.opens_int Try.underlying3) (Opn.opensL_cons (Opn.opens_int Try.underlying3) (Opn.opensL_cons (Opn.opens_int Try.underlying3) (Opn.opensL_one (Opn.opens_int Try.underlying3))))))))
theorem opn32 : Opn.Opens Try.prog 32 k32 (fun x => ((Lit.int .i64 x.f0).wf = true ∧ (Lit.int .i64 x.f1).wf = true ∧ (Lit.int .i64 x.f2).wf = true)) :=
 Opn.opens_iso (fun x : S32 => (x.f0, x.f1, x.f2)) (fun a => ⟨a.1, a.2.1, a.2.2⟩) (fun _ => rfl) (Opn.opens_struct Try.underlying32 (by kernel_rfl) (by kernel_rfl) (Opn.opensL_cons (Opn.opens_int Try.underlying3) (Opn.opensL_cons (Opn.opens_int Try.underlying3) (Opn.opensL_one (Opn.opens_int Try.underlying3)))))
theorem opn34 : Opn.Opens Try.prog 34 k34 (fun x => ((Lit.int .i64 x.f0).wf = true ∧ (Lit.int .i64 x.f1).wf = true ∧ (True ∧ (Lit.int .i64 x.f2.f1).wf = true ∧ (Lit.int .i64 x.f2.f2).wf = true ∧ (Lit.int .i64 x.f2.f3).wf = true ∧ (Lit.int .i64 x.f2.f4).wf = true ∧ (Lit.int .i64 x.f2.f5).wf = true) ∧ ((Lit.int .i64 x.f3.f0).wf = true ∧ (Lit.int .i64 x.f3.f1).wf = true ∧ (Lit.int .i64 x.f3.f2).wf = true) ∧ (Lit.int .i64 x.f4).wf = true)) :=
 Opn.opens_iso (fun x : S34 => (x.f0, x.f1, x.f2, x.f3, x.f4)) (fun a => ⟨a.1, a.2.1, a.2.2.1, a.2.2.2.1, a.2.2.2.2⟩) (fun _ => rfl) (Opn.opens_struct Try.underlying34 (by kernel_rfl) (by kernel_rfl) (Opn.opensL_cons (Opn.opens_int Try.underlying3) (Opn.opensL_cons (Opn.opens_int Try.underlying3) (Opn.opensL_cons opn30 (Opn.opensL_cons opn32 (Opn.opensL_one (Opn.opens_int Try.underlying3)))))))
theorem opn36 : Opn.Opens Try.prog 36 k36 (fun x => ((Lit.int .i64 x.f0).wf = true ∧ (Lit.int .i64 x.f1).wf = true ∧ (Lit.int .i64 x.f2).wf = true ∧ (Lit.int .i64 x.f3).wf = true)) :=
 Opn.opens_iso (fun x : S36 => (x.f0, x.f1, x.f2, x.f3)) (fun a => ⟨a.1, a.2.1, a.2.2.1, a.2.2.2⟩) (fun _ => rfl) (Opn.opens_struct Try.underlying36 (by kernel_rfl) (by kernel_rfl) (Opn.opensL_cons (Opn.opens_int Try.underlying3) (Opn.opensL_cons (Opn.opens_int Try.underlying3) (Opn.opensL_cons (Opn.opens_int Try.underlying3) (Opn.opensL_one (Opn.opens_int Try.underlying3))))))
theorem opn38 : Opn.Opens Try.prog 38 k38 (fun x => ((Lit.int .i64 x.f0).wf = true ∧ ((Lit.int .i64 x.f1.f0).wf = true ∧ (Lit.int .i64 x.f1.f1).wf = true ∧ (True ∧ (Lit.int .i64 x.f1.f2.f1).wf = true ∧ (Lit.int .i64 x.f1.f2.f2).wf = true ∧ (Lit.int .i64 x.f1.f2.f3).wf = true ∧ (Lit.int .i64 x.f1.f2.f4).wf = true ∧ (Lit.int .i64 x.f1.f2.f5).wf = true) ∧ ((Lit.int .i64 x.f1.f3.f0).wf = true ∧ (Lit.int .i64 x.f1.f3.f1).wf = true ∧ (Lit.int .i64 x.f1.f3.f2).wf = true) ∧ (Lit.int .i64 x.f1.f4).wf = true) ∧ ((Lit.int .i64 x.f2.f0).wf = true ∧ (Lit.int .i64 x.f2.f1).wf = true ∧ (Lit.int .i64 x.f2.f2).wf = true ∧ (Lit.int .i64 x.f2.f3).wf = true))) :=
 Opn.opens_iso (fun x : S38 => (x.f0, x.f1, x.f2)) (fun a => ⟨a.1, a.2.1, a.2.2⟩) (fun _ => rfl) (Opn.opens_struct Try.underlying38 (by kernel_rfl) (by kernel_rfl) (Opn.opensL_cons (Opn.opens_int Try.underlying3) (Opn.opensL_cons opn34 (Opn.opensL_one opn36))))
theorem lifted (os : Os) (started : os.Started) (H : Type) (enc : TypeId × Value → H) :
  ReturnsInHanded {} Try.checked os 6 .any (Rows.senderOrderSpec.pre6 enc Try.prog Try.f6 Rows.senderOrderRow.domain false) (Rows.senderOrderSpec.post enc Try.prog Try.f6 false true false false) := by
 refine returnsInHanded_of_change_sized (C := Try.checked) own started (by kernel_rfl) Try.func6
  (ChangeSpec.witness6 (enc := enc) (C := Try.checked) false ⟨#[], #[.int .i64 0, .int .i64 0, .slice none 0 0], []⟩ 8 (by kernel_rfl) (by kernel_rfl) (by kernel_rfl) (by kernel_rfl)) ?_
 intro W base args ds gs before hval0 hW hcnd hsz0 _
 have hval : ∀ (j : Nat) t v, Try.f6.params[j]? = some t → args[j]? = some v → Value.okWide Try.prog W .any base t v := hval0
 have hW' := hW
 obtain ⟨p, q, hA0, hV, rfl, hfz, hnd⟩ := hW
 have hA : DataW.TrodAll enc Try.prog W 0 (fun _ => true) true Try.f6.params.toList args.toList ds p := hA0
 rw [Try.params6] at hA hval
 obtain ⟨v0, vs0, d0, ds0, p0, q0, hargs, rfl, rfl, h0, r0⟩ := trodAll_cons hA
 obtain ⟨v1, vs1, d1, ds1, p1, q1, rfl, rfl, rfl, h1, r1⟩ := trodAll_cons r0
 obtain ⟨v2, vs2, d2, ds2, p2, q2, rfl, rfl, rfl, h2, r2⟩ := trodAll_cons r1
 obtain ⟨rfl, rfl, rfl⟩ := trodAll_nil r2
 obtain rfl : args = #[v0, v1, v2] := by cases args; simp_all
 obtain ⟨rfl, rfl⟩ := trodVars_none hV
 obtain ⟨a0, rfl, rfl, rfl, w0⟩ := open_int Try.underlying3 (hval 0 3 v0 rfl rfl) h0
 obtain ⟨a1, rfl, rfl, rfl, w1⟩ := open_int Try.underlying3 (hval 1 3 v1 rfl rfl) h1
 have k2 := h2
 have lt2 : ∀ x ∈ p2, x.block < W.heap.size := by obtain ⟨m, hm⟩ := k2; exact DataW.trod_lt m _ _ _ hm
 obtain ⟨a2, len2, cap2, rfl⟩ := okWide_slice Try.underlying22 (hval 2 22 v2 rfl rfl)
 obtain ⟨l2, K2, W2⟩ : ∃ l : List S38, (Kd.slice 38 k38).K W l [.slice a2 len2 cap2] ∧ (l.length ≤ maxLen ∧ ∀ x0_ ∈ l, ((Lit.int .i64 x0_.f0).wf = true ∧ ((Lit.int .i64 x0_.f1.f0).wf = true ∧ (Lit.int .i64 x0_.f1.f1).wf = true ∧ (True ∧ (Lit.int .i64 x0_.f1.f2.f1).wf = true ∧ (Lit.int .i64 x0_.f1.f2.f2).wf = true ∧ (Lit.int .i64 x0_.f1.f2.f3).wf = true ∧ (Lit.int .i64 x0_.f1.f2.f4).wf = true ∧ (Lit.int .i64 x0_.f1.f2.f5).wf = true) ∧ ((Lit.int .i64 x0_.f1.f3.f0).wf = true ∧ (Lit.int .i64 x0_.f1.f3.f1).wf = true ∧ (Lit.int .i64 x0_.f1.f3.f2).wf = true) ∧ (Lit.int .i64 x0_.f1.f4).wf = true) ∧ ((Lit.int .i64 x0_.f2.f0).wf = true ∧ (Lit.int .i64 x0_.f2.f1).wf = true ∧ (Lit.int .i64 x0_.f2.f2).wf = true ∧ (Lit.int .i64 x0_.f2.f3).wf = true))) := by
  obtain ⟨fuel, hf⟩ := h2
  exact (Opn.opens_slice Try.underlying22 (by kernel_rfl) opn38) enc W 0 (fun _ => true) true fuel _ _ hf
 obtain ⟨A2, c2, E2, g2, C2⟩ := K2
 simp only [List.cons.injEq, Value.slice.injEq, and_true] at E2
 obtain ⟨rfl, rfl, rfl⟩ := E2
 have hk := Pure.SenderOrder a0 a1 l2 w0 w1 W2
 clear hA0 hval0 hsz0
 refine (thalweglaw14_SenderOrder.calls (a0 := a0) (a1 := a1) (A2 := a2) (c2 := cap2) (l2 := l2) (r := true) (w := W) (hr2 := C2) (hc2 := g2) (h := hk)).mono fun e W' ⟨he, bel⟩ => ?_
 subst he
 exact ⟨_, rfl, _, _, _, [], _, [], hW', trodAll_mk1 (shut_bool Try.underlying4 _), (trodAll_cons_mk (shut_int Try.underlying3 w0) (trodAll_cons_mk (shut_int Try.underlying3 w1) (trodAll_cons_mk (Below.trod laidOut (by kernel_rfl) (of_decide_eq_true (by kernel_rfl)) k2 bel lt2) trodAll_mk0))), rfl, bel.frame _, fun h => by cases h⟩
theorem over : Rows.senderOrderRow.holds Try.pinned (OpenSpec.ofChange Rows.senderOrderSpec) :=
 OpenClaim.holds_of_wide 6 Try.f6 rfl rfl rfl rfl rfl rfl rfl ⟨rfl, rfl, rfl, rfl, rfl⟩ rfl rfl rfl rfl rfl (by kernel_rfl) Try.func6 (by kernel_rfl)
  (of_decide_eq_true (by kernel_rfl)) (by unfold Func.isWrapper; first | (rw [if_pos (by decide +kernel)]; kernel_rfl) | (rw [if_neg (by decide +kernel)]; exact ⟨rfl, rfl⟩))
  (fun os started H enc _ => lifted os started H enc)
theorem proved : Rows.SenderOrderSaid := over
end Go.Proofs.Ytclbempnhelmoaa.senderOrder
namespace Go.Proofs.Ytclbempnhelmoaa
theorem senderOrder_holds : Rows.SenderOrderSaid := senderOrder.proved
end Go.Proofs.Ytclbempnhelmoaa
