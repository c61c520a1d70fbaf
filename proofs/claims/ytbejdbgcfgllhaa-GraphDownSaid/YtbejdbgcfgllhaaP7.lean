-- WRITTEN BY xprint.py, a program of this session that drives the kit's printer.
import Derived.Test.YtbejdbgcfgllhaaP0
import Derived.Test.YtbejdbgcfgllhaaGrp
namespace Go.Proofs.Ytbejdbgcfgllhaa.P
open Go.RowKit Go.Proofs.YtbejdbgcfgllhaaW.PrintWords Go.Proofs.YtbejdbgcfgllhaaW.PrintLast Go.Proofs.YtbejdbgcfgllhaaW.PrintMore
open Go.Proofs.YtbejdbgcfgllhaaW.PrintWords renaming below_alloc → YA, pw_below_drewN → YB, below_drew1 → YC, below_size → YD
open Go.Proofs.YtbejdbgcfgllhaaW.PrintWords.Aside0 renaming mk → YE
open Go.Proofs.YtbejdbgcfgllhaaW.PrintWords.Kd renaming R_alloc → YF, R_drewN → YG, R_drew → YH
attribute [local go_sem] max2_int min2_int max_two min_two max_three min_three max_four min_four   -- for this text's walks alone
set_option linter.unusedVariables false
set_option linter.unusedSimpArgs false

/-! ### graph_spread: function 24 -/
mutual
def graph_spread.l0 : Nat → List (List Int) → List Int → List Int → Option (List Int)
  | 0, _, _, _ => none
  | k + 1, x0, x5, x6 => if (x6.length : Int) > 0 then (if 0 < (x6.length : Int) then (if 0 ≤ (rd x6 0) then (if (rd x6 0) < (x0.length : Int) then (graph_spread.l1 k x0 x5 x6 (rd_L3 x0 (rd x6 0)) ((rd_L3 x0 (rd x6 0)).length : Int) 0) else (none)) else (none)) else (none)) else (some x5)
def graph_spread.l1 : Nat → List (List Int) → List Int → List Int → List Int → Int → Int → Option (List Int)
  | 0, _, _, _, _, _, _ => none
  | k + 1, x0, x5, x6, x28, x29, x30 => if x30 < x29 then (if 0 ≤ x30 then (if x30 < (x28.length : Int) then (if 0 ≤ (rd x28 x30) then (if (rd x28 x30) < (x5.length : Int) then (if (rd x5 (rd x28 x30)) < 0 then (if 0 < (x6.length : Int) then (if 0 ≤ (rd x6 0) then (if (rd x6 0) < (x5.length : Int) then (if x6.length < 17592186044416 then (graph_spread.l1 k x0 (x5.set ((rd x28 x30) : Int).toNat (wrap64 ((rd x5 (rd x6 0)) + 1))) (x6 ++ [rd x28 x30]) x28 x29 (wrap64 (x30 + 1))) else (none)) else (none)) else (none)) else (none)) else (graph_spread.l1 k x0 x5 x6 x28 x29 (wrap64 (x30 + 1)))) else (none)) else (none)) else (none)) else (none)) else (if 1 ≤ (x6.length : Int) then (graph_spread.l0 k x0 x5 (x6.drop (1 : Int).toNat)) else (none))
end
def graph_spread.f (k : Nat) (l0 : List (List Int)) (a1 : Int) : Option (List Int) := (slices_Repeat_int_int.f (([(-1)] : List Int)) (l0.length : Int)).bind fun t125 => (if 0 ≤ a1 then (if a1 < (t125.length : Int) then (graph_spread.l0 k l0 (t125.set (a1 : Int).toNat 0) (([a1] : List Int))) else (none)) else (none))
theorem graph_spread.mono_l : ∀ k, (∀ y0 y1 y2, LeO (graph_spread.l0 k y0 y1 y2) (graph_spread.l0 (k + 1) y0 y1 y2)) ∧ (∀ y0 y1 y2 y3 y4 y5, LeO (graph_spread.l1 k y0 y1 y2 y3 y4 y5) (graph_spread.l1 (k + 1) y0 y1 y2 y3 y4 y5))
  | 0 => ⟨fun _ _ _ r h => by simp [graph_spread.l0] at h, fun _ _ _ _ _ _ r h => by simp [graph_spread.l1] at h⟩
  | k + 1 => by
    obtain ⟨ih0, ih1⟩ := graph_spread.mono_l k
    refine ⟨?_, ?_⟩
    · intro y0 y1 y2
      unfold graph_spread.l0
      repeat' first
      | (with_reducible exact ih0 _ _ _)
      | (with_reducible exact ih1 _ _ _ _ _ _)
      | (with_reducible exact LeO.refl _)
      | (with_reducible exact LeO.none _)
      | (with_reducible refine LeO.ite ?_ ?_)
      | (with_reducible refine LeO.bind ?_ (fun _ => ?_))
      | exact ih0 _ _ _
      | exact ih1 _ _ _ _ _ _
      | exact LeO.none _
      | refine LeO.ite ?_ ?_
      | refine LeO.bind ?_ (fun _ => ?_)
    intro y0 y1 y2 y3 y4 y5
    unfold graph_spread.l1
    repeat' first
    | (with_reducible exact ih0 _ _ _)
    | (with_reducible exact ih1 _ _ _ _ _ _)
    | (with_reducible exact LeO.refl _)
    | (with_reducible exact LeO.none _)
    | (with_reducible refine LeO.ite ?_ ?_)
    | (with_reducible refine LeO.bind ?_ (fun _ => ?_))
    | exact ih0 _ _ _
    | exact ih1 _ _ _ _ _ _
    | exact LeO.none _
    | refine LeO.ite ?_ ?_
    | refine LeO.bind ?_ (fun _ => ?_)
theorem graph_spread.mono : ∀ a0 a1 k, LeO (graph_spread.f k a0 a1) (graph_spread.f (k + 1) a0 a1) := by
  intro a0 a1 k
  obtain ⟨ih0, ih1⟩ := graph_spread.mono_l k
  unfold graph_spread.f
  repeat' first
      | (with_reducible exact ih0 _ _ _)
      | (with_reducible exact ih1 _ _ _ _ _ _)
      | (with_reducible exact LeO.refl _)
      | (with_reducible exact LeO.none _)
      | (with_reducible refine LeO.ite ?_ ?_)
      | (with_reducible refine LeO.bind ?_ (fun _ => ?_))
      | exact ih0 _ _ _
      | exact ih1 _ _ _ _ _ _
      | exact LeO.none _
      | refine LeO.ite ?_ ?_
      | refine LeO.bind ?_ (fun _ => ?_)
set_option maxHeartbeats 8000000 in
set_option maxRecDepth 100000 in
theorem graph_spread.calls (k : Nat) (A0 : Option Addr) (c0 : Nat) (l0 : List (List Int)) (a1 : Int) (r : List Int) (w : World) (hr0 : Kd.C (Kd.slice 3 (Kd.int .i64)) w A0 l0.length l0) (hc0 : l0.length ≤ c0) (h : graph_spread.f k l0 a1 = some r) :
    Calls Try.prog 24 #[.slice A0 l0.length c0, .int .i64 a1] w fun e w' => ∃ v0_ : Value, e = .returned (v0_) ∧ Kd.R (Kd.int .i64) 3 w' w.heap.size (fun _ => True) v0_ r ∧ Below w.heap.size w w' := by
  have HR0 := YE hr0; have HC0 := YE hc0; clear hr0 hc0
  have HB := YE (Below.refl w.heap.size w)
  have H : ((slices_Repeat_int_int.f (([(-1)] : List Int)) (l0.length : Int)).bind fun t125 => (if 0 ≤ a1 then (if a1 < (t125.length : Int) then (graph_spread.l0 k l0 (t125.set (a1 : Int).toNat 0) (([a1] : List Int))) else (none)) else (none))) = some r := h
  clear h
  obtain ⟨y122, hy122⟩ : ∃ y_ : List Int, y_ = (([(-1)] : List Int)) := ⟨_, rfl⟩
  replace H : ((slices_Repeat_int_int.f y122 (l0.length : Int)).bind fun t125 => (if 0 ≤ a1 then (if a1 < (t125.length : Int) then (graph_spread.l0 k l0 (t125.set (a1 : Int).toNat 0) (([a1] : List Int))) else (none)) else (none))) = some r := by first | (rw [hy122]; with_reducible exact H) | (have H2_ := (Option.bind_some _ _).symm.trans H; rw [hy122]; with_reducible exact H2_) | (have H2_ := (Option.bind_some _ _).symm.trans H; with_reducible exact H2_) | with_reducible exact H | (rw [hy122]; exact H) | exact H
  have Ny122 := YE hy122; clear hy122; replace H := Option.bind_eq_some_iff.mp H; obtain ⟨t125, A30, H⟩ := H
  replace H : (if 0 ≤ a1 then (if a1 < (t125.length : Int) then (graph_spread.l0 k l0 (t125.set (a1 : Int).toNat 0) (([a1] : List Int))) else (none)) else (none)) = some r := H
  have A3 := YE A30; clear A30
  by_cases c4 : 0 ≤ a1
  rotate_left
  · rw [if_neg c4] at H
    exact absurd H (by simp)
  rw [if_pos c4] at H; have c4b0 : decide (0 ≤ a1) = true := decide_eq_true c4; clear c4
  by_cases c5 : a1 < (t125.length : Int)
  rotate_left
  · rw [if_neg c5] at H
    exact absurd H (by simp)
  rw [if_pos c5] at H
  have c5b0 : decide (a1 < (t125.length : Int)) = true := decide_eq_true c5
  clear c5
  obtain ⟨y128, hy128⟩ : ∃ y_ : List Int, y_ = (t125.set (a1 : Int).toNat 0) := ⟨_, rfl⟩
  replace H : (graph_spread.l0 k l0 y128 (([a1] : List Int))) = some r := by first | (rw [hy128]; with_reducible exact H) | (have H2_ := (Option.bind_some _ _).symm.trans H; rw [hy128]; with_reducible exact H2_) | (have H2_ := (Option.bind_some _ _).symm.trans H; with_reducible exact H2_) | with_reducible exact H | (rw [hy128]; exact H) | exact H
  have Ny128 := YE hy128; clear hy128
  obtain ⟨y129, hy129⟩ : ∃ y_ : List Int, y_ = (([a1] : List Int)) := ⟨_, rfl⟩
  replace H : (graph_spread.l0 k l0 y128 y129) = some r := by first | (rw [hy129]; with_reducible exact H) | (have H2_ := (Option.bind_some _ _).symm.trans H; rw [hy129]; with_reducible exact H2_) | (have H2_ := (Option.bind_some _ _).symm.trans H; with_reducible exact H2_) | with_reducible exact H | (rw [hy129]; exact H) | exact H
  have Ny129 := YE hy129; clear hy129
  have H' := YE H
  clear H
  go_enter Try.func24, Try.ntmps24
  go_wp2_with (first | ((with_reducible refine gate_dst (N := 9) rfl ?_); refine Kd.R_lit (Kd.int .i64) _ 3 ?hg (N := 9) ?hd (xs := ([(-1)] : List Int)) (inner := [.int .i64 (-1)]) (ok := fun _ => True) (okp := fun _ => True) ?hr ?hp (fun _ hk => hk) trivial (Below.refl _ _) (Nat.le_refl _) (by simp) ?_; (case hd => rfl); (case hg => rfl); (case hr => first | (go_simp; done) | (go_simp; rfl)); (case hp => exact (Reps.one (show Kd.M (Kd.int .i64) _ _ _ (-1) [.int .i64 (-1)] from rfl) (Reps.none _ _))); intro v123 w7 ho8 hb hg_ hnew_; clear hg_ hnew_; (first | rw [← Ny122.out] at ho8 | (simp only [Int.reduceToNat] at ho8; rw [← Ny122.out] at ho8)); have n0_ := YE (Kd.R_lower ho8 (YD (by repeat (first | (with_reducible first | exact HB.out | apply YA | apply YB | apply YC) | exact HB.out)))); have n1_ := YE (below_step (by repeat (first | (with_reducible first | exact HB.out | apply YA | apply YB | apply YC) | exact HB.out)) hb); clear HB; have HO124 := n0_; have HB := n1_; clear n0_ n1_; clear hb ho8; obtain ⟨Ao9, co9, eo9⟩ := Kd.R_slice HO124.out; subst eo9) | ((with_reducible refine gate_callee (f := 23) rfl ?_); refine goesL_ (some 12) rfl rfl Try.func23 (by kernel_rfl) rfl #[.slice Ao9 y122.length co9, .int .i64 (l0.length : Int)] rfl (by (try simp only [List.map_toArray, List.map_cons, List.map_nil]); first | done | rfl | (simp only [List.length_drop, List.length_take]; rfl)) ?_; (with_reducible refine (slices_Repeat_int_int.calls _ _ y122 (l0.length : Int) t125 _ ?side1 ?side2 A3.out).mono ?_); (case side1 => repeat (first | exact (Kd.R_reads' HO124.out).2.2 | (with_reducible refine Kd.C_alloc ?_ _) | (with_reducible refine Kd.C_drewN ?_ _) | (with_reducible refine Kd.C_drew ?_))); (case side2 => exact (Kd.R_reads' HO124.out).2.1); rintro e w10 ⟨v126, rfl, ho0, hb⟩; refine ⟨_, rfl, ?_⟩; have n0_ := YE (Kd.R_elder' (by (with_reducible repeat (first | apply YF | apply YG | apply YH)); exact HO124.out) (Kd.R_base ho0) hb); have n1_ := YE (Kd.R_lower (Kd.R_new' ho0 (Kd.R_lt (by (with_reducible repeat (first | apply YF | apply YG | apply YH)); exact HO124.out))) (YD (by repeat (first | (with_reducible first | exact HB.out | apply YA | apply YB | apply YC) | exact HB.out)))); have n2_ := YE (below_step (by repeat (first | (with_reducible first | exact HB.out | apply YA | apply YB | apply YC) | exact HB.out)) hb); clear HO124; clear HB; have HO124 := n0_; have HO127 := n1_; have HB := n2_; clear n0_ n1_ n2_; (try clear hb); (try clear hb2); (try clear hk); (try clear hi); (try clear ho0); have p6 : 0 ≤ (a1 : Int) := of_decide_eq_true (by first | (with_reducible assumption) | assumption); have q6 : (a1 : Int) < ((t125.length : Int) : Int) := of_decide_eq_true (by first | (with_reducible assumption) | assumption); obtain ⟨go6, co6, eo6, gb6, gl6, cl6, HG6⟩ := Kd.R_form HO127.out (by omega); (first | cases eo6 | (injection eo6 with ea_ en_ ec_; (first | subst ea_ | (injection ea_ with ea_; subst ea_)); subst ec_; clear en_)); have GB6 := YE gb6; have GG6 := YE HG6; clear gb6 gl6 HG6; obtain ⟨hx6_0, hf6_0⟩ := Kd.R_celln 0 HO127.out (a1 : Int) p6 q6; replace p6 := eq_true p6; replace q6 := eq_true q6; have n_ := YE (Kd.R_mono (ok' := (fun k_ => some k_ ≠ (.slice Ao9 y122.length co9 : Value).ownBlock)) HO127.out (fun k_ hk => hk.2)); clear HO127; have HO127 := n_; clear n_; obtain ⟨hy11_, hz11_⟩ := Kd.R_celln 0 HO127.out (a1 : Int) (of_decide_eq_true (by first | (with_reducible assumption) | assumption)) (of_decide_eq_true (by first | (with_reducible assumption) | assumption)); have HP11 := Kd.R_putg HO127.out (a1 : Int) 0) | ((with_reducible refine gate_store (t := 3) (p := 15) rfl ?_); refine store_event (t := 3) (p := 15) (v := ?vo_w12) (w1 := (w10.setCell ⟨go6, (a1 : Int).toNat, none⟩ (.int .i64 0))) ?hg ?ho ?hn ?hr ?_; (case ho => rfl); (case hg => rfl); (case hn => rfl); (case hr => first | (go_simp; done) | (go_simp; rfl)); intro w12 hw; have hg : w10.grownBy w12 (some go6) := (by rw [hw]; exact HP11.2); have hp_ : Kd.R (Kd.int .i64) 3 w12 w.heap.size (fun k_ => some k_ ≠ (.slice Ao9 y122.length co9 : Value).ownBlock) (.slice (some ⟨go6, 0, none⟩) t125.length co6) y128 := (by rw [hw, Ny128.out]; exact HP11.1); clear HP11; have n0_ := YE (Kd.R_after (v := (.slice (some ⟨go6, 0, none⟩) t125.length co6)) (v1 := (.slice (some ⟨go6, 0, none⟩) t125.length co6)) (ok := (fun _ => True)) (by (with_reducible repeat (first | apply YF | apply YG | apply YH)); exact HO124.out) hg (.inl rfl)); have n1_ := YE (hp_); have n2_ := YE ((by rw [hw]; exact below_set (HB.out) GB6.out : Below w.heap.size w w12)); clear HO124; clear HO127; clear HB; have HO124 := n0_; have HO127 := n1_; have HB := n2_; clear n0_ n1_ n2_; clear hg hw hp_) | ((with_reducible refine gate_dst (N := 17) rfl ?_); refine Kd.R_lit (Kd.int .i64) _ 3 ?hg (N := 17) ?hd (xs := ([a1] : List Int)) (inner := [.int .i64 a1]) (ok := fun _ => True) (okp := fun _ => True) ?hr ?hp (fun _ hk => hk) trivial (Below.refl _ _) (Nat.le_refl _) (by simp) ?_; (case hd => rfl); (case hg => rfl); (case hr => first | (go_simp; done) | (go_simp; rfl)); (case hp => exact (Reps.one (show Kd.M (Kd.int .i64) _ _ _ a1 [.int .i64 a1] from rfl) (Reps.none _ _))); intro v130 w13 ho14 hb hg_ hnew_; clear hg_ hnew_; (first | rw [← Ny129.out] at ho14 | (simp only [Int.reduceToNat] at ho14; rw [← Ny129.out] at ho14)); have n0_ := YE (Kd.R_elder' (by (with_reducible repeat (first | apply YF | apply YG | apply YH)); exact HO124.out) (Kd.R_base ho14) hb); have n1_ := YE (Kd.R_elder' (by (with_reducible repeat (first | apply YF | apply YG | apply YH)); exact HO127.out) (Kd.R_base ho14) hb); have n2_ := YE (Kd.R_lower (Kd.R_new' (Kd.R_new' ho14 (Kd.R_lt (by (with_reducible repeat (first | apply YF | apply YG | apply YH)); exact HO124.out))) (Kd.R_lt (by (with_reducible repeat (first | apply YF | apply YG | apply YH)); exact HO127.out))) (YD (by repeat (first | (with_reducible first | exact HB.out | apply YA | apply YB | apply YC) | exact HB.out)))); have n3_ := YE (below_step (by repeat (first | (with_reducible first | exact HB.out | apply YA | apply YB | apply YC) | exact HB.out)) hb); clear HO124; clear HO127; clear HB; have HO124 := n0_; have HO127 := n1_; have HO131 := n2_; have HB := n3_; clear n0_ n1_ n2_ n3_; clear hb ho14))
  go_loopg [6] k (fun kq v6 w' => ∃ (x5_1 : List Int) (x6_1 : List Int), Aside0 (graph_spread.l0 kq l0 x5_1 x6_1 = some r) ∧ Aside0 (kq ≤ k) ∧ Aside0 (Kd.R (Kd.int .i64) 3 w' w.heap.size (fun k_ => some k_ ≠ (v6 : Value).ownBlock) (.slice (some ⟨go6, 0, none⟩) t125.length co6) x5_1) ∧ Aside0 (Kd.Q (Kd.int .i64) 3 w' w.heap.size (fun k_ => some k_ ≠ ((.slice (some ⟨go6, 0, none⟩) t125.length co6) : Value).ownBlock) v6 x6_1) ∧ Aside0 (Below w.heap.size w w'))
  case atStart => exact ⟨(y128), (y129), H', ⟨Nat.le_refl _⟩, ⟨by (with_reducible repeat (first | apply YF | apply YG | apply YH)); exact Kd.R_mono HO127.out (fun _ hk => by first | exact hk.2 | exact trivial | (simp [hk]; done) | simp_all)⟩, ⟨Kd.Q_of_R (by (with_reducible repeat (first | apply YF | apply YG | apply YH)); exact Kd.R_mono HO131.out (fun _ hk => by first | exact hk.2 | exact trivial | (simp [hk]; done) | simp_all))⟩, ⟨by repeat (first | (with_reducible first | exact HB.out | apply YA | apply YB | apply YC) | exact HB.out)⟩⟩
  case round =>
    clear H'
    try clear c2
    try clear p2
    try clear c4
    try clear c4b0
    try clear c5
    try clear c5b0
    try clear p6
    try clear q6
    try clear hx6
    try clear hf6
    try clear hx6_0
    try clear p6
    try clear q6
    obtain ⟨x5_1, x6_1, HA, HK1, HO_5, HO_6, HB⟩ := hrel
    have hl5_1 := (Kd.R_reads' HO_5.out).1
    rw [hl5_1] at HO_5
    (try simp only [hl5_1])
    (try simp only [hl5_1] at HO_6)
    cases gk with
    | zero => exact absurd HA.out (by simp [graph_spread.l0])
    | succ k1 =>
      have H := HA.out
      clear HA
      simp only [graph_spread.l0] at H
      by_cases c15 : (x6_1.length : Int) > 0
      · rw [if_pos c15] at H
        have c15b0 : decide (0 < (x6_1.length : Int)) = true := decide_eq_true c15
        have c15b1 : decide (0 < x6_1.length) = true := decide_eq_true (by omega)
        clear c15
        by_cases c16 : 0 < (x6_1.length : Int)
        rotate_left
        · rw [if_neg c16] at H
          exact absurd H (by simp)
        rw [if_pos c16] at H
        have c16b0 : decide (0 < (x6_1.length : Int)) = true := decide_eq_true c16
        have c16b1 : decide (0 < x6_1.length) = true := decide_eq_true (by omega)
        clear c16
        by_cases c17 : 0 ≤ (rd x6_1 0)
        rotate_left
        · rw [if_neg c17] at H
          exact absurd H (by simp)
        rw [if_pos c17] at H; have c17b0 : decide (0 ≤ (rd x6_1 0)) = true := decide_eq_true c17; clear c17
        by_cases c18 : (rd x6_1 0) < (l0.length : Int)
        rotate_left
        · rw [if_neg c18] at H
          exact absurd H (by simp)
        rw [if_pos c18] at H
        have c18b0 : decide ((rd x6_1 0) < (l0.length : Int)) = true := decide_eq_true c18
        clear c18
        have H' := YE H
        clear H
        obtain ⟨Ao19, co19, eo19, _⟩ := Kd.Q_slice HO_6.out
        subst eo19
        have p132 : 0 ≤ (0 : Int) := (by omega)
        have q132 : 0 < (x6_1.length : Int) := of_decide_eq_true (by first | (with_reducible assumption) | assumption)
        obtain ⟨ad132, e132, hx132_0⟩ := Kd.at_int (Kd.Q_reads' HO_6.out).2.2 0 p132 q132
        cases e132
        have qi132 : (0 < x6_1.length) = True := eq_true (by omega)
        (try rw [show ((0 : Int)).toNat = 0 from rfl] at hx132_0)
        (try rw [Addr.add_zero'] at hx132_0)
        replace p132 := eq_true p132
        replace q132 := eq_true q132
        have p133 : 0 ≤ ((rd x6_1 0) : Int) := of_decide_eq_true (by first | (with_reducible assumption) | assumption)
        have q133 : (rd x6_1 0) < (l0.length : Int) := of_decide_eq_true (by first | (with_reducible assumption) | assumption)
        obtain ⟨ad133, A133_0, c133_0, e133, hx133_0, hl133_0, hi133_0⟩ := at_L3 HR0.out (rd x6_1 0) p133 q133
        cases e133
        replace hx133_0 := (HB.out.cell (World.block_lt_of_cell? w _ hx133_0)).trans hx133_0
        have HR133_0 := YE hi133_0; have HC133_0 := YE hl133_0; clear hi133_0 hl133_0
        replace p133 := eq_true p133
        replace q133 := eq_true q133
        go_wp2
        go_loopg [6, 30] k1 (fun kq v6 v30 w' => ∃ (x5_2 : List Int) (x6_2 : List Int) (x30_2 : Int), v30 = .int .i64 x30_2 ∧ Aside0 (graph_spread.l1 kq l0 x5_2 x6_2 (rd_L3 l0 (rd x6_1 0)) ((rd_L3 l0 (rd x6_1 0)).length : Int) x30_2 = some r) ∧ Aside0 (kq ≤ k1) ∧ Aside0 (Kd.R (Kd.int .i64) 3 w' w.heap.size (fun k_ => some k_ ≠ (v6 : Value).ownBlock) (.slice (some ⟨go6, 0, none⟩) x5_1.length co6) x5_2) ∧ Aside0 (Kd.Q (Kd.int .i64) 3 w' w.heap.size (fun k_ => some k_ ≠ ((.slice (some ⟨go6, 0, none⟩) x5_1.length co6) : Value).ownBlock) v6 x6_2) ∧ Aside0 (Below w.heap.size w w'))
        case atStart => exact ⟨(x5_1), (x6_1), (0), (by first | rfl | (simp; done) | (simp [*]; done)), H', ⟨Nat.le_refl _⟩, ⟨by (try simp only [hl5_1]); (with_reducible repeat (first | apply YF | apply YG | apply YH)); exact HO_5.out⟩, ⟨by (try simp only [hl5_1]); (with_reducible repeat (first | apply Kd.Q_alloc | apply Kd.Q_drewN | apply Kd.Q_drew)); exact HO_6.out⟩, ⟨by repeat (first | (with_reducible first | exact HB.out | apply YA | apply YB | apply YC) | exact HB.out)⟩⟩
        case round =>
          clear H'
          try clear c1
          try clear p1
          try clear q1
          try clear hx1
          try clear qi1
          try clear c2
          try clear p2
          try clear c4
          try clear c4b0
          try clear c5
          try clear c5b0
          try clear p6
          try clear q6
          try clear hx6
          try clear hf6
          try clear c13
          try clear p13
          try clear q13
          try clear hx13
          try clear qi13
          try clear c15
          try clear c15b0
          try clear c15b1
          try clear c16
          try clear c16b0
          try clear c16b1
          try clear c17
          try clear c17b0
          try clear c18
          try clear c18b0
          try clear hx132_0
          try clear hx133_0
          try clear hx6_0
          try clear p132
          try clear p133
          try clear p2
          try clear p6
          try clear q132
          try clear q133
          try clear q6
          obtain ⟨x5_2, x6_2, x30_2, rfl, HA, HK2, HO_5, HO_6, HB⟩ := hrel
          have hl5_2 := (Kd.R_reads' HO_5.out).1
          rw [hl5_2] at HO_5
          (try simp only [hl5_2])
          (try simp only [hl5_2] at HO_6)
          cases gk with
          | zero => exact absurd HA.out (by simp [graph_spread.l1])
          | succ k2 =>
            have H := HA.out
            clear HA
            simp only [graph_spread.l1] at H
            by_cases c20 : x30_2 < ((rd_L3 l0 (rd x6_1 0)).length : Int)
            · rw [if_pos c20] at H
              have c20b0 : decide (x30_2 < ((rd_L3 l0 (rd x6_1 0)).length : Int)) = true := decide_eq_true c20
              clear c20
              by_cases c21 : 0 ≤ x30_2
              rotate_left
              · rw [if_neg c21] at H
                exact absurd H (by simp)
              rw [if_pos c21] at H; have c21b0 : decide (0 ≤ x30_2) = true := decide_eq_true c21; clear c21
              by_cases c22 : x30_2 < ((rd_L3 l0 (rd x6_1 0)).length : Int)
              rotate_left
              · rw [if_neg c22] at H
                exact absurd H (by simp)
              rw [if_pos c22] at H
              have c22b0 : decide (x30_2 < ((rd_L3 l0 (rd x6_1 0)).length : Int)) = true := decide_eq_true c22
              clear c22
              by_cases c23 : 0 ≤ (rd (rd_L3 l0 (rd x6_1 0)) x30_2)
              rotate_left
              · rw [if_neg c23] at H
                exact absurd H (by simp)
              rw [if_pos c23] at H; have c23b0 : decide (0 ≤ (rd (rd_L3 l0 (rd x6_1 0)) x30_2)) = true := decide_eq_true c23; clear c23
              by_cases c24 : (rd (rd_L3 l0 (rd x6_1 0)) x30_2) < (x5_2.length : Int)
              rotate_left
              · rw [if_neg c24] at H
                exact absurd H (by simp)
              rw [if_pos c24] at H
              have c24b0 : decide ((rd (rd_L3 l0 (rd x6_1 0)) x30_2) < (x5_2.length : Int)) = true := decide_eq_true c24
              clear c24
              by_cases c25 : (rd x5_2 (rd (rd_L3 l0 (rd x6_1 0)) x30_2)) < 0
              · rw [if_pos c25] at H
                have c25b0 : decide ((rd x5_2 (rd (rd_L3 l0 (rd x6_1 0)) x30_2)) < 0) = true := decide_eq_true c25; clear c25
                by_cases c26 : 0 < (x6_2.length : Int)
                rotate_left
                · rw [if_neg c26] at H
                  exact absurd H (by simp)
                rw [if_pos c26] at H
                have c26b0 : decide (0 < (x6_2.length : Int)) = true := decide_eq_true c26
                have c26b1 : decide (0 < x6_2.length) = true := decide_eq_true (by omega)
                clear c26
                by_cases c27 : 0 ≤ (rd x6_2 0)
                rotate_left
                · rw [if_neg c27] at H
                  exact absurd H (by simp)
                rw [if_pos c27] at H; have c27b0 : decide (0 ≤ (rd x6_2 0)) = true := decide_eq_true c27; clear c27
                by_cases c28 : (rd x6_2 0) < (x5_2.length : Int)
                rotate_left
                · rw [if_neg c28] at H
                  exact absurd H (by simp)
                rw [if_pos c28] at H
                have c28b0 : decide ((rd x6_2 0) < (x5_2.length : Int)) = true := decide_eq_true c28
                clear c28
                obtain ⟨y138, hy138⟩ : ∃ y_ : List Int, y_ = (x5_2.set ((rd (rd_L3 l0 (rd x6_1 0)) x30_2) : Int).toNat (wrap64 ((rd x5_2 (rd x6_2 0)) + 1))) := ⟨_, rfl⟩
                replace H : (if x6_2.length < 17592186044416 then (graph_spread.l1 k2 l0 y138 (x6_2 ++ [rd (rd_L3 l0 (rd x6_1 0)) x30_2]) (rd_L3 l0 (rd x6_1 0)) ((rd_L3 l0 (rd x6_1 0)).length : Int) (wrap64 (x30_2 + 1))) else (none)) = some r := by first | (rw [hy138]; with_reducible exact H) | (have H2_ := (Option.bind_some _ _).symm.trans H; rw [hy138]; with_reducible exact H2_) | (have H2_ := (Option.bind_some _ _).symm.trans H; with_reducible exact H2_) | with_reducible exact H | (rw [hy138]; exact H) | exact H
                have Ny138 := YE hy138; clear hy138
                by_cases c30 : x6_2.length < 17592186044416
                rotate_left
                · rw [if_neg c30] at H
                  exact absurd H (by simp)
                rw [if_pos c30] at H; have LMc30 := YE c30; clear c30
                obtain ⟨y139, hy139⟩ : ∃ y_ : List Int, y_ = (x6_2 ++ [rd (rd_L3 l0 (rd x6_1 0)) x30_2]) := ⟨_, rfl⟩
                replace H : (graph_spread.l1 k2 l0 y138 y139 (rd_L3 l0 (rd x6_1 0)) ((rd_L3 l0 (rd x6_1 0)).length : Int) (wrap64 (x30_2 + 1))) = some r := by first | (rw [hy139]; with_reducible exact H) | (have H2_ := (Option.bind_some _ _).symm.trans H; rw [hy139]; with_reducible exact H2_) | (have H2_ := (Option.bind_some _ _).symm.trans H; with_reducible exact H2_) | with_reducible exact H | (rw [hy139]; exact H) | exact H
                have Ny139 := YE hy139; clear hy139
                have H' := YE H
                clear H
                have p134 : 0 ≤ (x30_2 : Int) := of_decide_eq_true (by first | (with_reducible assumption) | assumption)
                have q134 : x30_2 < ((rd_L3 l0 (rd x6_1 0)).length : Int) := of_decide_eq_true (by first | (with_reducible assumption) | assumption)
                obtain ⟨ad134, e134, hx134_0⟩ := Kd.at_int HR133_0.out x30_2 p134 q134
                cases e134
                replace hx134_0 := (HB.out.cell (World.block_lt_of_cell? w _ hx134_0)).trans hx134_0
                replace p134 := eq_true p134
                replace q134 := eq_true q134
                have p135 : 0 ≤ ((rd (rd_L3 l0 (rd x6_1 0)) x30_2) : Int) := of_decide_eq_true (by first | (with_reducible assumption) | assumption)
                have q135 : (rd (rd_L3 l0 (rd x6_1 0)) x30_2) < (x5_2.length : Int) := of_decide_eq_true (by first | (with_reducible assumption) | assumption)
                obtain ⟨ad135, e135, hx135_0⟩ := Kd.at_int (Kd.R_reads' HO_5.out).2.2 (rd (rd_L3 l0 (rd x6_1 0)) x30_2) p135 q135
                obtain rfl : (⟨go6, 0, none⟩ : Addr) = ad135 := (by injection e135)
                (first | simp only [add_plain] at hx135_0 | simp only [add_at] at hx135_0 | simp only [Addr.add, Nat.zero_add] at hx135_0 | skip)
                replace p135 := eq_true p135
                replace q135 := eq_true q135
                obtain ⟨Ao31, co31, eo31, _⟩ := Kd.Q_slice HO_6.out
                subst eo31
                have p136 : 0 ≤ (0 : Int) := (by omega)
                have q136 : 0 < (x6_2.length : Int) := of_decide_eq_true (by first | (with_reducible assumption) | assumption)
                obtain ⟨ad136, e136, hx136_0⟩ := Kd.at_int (Kd.Q_reads' HO_6.out).2.2 0 p136 q136
                cases e136
                have qi136 : (0 < x6_2.length) = True := eq_true (by omega)
                (try rw [show ((0 : Int)).toNat = 0 from rfl] at hx136_0)
                (try rw [Addr.add_zero'] at hx136_0)
                replace p136 := eq_true p136
                replace q136 := eq_true q136
                have p137 : 0 ≤ ((rd x6_2 0) : Int) := of_decide_eq_true (by first | (with_reducible assumption) | assumption)
                have q137 : (rd x6_2 0) < (x5_2.length : Int) := of_decide_eq_true (by first | (with_reducible assumption) | assumption)
                obtain ⟨ad137, e137, hx137_0⟩ := Kd.at_int (Kd.R_reads' HO_5.out).2.2 (rd x6_2 0) p137 q137
                obtain rfl : (⟨go6, 0, none⟩ : Addr) = ad137 := (by injection e137)
                (first | simp only [add_plain] at hx137_0 | simp only [add_at] at hx137_0 | simp only [Addr.add, Nat.zero_add] at hx137_0 | skip)
                replace p137 := eq_true p137
                replace q137 := eq_true q137
                have p29 : 0 ≤ ((rd (rd_L3 l0 (rd x6_1 0)) x30_2) : Int) := of_decide_eq_true (by first | (with_reducible assumption) | assumption)
                have q29 : ((rd (rd_L3 l0 (rd x6_1 0)) x30_2) : Int) < ((x5_2.length : Int) : Int) := of_decide_eq_true (by first | (with_reducible assumption) | assumption)
                obtain ⟨hx29_0, hf29_0⟩ := Kd.R_celln 0 HO_5.out ((rd (rd_L3 l0 (rd x6_1 0)) x30_2) : Int) p29 q29
                replace p29 := eq_true p29
                replace q29 := eq_true q29
                have HP32 := Kd.R_putg HO_5.out ((rd (rd_L3 l0 (rd x6_1 0)) x30_2) : Int) (wrap64 ((rd x5_2 (rd x6_2 0)) + 1))
                go_wp2_with (first | ((with_reducible refine gate_store (t := 3) (p := 48) rfl ?_); refine store_event (t := 3) (p := 48) (v := ?vo_w33) (w1 := (wr.setCell ⟨go6, ((rd (rd_L3 l0 (rd x6_1 0)) x30_2) : Int).toNat, none⟩ (.int .i64 (wrap64 ((rd x5_2 (rd x6_2 0)) + 1))))) ?hg ?ho ?hn ?hr ?_; (case ho => rfl); (case hg => rfl); (case hn => rfl); (case hr => first | (go_simp; done) | (go_simp; rfl)); intro w33 hw; have hg : wr.grownBy w33 (some go6) := (by rw [hw]; exact HP32.2); have hp_ : Kd.R (Kd.int .i64) 3 w33 w.heap.size (fun k_ => some k_ ≠ (.slice (some ad136) x6_2.length co31 : Value).ownBlock) (.slice (some ⟨go6, 0, none⟩) x5_2.length co6) y138 := (by rw [hw, Ny138.out]; exact HP32.1); clear HP32; have n0_ := YE (hp_); have n1_ := YE (Kd.Q_after (v := (.slice (some ⟨go6, 0, none⟩) x5_2.length co6)) (v1 := (.slice (some ⟨go6, 0, none⟩) x5_2.length co6)) (ok := (fun _ => True)) (by (with_reducible repeat (first | apply Kd.Q_alloc | apply Kd.Q_drewN | apply Kd.Q_drew)); exact Kd.Q_mono HO_6.out (fun _ hk => ⟨trivial, hk⟩)) hg (.inl rfl)); have n2_ := YE ((by rw [hw]; exact below_set (HB.out) GB6.out : Below w.heap.size w w33)); clear HO_5; clear HO_6; clear HB; have HO_5 := n0_; have HO_6 := n1_; have HB := n2_; clear n0_ n1_ n2_; clear hg hw hp_) | ((with_reducible refine gate_builtin (b := .append) (xs := #[.tmp 49, .tmp 51]) rfl ?_); at_builtin; refine Kd.Q_append (Kd.int .i64) (w0 := w) w.heap.size rfl (.tmp 49) (.tmp 51) 22 3 (.int .i64 0) 8 rfl Try.underlying22 info3 rfl (by decide) (by omega) (.slice (some ad136) x6_2.length co31) x6_2 (rd (rd_L3 l0 (rd x6_1 0)) x30_2) [.int .i64 (rd (rd_L3 l0 (rd x6_1 0)) x30_2)] (fun k_ => some k_ ≠ (.slice (some ⟨go6, 0, none⟩) x5_2.length co6 : Value).ownBlock) (fun _ => False) rfl rfl ?aP (fun _ hk => hk.elim) ?aF ?aO ?aB ?aS ?aL ?_; (case aP => exact rfl); (case aB => exact (by repeat (first | (with_reducible first | exact HB.out | apply YA | apply YB | apply YC) | exact HB.out))); (case aF => exact (fun k_ hk => Kd.fresh' (Kd.R_lt (by (with_reducible repeat (first | apply YF | apply YG | apply YH)); exact HO_5.out)) k_ hk)); (case aO => exact (by (with_reducible repeat (first | apply Kd.Q_alloc | apply Kd.Q_drewN | apply Kd.Q_drew)); exact Kd.Q_mono HO_6.out (fun _ hk => hk.2))); (case aS => exact (YD (by repeat (first | (with_reducible first | exact HB.out | apply YA | apply YB | apply YC) | exact HB.out)))); (case aL => have := LMc30.out; omega); intro v140 w34 ho hb hg hat; rw [← Ny139.out] at ho; have n0_ := YE (Kd.R_after (ok := (fun _ => True)) (by (with_reducible repeat (first | apply YF | apply YG | apply YH)); exact Kd.R_mono HO_5.out (fun _ hk => by first | exact ⟨trivial, hk⟩ | exact trivial | (simp [hk]; done) | simp_all)) hg hat); have n1_ := YE (hb); have n2_ := YE (ho); clear HO_5; clear HB; clear HO_6; have HO_5 := n0_; have HB := n1_; have HO141 := n2_; clear n0_ n1_ n2_; clear ho hb hg hat))
                (try simp only [← hl5_2])
                go_roundg k2
                case measure => have := HK1.out; have := HK2.out; omega
                case rel => exact ⟨(y138), (y139), (wrap64 (x30_2 + 1)), (by first | rfl | (simp; done) | (simp [*]; done)), H', ⟨by have := HK1.out; have := HK2.out; omega⟩, ⟨by (try simp only [hl5_1]); (try simp only [hl5_2]); (with_reducible repeat (first | apply YF | apply YG | apply YH)); exact Kd.R_mono HO_5.out (fun _ hk => by first | exact hk.2 | exact trivial | (simp [hk]; done) | simp_all)⟩, ⟨by (try simp only [hl5_1]); (try simp only [hl5_2]); (with_reducible repeat (first | apply Kd.Q_alloc | apply Kd.Q_drewN | apply Kd.Q_drew)); exact HO141.out⟩, ⟨by repeat (first | (with_reducible first | exact HB.out | apply YA | apply YB | apply YC) | exact HB.out)⟩⟩
              rw [if_neg c25] at H; have c25b0 : decide ((rd x5_2 (rd (rd_L3 l0 (rd x6_1 0)) x30_2)) < 0) = false := decide_eq_false c25; clear c25
              have H' := YE H
              clear H
              have p134 : 0 ≤ (x30_2 : Int) := of_decide_eq_true (by first | (with_reducible assumption) | assumption)
              have q134 : x30_2 < ((rd_L3 l0 (rd x6_1 0)).length : Int) := of_decide_eq_true (by first | (with_reducible assumption) | assumption)
              obtain ⟨ad134, e134, hx134_0⟩ := Kd.at_int HR133_0.out x30_2 p134 q134
              cases e134
              replace hx134_0 := (HB.out.cell (World.block_lt_of_cell? w _ hx134_0)).trans hx134_0
              replace p134 := eq_true p134
              replace q134 := eq_true q134
              have p135 : 0 ≤ ((rd (rd_L3 l0 (rd x6_1 0)) x30_2) : Int) := of_decide_eq_true (by first | (with_reducible assumption) | assumption)
              have q135 : (rd (rd_L3 l0 (rd x6_1 0)) x30_2) < (x5_2.length : Int) := of_decide_eq_true (by first | (with_reducible assumption) | assumption)
              obtain ⟨ad135, e135, hx135_0⟩ := Kd.at_int (Kd.R_reads' HO_5.out).2.2 (rd (rd_L3 l0 (rd x6_1 0)) x30_2) p135 q135
              obtain rfl : (⟨go6, 0, none⟩ : Addr) = ad135 := (by injection e135)
              (first | simp only [add_plain] at hx135_0 | simp only [add_at] at hx135_0 | simp only [Addr.add, Nat.zero_add] at hx135_0 | skip)
              replace p135 := eq_true p135
              replace q135 := eq_true q135
              go_wp2
              (try simp only [← hl5_2])
              go_roundg k2
              case measure => have := HK1.out; have := HK2.out; omega
              case rel => exact ⟨(x5_2), (x6_2), (wrap64 (x30_2 + 1)), (by first | rfl | (simp; done) | (simp [*]; done)), H', ⟨by have := HK1.out; have := HK2.out; omega⟩, ⟨by (try simp only [hl5_1]); (try simp only [hl5_2]); (with_reducible repeat (first | apply YF | apply YG | apply YH)); exact HO_5.out⟩, ⟨by (try simp only [hl5_1]); (try simp only [hl5_2]); (with_reducible repeat (first | apply Kd.Q_alloc | apply Kd.Q_drewN | apply Kd.Q_drew)); exact HO_6.out⟩, ⟨by repeat (first | (with_reducible first | exact HB.out | apply YA | apply YB | apply YC) | exact HB.out)⟩⟩
            rw [if_neg c20] at H
            have c20b0 : decide (x30_2 < ((rd_L3 l0 (rd x6_1 0)).length : Int)) = false := decide_eq_false c20
            clear c20
            by_cases c35 : 1 ≤ (x6_2.length : Int)
            rotate_left
            · rw [if_neg c35] at H
              exact absurd H (by simp)
            rw [if_pos c35] at H
            have c35b0 := eq_true c35
            have c35b1 : decide (1 ≤ (x6_2.length : Int)) = true := decide_eq_true c35
            clear c35
            obtain ⟨y142, hy142⟩ : ∃ y_ : List Int, y_ = (x6_2.drop (1 : Int).toNat) := ⟨_, rfl⟩
            replace H : (graph_spread.l0 k2 l0 x5_2 y142) = some r := by first | (rw [hy142]; with_reducible exact H) | (have H2_ := (Option.bind_some _ _).symm.trans H; rw [hy142]; with_reducible exact H2_) | (have H2_ := (Option.bind_some _ _).symm.trans H; with_reducible exact H2_) | with_reducible exact H | (rw [hy142]; exact H) | exact H
            have Ny142 := YE hy142; clear hy142
            have H' := YE H
            clear H
            obtain ⟨Ao36, co36, eo36, _⟩ := Kd.Q_slice HO_6.out
            subst eo36
            have q37 : (1 : Int) ≤ ((x6_2.length : Int) : Int) := of_decide_eq_true (by first | (with_reducible assumption) | assumption)
            obtain ⟨i037, hi037, _, hsz37, _⟩ := info_parts info3
            have hcut37 := cut_from (P := Try.prog) 22 3 .i64 Try.underlying22 hi037 1 hsz37 Ao36 x6_2.length co36 1 (by omega) q37
            have hr37 := Kd.Q_drop (k := (1 : Int).toNat) HO_6.out (by omega)
            obtain ⟨A37, hA37⟩ : ∃ A1, A1 = (if co36 = (1 : Int).toNat then Ao36 else (Ao36 : Option Addr).map (·.add ((1 : Int).toNat * 1))) := ⟨_, rfl⟩
            obtain ⟨c37, hc37⟩ : ∃ c1, c1 = co36 - (1 : Int).toNat := ⟨_, rfl⟩
            have hy37 : y142.length = x6_2.length - (1 : Int).toNat := (by rw [Ny142.out, List.length_drop])
            rw [← Ny142.out] at hr37
            rw [← hy37, ← hA37, ← hc37] at hcut37
            replace hr37 : Kd.Q (Kd.int .i64) 3 wr w.heap.size (fun k_ => some k_ ≠ (.slice (some ⟨go6, 0, none⟩) x5_2.length co6 : Value).ownBlock) (.slice A37 y142.length c37) y142 := (by rw [hA37, hc37, hy37]; exact hr37)
            have HE37 : Aside0 ((Value.slice A37 y142.length c37).ownBlock = (.slice Ao36 x6_2.length co36 : Value).ownBlock) := ⟨by rw [hA37]; split <;> (cases (Ao36 : Option Addr) <;> rfl)⟩
            clear hy37 hi037 hsz37 HO_6 hA37 hc37; have HO144 := YE hr37; clear hr37
            replace q37 := eq_true q37
            have n_ := YE (Kd.R_mono (ok' := fun k_ => some k_ ≠ (.slice A37 y142.length c37 : Value).ownBlock) HO_5.out (fun k_ hk => (by rw [HE37.out]; exact hk)))
            clear HO_5; have HO_5 := n_; clear n_
            go_wp2
            (try simp only [← hl5_1, ← hl5_2])
            go_roundg k2
            case measure => have := HK1.out; have := HK2.out; omega
            case rel => exact ⟨(x5_2), (y142), H', ⟨by have := HK1.out; have := HK2.out; omega⟩, ⟨by (try simp only [hl5_1]); (try simp only [hl5_2]); (with_reducible repeat (first | apply YF | apply YG | apply YH)); exact HO_5.out⟩, ⟨by (try simp only [hl5_1]); (try simp only [hl5_2]); (with_reducible repeat (first | apply Kd.Q_alloc | apply Kd.Q_drewN | apply Kd.Q_drew)); exact HO144.out⟩, ⟨by repeat (first | (with_reducible first | exact HB.out | apply YA | apply YB | apply YC) | exact HB.out)⟩⟩
      rw [if_neg c15] at H
      have c15b0 : decide (0 < (x6_1.length : Int)) = false := decide_eq_false c15
      have c15b1 : decide (0 < x6_1.length) = false := decide_eq_false (by omega)
      clear c15
      obtain rfl := Option.some.inj H
      obtain ⟨Ao38, co38, eo38, _⟩ := Kd.Q_slice HO_6.out
      subst eo38
      go_wp2
      go_ret
      exact ⟨_, by first | rfl | (simp [errW_none, errW_some] <;> rfl) | (simp [*, errW_none, errW_some] <;> rfl), by (with_reducible repeat (first | apply YF | apply YG | apply YH)); exact Kd.R_mono HO_5.out (fun _ hk => trivial), by repeat (first | (with_reducible first | exact HB.out | apply YA | apply YB | apply YC) | exact HB.out)⟩

end Go.Proofs.Ytbejdbgcfgllhaa.P
