/- Layer 11: WheelDoes. -/
import Derived.Test.YtljajnednggebaaEwm
namespace Go.Proofs.Ytljajnednggebaa.P
set_option linter.unusedSimpArgs false
set_option linter.unusedVariables false
open Go.RowKit Go.Maps Go.Proofs.YtljajnednggebaaW.PrintWords Go.Proofs.YtljajnednggebaaW.PrintLast Go.Proofs.YtljajnednggebaaW.PrintMore
open Classical
theorem wf_small {i : Int} (h0 : 0 ≤ i) (h1 : i ≤ 1000000) : wf64 i := by
  show (decide (IntKind.i64.min ≤ i) && decide (i ≤ IntKind.i64.max)) = true
  rw [Bool.and_eq_true, decide_eq_true_eq, decide_eq_true_eq]
  refine ⟨Int.le_trans (show IntKind.i64.min ≤ 0 by decide) h0, Int.le_trans h1 (show (1000000 : Int) ≤ IntKind.i64.max by decide)⟩
section
variable {w0 w : World} {E : Nat → Option Obj} {g N x : Nat} {L Lr : List S35}
theorem jset_v (h : J2 w0 w E g N L x Lr) (hN : N ≤ 1000000000) (key t : Int) (hk : wf64 key) (ht : wf64 t) {v : Int} (hv : setE L key t = v) :
    Calls Try.prog 10 #[.pointer (some ⟨g, 0, none⟩), .int .i64 key, .int .i64 t] w fun e w' => e = .returned (.int .i64 v) ∧ J2 w0 w' E g (N + 1) (setR L key t) x Lr := by
  subst hv
  exact jset h hN key t hk ht
theorem jrset_v (h : J2 w0 w E g N L x Lr) (hl : Lr.length ≤ 1024) (key t : Int) {v : Int} (hv : setE Lr key t = v) :
    Calls Try.prog 16 #[.pointer (some ⟨x, 0, none⟩), .int .i64 key, .int .i64 t] w fun e w' => e = .returned (.int .i64 v) ∧ J2 w0 w' E g N L x (setR Lr key t) := by
  subst hv
  exact jrset h hl key t
theorem jstop_v (h : J2 w0 w E g N L x Lr) (key : Int) (hk : wf64 key) {v : Int} (hv : (if (tm L key).isSome then 0 else 7) = v) :
    Calls Try.prog 17 #[.pointer (some ⟨g, 0, none⟩), .int .i64 key] w fun e w' => e = .returned (.int .i64 v) ∧ J2 w0 w' E g N (dropL L key) x Lr := by
  subst hv
  exact jstop h key hk
theorem jrstop_v (h : J2 w0 w E g N L x Lr) (hl : Lr.length ≤ 1024) (key : Int) {v : Int} (hv : (if (tm Lr key).isSome then 0 else 7) = v) :
    Calls Try.prog 18 #[.pointer (some ⟨x, 0, none⟩), .int .i64 key] w fun e w' => e = .returned (.int .i64 v) ∧ J2 w0 w' E g N L x (dropL Lr key) := by
  subst hv
  exact jrstop h hl key
end
/-- what the first loop has laid -/
def In1 (L : List S35) (i : Int) : Prop := (∀ o ∈ L, o.f0 = 1000 ∧ o.f1 < i) ∧ (i < 1024 → (L.length : Int) = i) ∧ (¬ i < 1024 → L.length = 1024)
theorem In1.nil : In1 [] 0 := ⟨fun o h => by simp at h, fun _ => rfl, fun h => by omega⟩
section
variable {L : List S35} {i : Int}
theorem In1.none_ (h : In1 L i) : tm L i = none := (tm_none L).2 (fun o ho => by have := (h.1 o ho).2; omega)
theorem In1.yes (h : In1 L i) (h0 : 0 ≤ i) (hi : i < 1024) : setE L i 1000 = 0 ∧ setR L i 1000 = L ++ [⟨1000, i⟩] := by
  have hl := h.2.1 hi
  have he : setE L i 1000 = 0 := by
    unfold setE
    rw [if_neg (by omega), if_neg (by omega)]
  refine ⟨he, ?_⟩
  rw [show setR L i 1000 = setL L i 1000 by unfold setR; rw [if_pos he]]
  unfold setL
  rw [drop_none h.none_]
  exact putL_all L (fun o ho => .inr (h.1 o ho))
theorem In1.no (h : In1 L i) (hi : ¬ i < 1024) : setE L i 1000 = 8 ∧ setR L i 1000 = L := by
  have hl := h.2.2 hi
  have he : setE L i 1000 = 8 := by
    unfold setE
    rw [if_neg (by omega), if_pos ⟨h.none_, by omega⟩]
  refine ⟨he, ?_⟩
  unfold setR
  rw [he]
  rfl
theorem In1.next (h : In1 L i) (h0 : 0 ≤ i) (hi : i < 1024) : In1 (L ++ [⟨1000, i⟩]) (i + 1) := by
  have hl := h.2.1 hi
  refine ⟨fun o ho => ?_, fun _ => by rw [List.length_append]; simp; omega, fun hh => by rw [List.length_append]; simp; omega⟩
  rcases List.mem_append.1 ho with ho | ho
  · exact ⟨(h.1 o ho).1, by have := (h.1 o ho).2; omega⟩
  · rw [List.mem_singleton.1 ho]
    exact ⟨rfl, by show i < i + 1; omega⟩
theorem In1.stay (h : In1 L i) (hi : ¬ i < 1024) : In1 L (i + 1) :=
  ⟨fun o ho => ⟨(h.1 o ho).1, by have := (h.1 o ho).2; omega⟩, fun hh => by omega, fun _ => h.2.2 hi⟩
end
noncomputable def thalweglaw11_WheelDoes.f (a0 : Int) (l1 : List S29) : Option Bool := if OkS l1 then some true else none
def wde.T24 : Bool × List (List Nat × List Nat) := (true, [([], []), ([], []), ([1], [1]), ([], []), ([3], [3]), ([0, 2, 4], [0, 2, 4]), ([], []), ([], []), ([7], [7]), ([], []), ([9], [9]), ([6, 8, 10, 5], [6, 8, 10]), ([5, 11], [5, 11]), ([12, 11, 0, 1, 2, 3, 4, 5, 6, 7, 8, 9, 10, 11, 12], [12])])
def wde.B24 : List Nat := [0, 0, 2, 0, 8, 31, 0, 0, 128, 0, 512, 2047, 4095, 8191]
theorem wde.tab24 : rtab .any (opsOf Try.f5 24) = wde.T24 := by kernel_rfl
theorem wde.bits24 : waitsOk wde.T24.2 wde.B24 = true := by kernel_rfl
def wde.T26 : Bool × List (List Nat × List Nat) := (true, [([], []), ([], []), ([1], [1]), ([0, 2], [0, 2]), ([], []), ([], []), ([5], [5]), ([4, 6, 3], [4, 6]), ([3, 7], [3, 7]), ([8, 7, 0, 1, 2, 3, 4, 5, 6, 7, 8], [8])])
def wde.B26 : List Nat := [0, 0, 2, 7, 0, 0, 32, 127, 255, 511]
theorem wde.tab26 : rtab .any (opsOf Try.f5 26) = wde.T26 := by kernel_rfl
theorem wde.bits26 : waitsOk wde.T26.2 wde.B26 = true := by kernel_rfl
def wde.T28 : Bool × List (List Nat × List Nat) := (true, [([], []), ([], []), ([1], [1]), ([0, 2], [0, 2]), ([], []), ([], []), ([5], [5]), ([4, 6, 3], [4, 6]), ([3, 7, 7], [3, 7]), ([8, 8, 0, 1, 2, 3, 4, 5, 6, 7, 8], [8])])
def wde.B28 : List Nat := [0, 0, 2, 7, 0, 0, 32, 127, 255, 511]
theorem wde.tab28 : rtab .any (opsOf Try.f5 28) = wde.T28 := by kernel_rfl
theorem wde.bits28 : waitsOk wde.T28.2 wde.B28 = true := by kernel_rfl
def wde.T29 : Bool × List (List Nat × List Nat) := (true, [([], []), ([0], [0]), ([1], [1]), ([2], [2]), ([3, 2, 2], [2, 3]), ([2], [2]), ([5, 2], [2, 5]), ([6, 2], [2, 6]), ([7, 2], [2, 7]), ([4, 8, 4, 2], [2, 4, 8]), ([9, 2], [2, 9]), ([2, 10], [2, 10])])
def wde.B29 : List Nat := [0, 1, 3, 7, 15, 7, 39, 103, 231, 511, 1023, 2047]
theorem wde.tab29 : rtab .any (opsOf Try.f5 29) = wde.T29 := by kernel_rfl
theorem wde.bits29 : waitsOk wde.T29.2 wde.B29 = true := by kernel_rfl
set_option maxHeartbeats 8000000 in
set_option maxRecDepth 100000 in
theorem does_low (A0 : Option Addr) (c0 : Nat) (a0 : Int) (l0 : List S29) (w : World) (hr0 : Kd.C k29 w A0 l0.length l0) (hc0 : l0.length ≤ c0) (hos : OkS l0) (hq : (l0.length : Int) ≤ 150 ∧ 0 ≤ a0 ∧ a0 ≤ 1030) (q1 : decide ((l0.length : Int) > 150) = false) (q2 : decide (a0 < 0) = false) (q3 : decide (a0 > 40) = false) (q5 : decide (a0 > 1030) = false) :
    Calls Try.prog 5 #[.int .i64 a0, .slice A0 l0.length c0] w fun e w' => e = .returned (.bool true) ∧ Below w.heap.size w w' := by
  have hnot : ∀ (x : Bool) (w : World), (Op.unary .not (.bool x)).run Try.prog w = .ok (.bool (!x)) w := fun _ _ => rfl
  have HOS := Aside0.mk hos
  have HR0 := Aside0.mk hr0
  have HQ := Aside0.mk hq
  clear hos hr0 hc0 hq
  go_enter Try.func5, Try.ntmps5
  go_wp2_with (first
    | (go_at_call 8; (with_reducible refine (new_w (Below.refl _ _)).mono ?_); rintro x_ w1 ⟨g, rfl, hn, hb⟩; have M0 := Aside0.mk hn; clear hn hb)
    | ((with_reducible refine gate_dst (N := 38) rfl ?_); refine box_event ?hg (N := 38) ?hd (cs := #[.slice none 0 0]) (t := 44) ?hr ?_; (case hd => rfl); (case hg => rfl); (case hr => first | (go_simp; done) | (go_simp; rfl) | rfl | kernel_rfl); intro x hx w2 hbox hb; have J0 := Aside0.mk (J1.new M0.out hx hb hbox); clear hx hb hbox))
  go_loopg [7] a0.toNat (fun kq v7 wq => ∃ (i : Int), v7 = .int .i64 i ∧ Aside0 (0 ≤ i) ∧ Aside0 (i + kq = a0) ∧ Aside0 (∃ L, J1 w wq g i.toNat L x L ∧ In1 L i))
  case atStart => exact ⟨0, rfl, ⟨by omega⟩, ⟨by have := HQ.out; omega⟩, ⟨[], J0.out, In1.nil⟩⟩
  case round =>
  obtain ⟨i, rfl, H0, HI, SS⟩ := hrel
  obtain ⟨L, hj, hin⟩ := SS.out
  have JJ := Aside0.mk hj
  have HIN := Aside0.mk hin
  clear SS hj hin J0
  cases gk with
  | zero =>
    have hm : decide (i < a0) = false := decide_eq_false (by have := HI.out; omega)
    have J00 := Aside0.mk JJ.out.j2
    clear JJ HIN
    go_wp2
    go_loopg [8] l0.length (fun kq v8 wq => ∃ (y : Int), v8 = .int .i64 y ∧ Aside0 (0 ≤ y) ∧ Aside0 (y + kq = l0.length) ∧ Aside0 (∃ L, J2 w wq (fun _ => none) g (i.toNat + y.toNat) L x L))
    case atStart => exact ⟨0, rfl, ⟨by omega⟩, ⟨by omega⟩, ⟨L, J00.out⟩⟩
    case round =>
    have HNI := Aside0.mk (show i.toNat ≤ 1030 by have := HI.out; have := HQ.out; omega)
    clear J00 hm HI H0
    obtain ⟨y, rfl, H0, HI, SS⟩ := hrel
    obtain ⟨L, hj⟩ := SS.out
    have JJ := Aside0.mk hj
    have HLL := Aside0.mk hj.ok.2.2.2
    clear SS hj
    cases gk with
    | zero =>
      have hn : decide (y < (l0.length : Int)) = false := decide_eq_false (by have := HI.out; omega)
      go_wp2_with (go_at_call 9; (with_reducible refine (awake_x _).mono ?_); rintro x_ w9 ⟨rfl, hb⟩; have B9 := Aside0.mk (JJ.out.below hb); clear hb)
      go_ret
      exact ⟨rfl, B9.out.bl⟩
    | succ k1 =>
      have hlt := (show y < (l0.length : Int) by have := HI.out; omega)
      have h0 := H0.out
      have hd : decide (y < (l0.length : Int)) = true := decide_eq_true hlt
      have hw : wrap64 (y + 1) = y + 1 := w64 (by omega) (by have := HQ.out; omega)
      have HNB := Aside0.mk (show i.toNat + y.toNat ≤ 1000000000 by have := HQ.out; have := HNI.out; omega)
      have HWK := Aside0.mk (HOS.out.at h0 hlt)
      obtain ⟨ad, e_, x0, x1, x2⟩ := at_T29 (Kd.C_below HR0.out JJ.out.bl) y h0 hlt
      cases e_
      have h0t := eq_true h0
      have hltt := eq_true hlt
      by_cases g0 : (rd_T29 l0 y).f0 = 0
      · have p0 : ((rd_T29 l0 y).f0 == 0) = true := beq_iff_eq.mpr g0
        obtain ⟨v, hv⟩ : ∃ v, setE L (rd_T29 l0 y).f1 (rd_T29 l0 y).f2 = v := ⟨_, rfl⟩
        have HV := Aside0.mk hv
        have hvv : (v == v) = true := beq_self_eq_true v
        clear g0 hv
        go_upto_region 24 with ((with_reducible refine gate_dst (N := 9) rfl ?_); refine box_event ?hg (N := 9) ?hd (cs := #[.int .i64 0, .int .i64 0, .int .i64 0]) (t := 29) ?hr ?_; (case hd => rfl); (case hg => rfl); (case hr => first | (go_simp; done) | (go_simp; rfl)); intro gt hg w3 hbox hb; have BT3 := Aside0.mk (blk_put (blk_put (blk_put hbox 0 (.int .i64 (rd_T29 l0 y).f0) (cs' := #[.int .i64 (rd_T29 l0 y).f0, .int .i64 0, .int .i64 0]) rfl) 1 (.int .i64 (rd_T29 l0 y).f1) (cs' := #[.int .i64 (rd_T29 l0 y).f0, .int .i64 (rd_T29 l0 y).f1, .int .i64 0]) rfl) 2 (.int .i64 (rd_T29 l0 y).f2) (cs' := #[.int .i64 (rd_T29 l0 y).f0, .int .i64 (rd_T29 l0 y).f1, .int .i64 (rd_T29 l0 y).f2]) rfl); have JE := Aside0.mk (JJ.out.more hg (show Below wr.heap.size wr (((w3.setCell ⟨gt, 0, none⟩ (.int .i64 (rd_T29 l0 y).f0)).setCell ⟨gt, 1, none⟩ (.int .i64 (rd_T29 l0 y).f1)).setCell ⟨gt, 2, none⟩ (.int .i64 (rd_T29 l0 y).f2)) from below_set (below_set (below_set hb (Nat.le_of_eq hg.symm)) (Nat.le_of_eq hg.symm)) (Nat.le_of_eq hg.symm)) BT3.out); have a0 := (blk_cell hbox 0).trans rfl; have a1 := (blk_cell hbox 1).trans rfl; have a2 := (blk_cell hbox 2).trans rfl; have af0 := blk_frozen hbox 0; have af1 := blk_frozen hbox 1; have af2 := blk_frozen hbox 2; have b0 := (blk_cell BT3.out 0).trans rfl; have b1 := (blk_cell BT3.out 1).trans rfl; have b2 := (blk_cell BT3.out 2).trans rfl; clear hb hbox hg)
        refine start_ (n := 14) (S := fun w' => w'.cell? ⟨gt, 1, none⟩ = some (.int .i64 (rd_T29 l0 y).f1) ∧ w'.cell? ⟨gt, 2, none⟩ = some (.int .i64 (rd_T29 l0 y).f2)) (ds := [11]) #[false, false, false, false, false, false, false, false, false, false, false, false, false, false] (by kernel_rfl) rfl rfl ⟨b1, b2⟩ (fun hHeld => ?_); refine with_tabW wde.tab24 wde.bits24 (fun HT_ HW_ => ?_)
        refine pure_ (i := 0) (N := some 101) (v := ?_) (a' := ?_) #[true, false, false, false, false, false, false, false, false, false, false, false, false, false] rfl rfl (any_of HT_.out (by kernel_rfl)) (fun _ _ _ h => h) (Or.inl ⟨by rfl, ?_⟩) ?_ ?_
        rotate_left
        · intro w'
          go_simp
          with_reducible rfl
        rotate_left
        · simp only [Act.put, List.setIfInBounds_toArray, List.set_cons_zero, List.set_cons_succ, i64_w, i32_w]
          rfl
        refine pure_ (i := 1) (N := some 102) (v := ?_) (a' := ?_) #[true, true, false, false, false, false, false, false, false, false, false, false, false, false] rfl rfl (any_of HT_.out (by kernel_rfl)) (fun _ _ _ h => h) (Or.inl ⟨by rfl, ?_⟩) ?_ ?_
        rotate_left
        · intro w'
          go_simp
          with_reducible rfl
        rotate_left
        · simp only [Act.put, List.setIfInBounds_toArray, List.set_cons_zero, List.set_cons_succ, i64_w, i32_w]
          rfl
        refine pure_ (i := 3) (N := some 104) (v := ?_) (a' := ?_) #[true, true, false, true, false, false, false, false, false, false, false, false, false, false] rfl rfl (any_of HT_.out (by kernel_rfl)) (fun _ _ _ h => h) (Or.inl ⟨by rfl, ?_⟩) ?_ ?_
        rotate_left
        · intro w'
          go_simp
          with_reducible rfl
        rotate_left
        · simp only [Act.put, List.setIfInBounds_toArray, List.set_cons_zero, List.set_cons_succ, i64_w, i32_w]
          rfl
        refine pure_ (i := 6) (N := some 107) (v := ?_) (a' := ?_) #[true, true, false, true, false, false, true, false, false, false, false, false, false, false] rfl rfl (any_of HT_.out (by kernel_rfl)) (fun _ _ _ h => h) (Or.inl ⟨by rfl, ?_⟩) ?_ ?_
        rotate_left
        · intro w'
          go_simp
          with_reducible rfl
        rotate_left
        · simp only [Act.put, List.setIfInBounds_toArray, List.set_cons_zero, List.set_cons_succ, i64_w, i32_w]
          rfl
        refine pure_ (i := 7) (N := some 108) (v := ?_) (a' := ?_) #[true, true, false, true, false, false, true, true, false, false, false, false, false, false] rfl rfl (any_of HT_.out (by kernel_rfl)) (fun _ _ _ h => h) (Or.inl ⟨by rfl, ?_⟩) ?_ ?_
        rotate_left
        · intro w'
          go_simp
          with_reducible rfl
        rotate_left
        · simp only [Act.put, List.setIfInBounds_toArray, List.set_cons_zero, List.set_cons_succ, i64_w, i32_w]
          rfl
        refine pure_ (i := 9) (N := some 110) (v := ?_) (a' := ?_) #[true, true, false, true, false, false, true, true, false, true, false, false, false, false] rfl rfl (any_of HT_.out (by kernel_rfl)) (fun _ _ _ h => h) (Or.inl ⟨by rfl, ?_⟩) ?_ ?_
        rotate_left
        · intro w'
          go_simp
          with_reducible rfl
        rotate_left
        · simp only [Act.put, List.setIfInBounds_toArray, List.set_cons_zero, List.set_cons_succ, i64_w, i32_w]
          rfl
        refine take_ (i := 2) (N := some 103) (v := ?_) (a' := ?_) #[true, true, true, true, false, false, true, true, false, true, false, false, false, false] rfl rfl (take_ofW HT_.out HW_.out (by kernel_rfl)) (fun _ _ _ h => h) (Or.inl ⟨by rfl, ?_⟩) hHeld ?_ ?_
        rotate_left
        · rintro w' ⟨s0, s1⟩
          go_simp
          with_reducible rfl
        rotate_left
        · simp only [Act.put, List.setIfInBounds_toArray, List.set_cons_zero, List.set_cons_succ, i64_w, i32_w]
          rfl
        refine take_ (i := 4) (N := some 105) (v := ?_) (a' := ?_) #[true, true, true, true, true, false, true, true, false, true, false, false, false, false] rfl rfl (take_ofW HT_.out HW_.out (by kernel_rfl)) (fun _ _ _ h => h) (Or.inl ⟨by rfl, ?_⟩) hHeld ?_ ?_
        rotate_left
        · rintro w' ⟨s0, s1⟩
          go_simp
          with_reducible rfl
        rotate_left
        · simp only [Act.put, List.setIfInBounds_toArray, List.set_cons_zero, List.set_cons_succ, i64_w, i32_w]
          rfl
        refine take_ (i := 8) (N := some 109) (v := ?_) (a' := ?_) #[true, true, true, true, true, false, true, true, true, true, false, false, false, false] rfl rfl (take_ofW HT_.out HW_.out (by kernel_rfl)) (fun _ _ _ h => h) (Or.inl ⟨by rfl, ?_⟩) hHeld ?_ ?_
        rotate_left
        · rintro w' ⟨s0, s1⟩
          go_simp
          with_reducible rfl
        rotate_left
        · simp only [Act.put, List.setIfInBounds_toArray, List.set_cons_zero, List.set_cons_succ, i64_w, i32_w]
          rfl
        refine take_ (i := 10) (N := some 111) (v := ?_) (a' := ?_) #[true, true, true, true, true, false, true, true, true, true, true, false, false, false] rfl rfl (take_ofW HT_.out HW_.out (by kernel_rfl)) (fun _ _ _ h => h) (Or.inl ⟨by rfl, ?_⟩) hHeld ?_ ?_
        rotate_left
        · rintro w' ⟨s0, s1⟩
          go_simp
          with_reducible rfl
        rotate_left
        · simp only [Act.put, List.setIfInBounds_toArray, List.set_cons_zero, List.set_cons_succ, i64_w, i32_w]
          rfl
        refine one_ (i := 5) (N := some 106) #[true, true, true, true, true, true, true, true, true, true, true, false, false, false] rfl rfl (one_of HT_.out (by kernel_rfl)) (by decide) (fun K hK => ?_)
        refine goes_ Try.func10 (by kernel_rfl) rfl #[.pointer (some ⟨g, 0, none⟩), .int .i64 (rd_T29 l0 y).f1, .int .i64 (rd_T29 l0 y).f2] (by rfl) rfl rfl (by simp only [List.map_toArray, List.map_cons, List.map_nil]; rfl) ?_
        with_reducible refine (jset_v JE.out.drew HNB.out _ _ HWK.out.1 HWK.out.2 HV.out).mono ?_
        rintro e w5 ⟨rfl, hn⟩
        refine ⟨_, rfl, ?_⟩
        have J5 := Aside0.mk hn
        clear hn
        refine hK.out _ _ ⟨(blk_cell (J5.out.extra (ex_at _ _)) 1).trans rfl, (blk_cell (J5.out.extra (ex_at _ _)) 2).trans rfl⟩ (fun hHeld => ?_)
        clear hK K
        refine norm_ (a' := ?_) ?_ ?_
        rotate_left
        · show Act.put _ (some 106) _ = _
          simp only [Act.put, List.setIfInBounds_toArray, List.set_cons_zero, List.set_cons_succ, i64_w, i32_w]
          rfl
        refine last_ (i := 11) (N := some 112) #[true, true, true, true, true, true, true, true, true, true, true, true, false, false] rfl rfl (one_of HT_.out (by kernel_rfl)) (by decide) (fun K hK => ?_)
        refine goes_ Try.func16 (by kernel_rfl) rfl #[.pointer (some ⟨x, 0, none⟩), .int .i64 (rd_T29 l0 y).f1, .int .i64 (rd_T29 l0 y).f2] (by rfl) rfl rfl (by simp only [List.map_toArray, List.map_cons, List.map_nil]; rfl) ?_
        with_reducible refine (jrset_v J5.out HLL.out _ _ HV.out).mono ?_
        rintro e w6 ⟨rfl, hn⟩
        refine ⟨_, rfl, ?_⟩
        have JQ := Aside0.mk hn
        clear hn
        refine hK.out _ _ ?_
        clear hK K
        refine norm_ (a' := ?_) ?_ ?_
        rotate_left
        · show Act.put _ (some 112) _ = _
          simp only [Act.put, List.setIfInBounds_toArray, List.set_cons_zero, List.set_cons_succ, i64_w, i32_w]
          rfl
        refine pure_ (i := 12) (N := some 113) (v := ?_) (a' := ?_) #[true, true, true, true, true, true, true, true, true, true, true, true, true, false] rfl rfl (any_of HT_.out (by kernel_rfl)) (fun _ _ _ h => h) (Or.inl ⟨by rfl, ?_⟩) ?_ ?_
        rotate_left
        · intro w'
          go_simp
          with_reducible rfl
        rotate_left
        · simp only [Act.put, List.setIfInBounds_toArray, List.set_cons_zero, List.set_cons_succ, i64_w, i32_w]
          rfl
        refine pure_ (i := 13) (N := some 10) (v := ?_) (a' := ?_) #[true, true, true, true, true, true, true, true, true, true, true, true, true, true] rfl rfl (any_of HT_.out (by kernel_rfl)) (fun _ _ _ h => h) (Or.inl ⟨by rfl, ?_⟩) ?_ ?_
        rotate_left
        · intro w'
          go_simp
          with_reducible rfl
        rotate_left
        · simp only [Act.put, List.setIfInBounds_toArray, List.set_cons_zero, List.set_cons_succ, i64_w, i32_w]
          rfl
        refine done_ (done_of HT_.out (by kernel_rfl)) ?_
        go_wp2
        have hln := JQ.out.ok.2.2.2
        obtain ⟨Ar, cr, hbx, hrc, hCr⟩ := JQ.out.seen
        obtain ⟨nn, hnn⟩ : ∃ nn, (setR L (rd_T29 l0 y).f1 (rd_T29 l0 y).f2).length = nn := ⟨_, rfl⟩
        rw [hnn] at hbx hrc hCr hln
        have HLN := Aside0.mk hnn
        have HLM := Aside0.mk (show nn ≤ 1000000000000 by omega)
        have HCR := Aside0.mk hCr
        have HRC := Aside0.mk hrc
        have z0 := (blk_cell hbx 0).trans rfl
        clear hbx hrc hCr hnn hln
        go_upto_region 29 with (fail)
        refine start_ (n := 12) (S := fun w' => w'.cell? ⟨x, 0, none⟩ = some (.slice Ar nn cr)) (ds := [9]) #[false, false, false, false, false, false, false, false, false, false, false, false] (by kernel_rfl) rfl rfl (z0) (fun hHeld => ?_); refine with_tabW wde.tab29 wde.bits29 (fun HT_ HW_ => ?_)
        refine pure_ (i := 0) (N := some 136) (v := ?_) (a' := ?_) #[true, false, false, false, false, false, false, false, false, false, false, false] rfl rfl (any_of HT_.out (by kernel_rfl)) (fun _ _ _ h => h) (Or.inl ⟨by rfl, ?_⟩) ?_ ?_
        rotate_left
        · intro w'
          go_simp
          with_reducible rfl
        rotate_left
        · simp only [Act.put, List.setIfInBounds_toArray, List.set_cons_zero, List.set_cons_succ, i64_w, i32_w]
          rfl
        refine pure_ (i := 1) (N := some 137) (v := ?_) (a' := ?_) #[true, true, false, false, false, false, false, false, false, false, false, false] rfl rfl (any_of HT_.out (by kernel_rfl)) (fun _ _ _ h => h) (Or.inl ⟨by rfl, ?_⟩) ?_ ?_
        rotate_left
        · intro w'
          go_simp
          with_reducible rfl
        rotate_left
        · simp only [Act.put, List.setIfInBounds_toArray, List.set_cons_zero, List.set_cons_succ, i64_w, i32_w]
          rfl
        refine pure_ (i := 2) (N := some 138) (v := ?_) (a' := ?_) #[true, true, true, false, false, false, false, false, false, false, false, false] rfl rfl (any_of HT_.out (by kernel_rfl)) (fun _ _ _ h => h) (Or.inl ⟨by rfl, ?_⟩) ?_ ?_
        rotate_left
        · intro w'
          go_simp
          with_reducible rfl
        rotate_left
        · simp only [Act.put, List.setIfInBounds_toArray, List.set_cons_zero, List.set_cons_succ, i64_w, i32_w]
          rfl
        refine pure_ (i := 3) (N := some 139) (v := ?_) (a' := ?_) #[true, true, true, true, false, false, false, false, false, false, false, false] rfl rfl (any_of HT_.out (by kernel_rfl)) (fun _ _ _ h => h) (Or.inl ⟨by rfl, ?_⟩) ?_ ?_
        rotate_left
        · intro w'
          go_simp
          with_reducible rfl
        rotate_left
        · simp only [Act.put, List.setIfInBounds_toArray, List.set_cons_zero, List.set_cons_succ, i64_w, i32_w]
          rfl
        refine pure_ (i := 5) (N := some 141) (v := ?_) (a' := ?_) #[true, true, true, true, false, true, false, false, false, false, false, false] rfl rfl (any_of HT_.out (by kernel_rfl)) (fun _ _ _ h => h) (Or.inl ⟨by rfl, ?_⟩) ?_ ?_
        rotate_left
        · intro w'
          go_simp
          with_reducible rfl
        rotate_left
        · simp only [Act.put, List.setIfInBounds_toArray, List.set_cons_zero, List.set_cons_succ, i64_w, i32_w]
          rfl
        refine pure_ (i := 6) (N := some 142) (v := ?_) (a' := ?_) #[true, true, true, true, false, true, true, false, false, false, false, false] rfl rfl (any_of HT_.out (by kernel_rfl)) (fun _ _ _ h => h) (Or.inl ⟨by rfl, ?_⟩) ?_ ?_
        rotate_left
        · intro w'
          go_simp
          with_reducible rfl
        rotate_left
        · simp only [Act.put, List.setIfInBounds_toArray, List.set_cons_zero, List.set_cons_succ, i64_w, i32_w]
          rfl
        refine pure_ (i := 7) (N := some 143) (v := ?_) (a' := ?_) #[true, true, true, true, false, true, true, true, false, false, false, false] rfl rfl (any_of HT_.out (by kernel_rfl)) (fun _ _ _ h => h) (Or.inl ⟨by rfl, ?_⟩) ?_ ?_
        rotate_left
        · intro w'
          go_simp
          with_reducible rfl
        rotate_left
        · simp only [Act.put, List.setIfInBounds_toArray, List.set_cons_zero, List.set_cons_succ, i64_w, i32_w]
          rfl
        refine take_ (i := 8) (N := some 144) (v := ?_) (a' := ?_) #[true, true, true, true, false, true, true, true, true, false, false, false] rfl rfl (take_ofW HT_.out HW_.out (by kernel_rfl)) (fun _ _ _ h => h) (Or.inl ⟨by rfl, ?_⟩) hHeld ?_ ?_
        rotate_left
        · intro w' s0
          go_simp
          with_reducible rfl
        rotate_left
        · simp only [Act.put, List.setIfInBounds_toArray, List.set_cons_zero, List.set_cons_succ, i64_w, i32_w]
          rfl
        refine one_ (i := 4) (N := some 140) #[true, true, true, true, true, true, true, true, true, false, false, false] rfl rfl (one_of HT_.out (by kernel_rfl)) (by decide) (fun K hK => ?_)
        refine goes_ Try.func11 (by kernel_rfl) rfl #[.pointer (some ⟨g, 0, none⟩)] (by rfl) rfl rfl (by simp only [List.map_toArray, List.map_cons, List.map_nil]; rfl) ?_
        with_reducible refine (jlist JQ.out.drew HLN.out).mono ?_
        rintro e w8 ⟨A8, c8, rfl, hC, hlc, hn, hb⟩
        refine ⟨_, rfl, ?_⟩
        have J8 := Aside0.mk hn
        have HC8 := Aside0.mk hC
        have HL8 := Aside0.mk hlc
        have HB8 := Aside0.mk hb
        clear hn hC hlc
        refine hK.out _ _ ((hb.cell (World.block_lt_of_cell? _ _ hHeld)).trans hHeld) (fun hHeld => ?_)
        clear hK K
        refine norm_ (a' := ?_) ?_ ?_
        rotate_left
        · show Act.put _ (some 140) _ = _
          simp only [Act.put, List.setIfInBounds_toArray, List.set_cons_zero, List.set_cons_succ, i64_w, i32_w]
          rfl
        refine last_ (i := 9) (N := some 145) #[true, true, true, true, true, true, true, true, true, true, false, false] rfl rfl (one_of HT_.out (by kernel_rfl)) (by decide) (fun K hK => ?_)
        refine goes_ Try.func15 (by kernel_rfl) rfl #[.slice A8 nn c8, .slice Ar nn cr] (by rfl) rfl rfl (by simp only [List.map_toArray, List.map_cons, List.map_nil]; rfl) ?_
        with_reducible refine (same_n HC8.out HL8.out (Kd.C_below (Kd.C_drew HCR.out) HB8.out) HRC.out HLN.out HLM.out).mono ?_
        rintro e w9 ⟨rfl, hd⟩
        refine ⟨_, rfl, ?_⟩
        have J9 := Aside0.mk (J8.out.below (drawn_below hd))
        clear hd
        refine hK.out _ _ ?_
        clear hK K
        refine norm_ (a' := ?_) ?_ ?_
        rotate_left
        · show Act.put _ (some 145) _ = _
          simp only [Act.put, List.setIfInBounds_toArray, List.set_cons_zero, List.set_cons_succ, i64_w, i32_w]
          rfl
        refine pure_ (i := 10) (N := some 146) (v := ?_) (a' := ?_) #[true, true, true, true, true, true, true, true, true, true, true, false] rfl rfl (any_of HT_.out (by kernel_rfl)) (fun _ _ _ h => h) (Or.inl ⟨by rfl, ?_⟩) ?_ ?_
        rotate_left
        · intro w'
          go_simp
          with_reducible rfl
        rotate_left
        · simp only [Act.put, List.setIfInBounds_toArray, List.set_cons_zero, List.set_cons_succ, i64_w, i32_w]
          rfl
        refine pure_ (i := 11) (N := some 147) (v := ?_) (a' := ?_) #[true, true, true, true, true, true, true, true, true, true, true, true] rfl rfl (any_of HT_.out (by kernel_rfl)) (fun _ _ _ h => h) (Or.inl ⟨by rfl, ?_⟩) ?_ ?_
        rotate_left
        · intro w'
          go_simp
          with_reducible rfl
        rotate_left
        · simp only [Act.put, List.setIfInBounds_toArray, List.set_cons_zero, List.set_cons_succ, i64_w, i32_w]
          rfl
        refine done_ (done_of HT_.out (by kernel_rfl)) ?_
        go_wp2
        go_roundg k1
        case measure => have := HI.out; omega
        case rel => exact ⟨y + 1, by first | rfl | simp [hw], ⟨by omega⟩, ⟨by have := HI.out; omega⟩, ⟨_, J9.out.less.wide (by have := H0.out; omega)⟩⟩
      · have p0 : ((rd_T29 l0 y).f0 == 0) = false := beq_eq_false_iff_ne.mpr g0
        by_cases g1 : (rd_T29 l0 y).f0 = 1
        · have p1 : ((rd_T29 l0 y).f0 == 1) = true := beq_iff_eq.mpr g1
          obtain ⟨v, hv⟩ : ∃ v : Int, (if (tm L (rd_T29 l0 y).f1).isSome then 0 else 7) = v := ⟨_, rfl⟩
          have HV := Aside0.mk hv
          have hvv : (v == v) = true := beq_self_eq_true v
          clear g0 g1 hv
          go_upto_region 26 with ((with_reducible refine gate_dst (N := 9) rfl ?_); refine box_event ?hg (N := 9) ?hd (cs := #[.int .i64 0, .int .i64 0, .int .i64 0]) (t := 29) ?hr ?_; (case hd => rfl); (case hg => rfl); (case hr => first | (go_simp; done) | (go_simp; rfl)); intro gt hg w3 hbox hb; have BT3 := Aside0.mk (blk_put (blk_put (blk_put hbox 0 (.int .i64 (rd_T29 l0 y).f0) (cs' := #[.int .i64 (rd_T29 l0 y).f0, .int .i64 0, .int .i64 0]) rfl) 1 (.int .i64 (rd_T29 l0 y).f1) (cs' := #[.int .i64 (rd_T29 l0 y).f0, .int .i64 (rd_T29 l0 y).f1, .int .i64 0]) rfl) 2 (.int .i64 (rd_T29 l0 y).f2) (cs' := #[.int .i64 (rd_T29 l0 y).f0, .int .i64 (rd_T29 l0 y).f1, .int .i64 (rd_T29 l0 y).f2]) rfl); have JE := Aside0.mk (JJ.out.more hg (show Below wr.heap.size wr (((w3.setCell ⟨gt, 0, none⟩ (.int .i64 (rd_T29 l0 y).f0)).setCell ⟨gt, 1, none⟩ (.int .i64 (rd_T29 l0 y).f1)).setCell ⟨gt, 2, none⟩ (.int .i64 (rd_T29 l0 y).f2)) from below_set (below_set (below_set hb (Nat.le_of_eq hg.symm)) (Nat.le_of_eq hg.symm)) (Nat.le_of_eq hg.symm)) BT3.out); have a0 := (blk_cell hbox 0).trans rfl; have a1 := (blk_cell hbox 1).trans rfl; have a2 := (blk_cell hbox 2).trans rfl; have af0 := blk_frozen hbox 0; have af1 := blk_frozen hbox 1; have af2 := blk_frozen hbox 2; have b0 := (blk_cell BT3.out 0).trans rfl; have b1 := (blk_cell BT3.out 1).trans rfl; have b2 := (blk_cell BT3.out 2).trans rfl; clear hb hbox hg)
          refine start_ (n := 10) (S := fun w' => w'.cell? ⟨gt, 1, none⟩ = some (.int .i64 (rd_T29 l0 y).f1)) (ds := [7]) #[false, false, false, false, false, false, false, false, false, false] (by kernel_rfl) rfl rfl (b1) (fun hHeld => ?_); refine with_tabW wde.tab26 wde.bits26 (fun HT_ HW_ => ?_)
          refine pure_ (i := 0) (N := some 116) (v := ?_) (a' := ?_) #[true, false, false, false, false, false, false, false, false, false] rfl rfl (any_of HT_.out (by kernel_rfl)) (fun _ _ _ h => h) (Or.inl ⟨by rfl, ?_⟩) ?_ ?_
          rotate_left
          · intro w'
            go_simp
            with_reducible rfl
          rotate_left
          · simp only [Act.put, List.setIfInBounds_toArray, List.set_cons_zero, List.set_cons_succ, i64_w, i32_w]
            rfl
          refine pure_ (i := 1) (N := some 117) (v := ?_) (a' := ?_) #[true, true, false, false, false, false, false, false, false, false] rfl rfl (any_of HT_.out (by kernel_rfl)) (fun _ _ _ h => h) (Or.inl ⟨by rfl, ?_⟩) ?_ ?_
          rotate_left
          · intro w'
            go_simp
            with_reducible rfl
          rotate_left
          · simp only [Act.put, List.setIfInBounds_toArray, List.set_cons_zero, List.set_cons_succ, i64_w, i32_w]
            rfl
          refine pure_ (i := 4) (N := some 120) (v := ?_) (a' := ?_) #[true, true, false, false, true, false, false, false, false, false] rfl rfl (any_of HT_.out (by kernel_rfl)) (fun _ _ _ h => h) (Or.inl ⟨by rfl, ?_⟩) ?_ ?_
          rotate_left
          · intro w'
            go_simp
            with_reducible rfl
          rotate_left
          · simp only [Act.put, List.setIfInBounds_toArray, List.set_cons_zero, List.set_cons_succ, i64_w, i32_w]
            rfl
          refine pure_ (i := 5) (N := some 121) (v := ?_) (a' := ?_) #[true, true, false, false, true, true, false, false, false, false] rfl rfl (any_of HT_.out (by kernel_rfl)) (fun _ _ _ h => h) (Or.inl ⟨by rfl, ?_⟩) ?_ ?_
          rotate_left
          · intro w'
            go_simp
            with_reducible rfl
          rotate_left
          · simp only [Act.put, List.setIfInBounds_toArray, List.set_cons_zero, List.set_cons_succ, i64_w, i32_w]
            rfl
          refine take_ (i := 2) (N := some 118) (v := ?_) (a' := ?_) #[true, true, true, false, true, true, false, false, false, false] rfl rfl (take_ofW HT_.out HW_.out (by kernel_rfl)) (fun _ _ _ h => h) (Or.inl ⟨by rfl, ?_⟩) hHeld ?_ ?_
          rotate_left
          · intro w' s0
            go_simp
            with_reducible rfl
          rotate_left
          · simp only [Act.put, List.setIfInBounds_toArray, List.set_cons_zero, List.set_cons_succ, i64_w, i32_w]
            rfl
          refine take_ (i := 6) (N := some 122) (v := ?_) (a' := ?_) #[true, true, true, false, true, true, true, false, false, false] rfl rfl (take_ofW HT_.out HW_.out (by kernel_rfl)) (fun _ _ _ h => h) (Or.inl ⟨by rfl, ?_⟩) hHeld ?_ ?_
          rotate_left
          · intro w' s0
            go_simp
            with_reducible rfl
          rotate_left
          · simp only [Act.put, List.setIfInBounds_toArray, List.set_cons_zero, List.set_cons_succ, i64_w, i32_w]
            rfl
          refine one_ (i := 3) (N := some 119) #[true, true, true, true, true, true, true, false, false, false] rfl rfl (one_of HT_.out (by kernel_rfl)) (by decide) (fun K hK => ?_)
          refine goes_ Try.func17 (by kernel_rfl) rfl #[.pointer (some ⟨g, 0, none⟩), .int .i64 (rd_T29 l0 y).f1] (by rfl) rfl rfl (by simp only [List.map_toArray, List.map_cons, List.map_nil]; rfl) ?_
          with_reducible refine (jstop_v JE.out.drew _ HWK.out.1 HV.out).mono ?_
          rintro e w5 ⟨rfl, hn⟩
          refine ⟨_, rfl, ?_⟩
          have J5 := Aside0.mk hn
          clear hn
          refine hK.out _ _ ((blk_cell (J5.out.extra (ex_at _ _)) 1).trans rfl) (fun hHeld => ?_)
          clear hK K
          refine norm_ (a' := ?_) ?_ ?_
          rotate_left
          · show Act.put _ (some 119) _ = _
            simp only [Act.put, List.setIfInBounds_toArray, List.set_cons_zero, List.set_cons_succ, i64_w, i32_w]
            rfl
          refine last_ (i := 7) (N := some 123) #[true, true, true, true, true, true, true, true, false, false] rfl rfl (one_of HT_.out (by kernel_rfl)) (by decide) (fun K hK => ?_)
          refine goes_ Try.func18 (by kernel_rfl) rfl #[.pointer (some ⟨x, 0, none⟩), .int .i64 (rd_T29 l0 y).f1] (by rfl) rfl rfl (by simp only [List.map_toArray, List.map_cons, List.map_nil]; rfl) ?_
          with_reducible refine (jrstop_v J5.out HLL.out _ HV.out).mono ?_
          rintro e w6 ⟨rfl, hn⟩
          refine ⟨_, rfl, ?_⟩
          have JQ := Aside0.mk hn
          clear hn
          refine hK.out _ _ ?_
          clear hK K
          refine norm_ (a' := ?_) ?_ ?_
          rotate_left
          · show Act.put _ (some 123) _ = _
            simp only [Act.put, List.setIfInBounds_toArray, List.set_cons_zero, List.set_cons_succ, i64_w, i32_w]
            rfl
          refine pure_ (i := 8) (N := some 124) (v := ?_) (a' := ?_) #[true, true, true, true, true, true, true, true, true, false] rfl rfl (any_of HT_.out (by kernel_rfl)) (fun _ _ _ h => h) (Or.inl ⟨by rfl, ?_⟩) ?_ ?_
          rotate_left
          · intro w'
            go_simp
            with_reducible rfl
          rotate_left
          · simp only [Act.put, List.setIfInBounds_toArray, List.set_cons_zero, List.set_cons_succ, i64_w, i32_w]
            rfl
          refine pure_ (i := 9) (N := some 10) (v := ?_) (a' := ?_) #[true, true, true, true, true, true, true, true, true, true] rfl rfl (any_of HT_.out (by kernel_rfl)) (fun _ _ _ h => h) (Or.inl ⟨by rfl, ?_⟩) ?_ ?_
          rotate_left
          · intro w'
            go_simp
            with_reducible rfl
          rotate_left
          · simp only [Act.put, List.setIfInBounds_toArray, List.set_cons_zero, List.set_cons_succ, i64_w, i32_w]
            rfl
          refine done_ (done_of HT_.out (by kernel_rfl)) ?_
          go_wp2
          have hln := JQ.out.ok.2.2.2
          obtain ⟨Ar, cr, hbx, hrc, hCr⟩ := JQ.out.seen
          obtain ⟨nn, hnn⟩ : ∃ nn, (dropL L (rd_T29 l0 y).f1).length = nn := ⟨_, rfl⟩
          rw [hnn] at hbx hrc hCr hln
          have HLN := Aside0.mk hnn
          have HLM := Aside0.mk (show nn ≤ 1000000000000 by omega)
          have HCR := Aside0.mk hCr
          have HRC := Aside0.mk hrc
          have z0 := (blk_cell hbx 0).trans rfl
          clear hbx hrc hCr hnn hln
          go_upto_region 29 with (fail)
          refine start_ (n := 12) (S := fun w' => w'.cell? ⟨x, 0, none⟩ = some (.slice Ar nn cr)) (ds := [9]) #[false, false, false, false, false, false, false, false, false, false, false, false] (by kernel_rfl) rfl rfl (z0) (fun hHeld => ?_); refine with_tabW wde.tab29 wde.bits29 (fun HT_ HW_ => ?_)
          refine pure_ (i := 0) (N := some 136) (v := ?_) (a' := ?_) #[true, false, false, false, false, false, false, false, false, false, false, false] rfl rfl (any_of HT_.out (by kernel_rfl)) (fun _ _ _ h => h) (Or.inl ⟨by rfl, ?_⟩) ?_ ?_
          rotate_left
          · intro w'
            go_simp
            with_reducible rfl
          rotate_left
          · simp only [Act.put, List.setIfInBounds_toArray, List.set_cons_zero, List.set_cons_succ, i64_w, i32_w]
            rfl
          refine pure_ (i := 1) (N := some 137) (v := ?_) (a' := ?_) #[true, true, false, false, false, false, false, false, false, false, false, false] rfl rfl (any_of HT_.out (by kernel_rfl)) (fun _ _ _ h => h) (Or.inl ⟨by rfl, ?_⟩) ?_ ?_
          rotate_left
          · intro w'
            go_simp
            with_reducible rfl
          rotate_left
          · simp only [Act.put, List.setIfInBounds_toArray, List.set_cons_zero, List.set_cons_succ, i64_w, i32_w]
            rfl
          refine pure_ (i := 2) (N := some 138) (v := ?_) (a' := ?_) #[true, true, true, false, false, false, false, false, false, false, false, false] rfl rfl (any_of HT_.out (by kernel_rfl)) (fun _ _ _ h => h) (Or.inl ⟨by rfl, ?_⟩) ?_ ?_
          rotate_left
          · intro w'
            go_simp
            with_reducible rfl
          rotate_left
          · simp only [Act.put, List.setIfInBounds_toArray, List.set_cons_zero, List.set_cons_succ, i64_w, i32_w]
            rfl
          refine pure_ (i := 3) (N := some 139) (v := ?_) (a' := ?_) #[true, true, true, true, false, false, false, false, false, false, false, false] rfl rfl (any_of HT_.out (by kernel_rfl)) (fun _ _ _ h => h) (Or.inl ⟨by rfl, ?_⟩) ?_ ?_
          rotate_left
          · intro w'
            go_simp
            with_reducible rfl
          rotate_left
          · simp only [Act.put, List.setIfInBounds_toArray, List.set_cons_zero, List.set_cons_succ, i64_w, i32_w]
            rfl
          refine pure_ (i := 5) (N := some 141) (v := ?_) (a' := ?_) #[true, true, true, true, false, true, false, false, false, false, false, false] rfl rfl (any_of HT_.out (by kernel_rfl)) (fun _ _ _ h => h) (Or.inl ⟨by rfl, ?_⟩) ?_ ?_
          rotate_left
          · intro w'
            go_simp
            with_reducible rfl
          rotate_left
          · simp only [Act.put, List.setIfInBounds_toArray, List.set_cons_zero, List.set_cons_succ, i64_w, i32_w]
            rfl
          refine pure_ (i := 6) (N := some 142) (v := ?_) (a' := ?_) #[true, true, true, true, false, true, true, false, false, false, false, false] rfl rfl (any_of HT_.out (by kernel_rfl)) (fun _ _ _ h => h) (Or.inl ⟨by rfl, ?_⟩) ?_ ?_
          rotate_left
          · intro w'
            go_simp
            with_reducible rfl
          rotate_left
          · simp only [Act.put, List.setIfInBounds_toArray, List.set_cons_zero, List.set_cons_succ, i64_w, i32_w]
            rfl
          refine pure_ (i := 7) (N := some 143) (v := ?_) (a' := ?_) #[true, true, true, true, false, true, true, true, false, false, false, false] rfl rfl (any_of HT_.out (by kernel_rfl)) (fun _ _ _ h => h) (Or.inl ⟨by rfl, ?_⟩) ?_ ?_
          rotate_left
          · intro w'
            go_simp
            with_reducible rfl
          rotate_left
          · simp only [Act.put, List.setIfInBounds_toArray, List.set_cons_zero, List.set_cons_succ, i64_w, i32_w]
            rfl
          refine take_ (i := 8) (N := some 144) (v := ?_) (a' := ?_) #[true, true, true, true, false, true, true, true, true, false, false, false] rfl rfl (take_ofW HT_.out HW_.out (by kernel_rfl)) (fun _ _ _ h => h) (Or.inl ⟨by rfl, ?_⟩) hHeld ?_ ?_
          rotate_left
          · intro w' s0
            go_simp
            with_reducible rfl
          rotate_left
          · simp only [Act.put, List.setIfInBounds_toArray, List.set_cons_zero, List.set_cons_succ, i64_w, i32_w]
            rfl
          refine one_ (i := 4) (N := some 140) #[true, true, true, true, true, true, true, true, true, false, false, false] rfl rfl (one_of HT_.out (by kernel_rfl)) (by decide) (fun K hK => ?_)
          refine goes_ Try.func11 (by kernel_rfl) rfl #[.pointer (some ⟨g, 0, none⟩)] (by rfl) rfl rfl (by simp only [List.map_toArray, List.map_cons, List.map_nil]; rfl) ?_
          with_reducible refine (jlist JQ.out.drew HLN.out).mono ?_
          rintro e w8 ⟨A8, c8, rfl, hC, hlc, hn, hb⟩
          refine ⟨_, rfl, ?_⟩
          have J8 := Aside0.mk hn
          have HC8 := Aside0.mk hC
          have HL8 := Aside0.mk hlc
          have HB8 := Aside0.mk hb
          clear hn hC hlc
          refine hK.out _ _ ((hb.cell (World.block_lt_of_cell? _ _ hHeld)).trans hHeld) (fun hHeld => ?_)
          clear hK K
          refine norm_ (a' := ?_) ?_ ?_
          rotate_left
          · show Act.put _ (some 140) _ = _
            simp only [Act.put, List.setIfInBounds_toArray, List.set_cons_zero, List.set_cons_succ, i64_w, i32_w]
            rfl
          refine last_ (i := 9) (N := some 145) #[true, true, true, true, true, true, true, true, true, true, false, false] rfl rfl (one_of HT_.out (by kernel_rfl)) (by decide) (fun K hK => ?_)
          refine goes_ Try.func15 (by kernel_rfl) rfl #[.slice A8 nn c8, .slice Ar nn cr] (by rfl) rfl rfl (by simp only [List.map_toArray, List.map_cons, List.map_nil]; rfl) ?_
          with_reducible refine (same_n HC8.out HL8.out (Kd.C_below (Kd.C_drew HCR.out) HB8.out) HRC.out HLN.out HLM.out).mono ?_
          rintro e w9 ⟨rfl, hd⟩
          refine ⟨_, rfl, ?_⟩
          have J9 := Aside0.mk (J8.out.below (drawn_below hd))
          clear hd
          refine hK.out _ _ ?_
          clear hK K
          refine norm_ (a' := ?_) ?_ ?_
          rotate_left
          · show Act.put _ (some 145) _ = _
            simp only [Act.put, List.setIfInBounds_toArray, List.set_cons_zero, List.set_cons_succ, i64_w, i32_w]
            rfl
          refine pure_ (i := 10) (N := some 146) (v := ?_) (a' := ?_) #[true, true, true, true, true, true, true, true, true, true, true, false] rfl rfl (any_of HT_.out (by kernel_rfl)) (fun _ _ _ h => h) (Or.inl ⟨by rfl, ?_⟩) ?_ ?_
          rotate_left
          · intro w'
            go_simp
            with_reducible rfl
          rotate_left
          · simp only [Act.put, List.setIfInBounds_toArray, List.set_cons_zero, List.set_cons_succ, i64_w, i32_w]
            rfl
          refine pure_ (i := 11) (N := some 147) (v := ?_) (a' := ?_) #[true, true, true, true, true, true, true, true, true, true, true, true] rfl rfl (any_of HT_.out (by kernel_rfl)) (fun _ _ _ h => h) (Or.inl ⟨by rfl, ?_⟩) ?_ ?_
          rotate_left
          · intro w'
            go_simp
            with_reducible rfl
          rotate_left
          · simp only [Act.put, List.setIfInBounds_toArray, List.set_cons_zero, List.set_cons_succ, i64_w, i32_w]
            rfl
          refine done_ (done_of HT_.out (by kernel_rfl)) ?_
          go_wp2
          go_roundg k1
          case measure => have := HI.out; omega
          case rel => exact ⟨y + 1, by first | rfl | simp [hw], ⟨by omega⟩, ⟨by have := HI.out; omega⟩, ⟨_, J9.out.less.wide (by have := H0.out; omega)⟩⟩
        · have p1 : ((rd_T29 l0 y).f0 == 1) = false := beq_eq_false_iff_ne.mpr g1
          by_cases g2 : (rd_T29 l0 y).f0 = 2
          · have p2 : ((rd_T29 l0 y).f0 == 2) = true := beq_iff_eq.mpr g2
            obtain ⟨n, hn⟩ : ∃ n, dueN L (rd_T29 l0 y).f2 = n := ⟨_, rfl⟩
            have HN := Aside0.mk hn
            have hnl : n ≤ L.length := by rw [← hn]; exact dueN_le L _
            have HNL := Aside0.mk (show ((L.take n).map S35.f1).length = n by rw [List.length_map, List.length_take]; omega)
            have HNM := Aside0.mk (show n ≤ 1000000000000 by have := HLL.out; omega)
            clear g0 g1 g2 hn hnl
            go_upto_region 28 with ((with_reducible refine gate_dst (N := 9) rfl ?_); refine box_event ?hg (N := 9) ?hd (cs := #[.int .i64 0, .int .i64 0, .int .i64 0]) (t := 29) ?hr ?_; (case hd => rfl); (case hg => rfl); (case hr => first | (go_simp; done) | (go_simp; rfl)); intro gt hg w3 hbox hb; have BT3 := Aside0.mk (blk_put (blk_put (blk_put hbox 0 (.int .i64 (rd_T29 l0 y).f0) (cs' := #[.int .i64 (rd_T29 l0 y).f0, .int .i64 0, .int .i64 0]) rfl) 1 (.int .i64 (rd_T29 l0 y).f1) (cs' := #[.int .i64 (rd_T29 l0 y).f0, .int .i64 (rd_T29 l0 y).f1, .int .i64 0]) rfl) 2 (.int .i64 (rd_T29 l0 y).f2) (cs' := #[.int .i64 (rd_T29 l0 y).f0, .int .i64 (rd_T29 l0 y).f1, .int .i64 (rd_T29 l0 y).f2]) rfl); have JE := Aside0.mk (JJ.out.more hg (show Below wr.heap.size wr (((w3.setCell ⟨gt, 0, none⟩ (.int .i64 (rd_T29 l0 y).f0)).setCell ⟨gt, 1, none⟩ (.int .i64 (rd_T29 l0 y).f1)).setCell ⟨gt, 2, none⟩ (.int .i64 (rd_T29 l0 y).f2)) from below_set (below_set (below_set hb (Nat.le_of_eq hg.symm)) (Nat.le_of_eq hg.symm)) (Nat.le_of_eq hg.symm)) BT3.out); have a0 := (blk_cell hbox 0).trans rfl; have a1 := (blk_cell hbox 1).trans rfl; have a2 := (blk_cell hbox 2).trans rfl; have af0 := blk_frozen hbox 0; have af1 := blk_frozen hbox 1; have af2 := blk_frozen hbox 2; have b0 := (blk_cell BT3.out 0).trans rfl; have b1 := (blk_cell BT3.out 1).trans rfl; have b2 := (blk_cell BT3.out 2).trans rfl; clear hb hbox hg)
            refine start_ (n := 10) (S := fun w' => w'.cell? ⟨gt, 2, none⟩ = some (.int .i64 (rd_T29 l0 y).f2)) (ds := [8]) #[false, false, false, false, false, false, false, false, false, false] (by kernel_rfl) rfl rfl (b2) (fun hHeld => ?_); refine with_tabW wde.tab28 wde.bits28 (fun HT_ HW_ => ?_)
            refine pure_ (i := 0) (N := some 127) (v := ?_) (a' := ?_) #[true, false, false, false, false, false, false, false, false, false] rfl rfl (any_of HT_.out (by kernel_rfl)) (fun _ _ _ h => h) (Or.inl ⟨by rfl, ?_⟩) ?_ ?_
            rotate_left
            · intro w'
              go_simp
              with_reducible rfl
            rotate_left
            · simp only [Act.put, List.setIfInBounds_toArray, List.set_cons_zero, List.set_cons_succ, i64_w, i32_w]
              rfl
            refine pure_ (i := 1) (N := some 128) (v := ?_) (a' := ?_) #[true, true, false, false, false, false, false, false, false, false] rfl rfl (any_of HT_.out (by kernel_rfl)) (fun _ _ _ h => h) (Or.inl ⟨by rfl, ?_⟩) ?_ ?_
            rotate_left
            · intro w'
              go_simp
              with_reducible rfl
            rotate_left
            · simp only [Act.put, List.setIfInBounds_toArray, List.set_cons_zero, List.set_cons_succ, i64_w, i32_w]
              rfl
            refine pure_ (i := 4) (N := some 131) (v := ?_) (a' := ?_) #[true, true, false, false, true, false, false, false, false, false] rfl rfl (any_of HT_.out (by kernel_rfl)) (fun _ _ _ h => h) (Or.inl ⟨by rfl, ?_⟩) ?_ ?_
            rotate_left
            · intro w'
              go_simp
              with_reducible rfl
            rotate_left
            · simp only [Act.put, List.setIfInBounds_toArray, List.set_cons_zero, List.set_cons_succ, i64_w, i32_w]
              rfl
            refine pure_ (i := 5) (N := some 132) (v := ?_) (a' := ?_) #[true, true, false, false, true, true, false, false, false, false] rfl rfl (any_of HT_.out (by kernel_rfl)) (fun _ _ _ h => h) (Or.inl ⟨by rfl, ?_⟩) ?_ ?_
            rotate_left
            · intro w'
              go_simp
              with_reducible rfl
            rotate_left
            · simp only [Act.put, List.setIfInBounds_toArray, List.set_cons_zero, List.set_cons_succ, i64_w, i32_w]
              rfl
            refine take_ (i := 2) (N := some 129) (v := ?_) (a' := ?_) #[true, true, true, false, true, true, false, false, false, false] rfl rfl (take_ofW HT_.out HW_.out (by kernel_rfl)) (fun _ _ _ h => h) (Or.inl ⟨by rfl, ?_⟩) hHeld ?_ ?_
            rotate_left
            · intro w' s0
              go_simp
              with_reducible rfl
            rotate_left
            · simp only [Act.put, List.setIfInBounds_toArray, List.set_cons_zero, List.set_cons_succ, i64_w, i32_w]
              rfl
            refine take_ (i := 6) (N := some 133) (v := ?_) (a' := ?_) #[true, true, true, false, true, true, true, false, false, false] rfl rfl (take_ofW HT_.out HW_.out (by kernel_rfl)) (fun _ _ _ h => h) (Or.inl ⟨by rfl, ?_⟩) hHeld ?_ ?_
            rotate_left
            · intro w' s0
              go_simp
              with_reducible rfl
            rotate_left
            · simp only [Act.put, List.setIfInBounds_toArray, List.set_cons_zero, List.set_cons_succ, i64_w, i32_w]
              rfl
            refine one_ (i := 3) (N := some 130) #[true, true, true, true, true, true, true, false, false, false] rfl rfl (one_of HT_.out (by kernel_rfl)) (by decide) (fun K hK => ?_)
            refine goes_ Try.func12 (by kernel_rfl) rfl #[.pointer (some ⟨g, 0, none⟩), .int .i64 (rd_T29 l0 y).f2] (by rfl) rfl rfl (by simp only [List.map_toArray, List.map_cons, List.map_nil]; rfl) ?_
            with_reducible refine (jdue JE.out.drew _ HN.out).mono ?_
            rintro e w5 ⟨A5, c5, rfl, hlc, hn⟩
            refine ⟨_, rfl, ?_⟩
            have J5 := Aside0.mk hn
            have HC5 := Aside0.mk hlc
            clear hn hlc
            refine hK.out _ _ ((blk_cell (J5.out.j2.extra (ex_at _ _)) 2).trans rfl) (fun hHeld => ?_)
            clear hK K
            refine norm_ (a' := ?_) ?_ ?_
            rotate_left
            · show Act.put _ (some 130) _ = _
              simp only [Act.put, List.setIfInBounds_toArray, List.set_cons_zero, List.set_cons_succ, i64_w, i32_w]
              rfl
            refine one_ (i := 7) (N := some 134) #[true, true, true, true, true, true, true, true, false, false] rfl rfl (one_of HT_.out (by kernel_rfl)) (by decide) (fun K hK => ?_)
            refine goes_ Try.func19 (by kernel_rfl) rfl #[.pointer (some ⟨x, 0, none⟩), .int .i64 (rd_T29 l0 y).f2] (by rfl) rfl rfl (by simp only [List.map_toArray, List.map_cons, List.map_nil]; rfl) ?_
            with_reducible refine (jrdue J5.out HLL.out _ HN.out).mono ?_
            rintro e w6 ⟨A6, c6, rfl, hlc, hn, hC, hr⟩
            refine ⟨_, rfl, ?_⟩
            have J6 := Aside0.mk hn
            have HC6 := Aside0.mk hlc
            have Q6 := Aside0.mk hC
            have P6 := Aside0.mk (row_C hr HNL.out)
            clear hn hlc hC hr
            refine hK.out _ _ ((blk_cell (J6.out.extra (ex_at _ _)) 2).trans rfl) (fun hHeld => ?_)
            clear hK K
            refine norm_ (a' := ?_) ?_ ?_
            rotate_left
            · show Act.put _ (some 134) _ = _
              simp only [Act.put, List.setIfInBounds_toArray, List.set_cons_zero, List.set_cons_succ, i64_w, i32_w]
              rfl
            refine last_ (i := 8) (N := some 135) #[true, true, true, true, true, true, true, true, true, false] rfl rfl (one_of HT_.out (by kernel_rfl)) (by decide) (fun K hK => ?_)
            refine goes_ Try.func14 (by kernel_rfl) rfl #[.slice A5 n c5, .slice A6 n c6] (by rfl) rfl rfl (by simp only [List.map_toArray, List.map_cons, List.map_nil]; rfl) ?_
            with_reducible refine (ints_n P6.out HC5.out Q6.out HC6.out HNL.out HNM.out).mono ?_
            rintro e w7 ⟨rfl, hd⟩
            refine ⟨_, rfl, ?_⟩
            have JQ := Aside0.mk (J6.out.below (drawn_below hd))
            clear hd
            refine hK.out _ _ ?_
            clear hK K
            refine norm_ (a' := ?_) ?_ ?_
            rotate_left
            · show Act.put _ (some 135) _ = _
              simp only [Act.put, List.setIfInBounds_toArray, List.set_cons_zero, List.set_cons_succ, i64_w, i32_w]
              rfl
            refine pure_ (i := 9) (N := some 10) (v := ?_) (a' := ?_) #[true, true, true, true, true, true, true, true, true, true] rfl rfl (any_of HT_.out (by kernel_rfl)) (fun _ _ _ h => h) (Or.inl ⟨by rfl, ?_⟩) ?_ ?_
            rotate_left
            · intro w'
              go_simp
              with_reducible rfl
            rotate_left
            · simp only [Act.put, List.setIfInBounds_toArray, List.set_cons_zero, List.set_cons_succ, i64_w, i32_w]
              rfl
            refine done_ (done_of HT_.out (by kernel_rfl)) ?_
            go_wp2
            have hln := JQ.out.ok.2.2.2
            obtain ⟨Ar, cr, hbx, hrc, hCr⟩ := JQ.out.seen
            obtain ⟨nn, hnn⟩ : ∃ nn, (L.drop n).length = nn := ⟨_, rfl⟩
            rw [hnn] at hbx hrc hCr hln
            have HLN := Aside0.mk hnn
            have HLM := Aside0.mk (show nn ≤ 1000000000000 by omega)
            have HCR := Aside0.mk hCr
            have HRC := Aside0.mk hrc
            have z0 := (blk_cell hbx 0).trans rfl
            clear hbx hrc hCr hnn hln
            go_upto_region 29 with (fail)
            refine start_ (n := 12) (S := fun w' => w'.cell? ⟨x, 0, none⟩ = some (.slice Ar nn cr)) (ds := [9]) #[false, false, false, false, false, false, false, false, false, false, false, false] (by kernel_rfl) rfl rfl (z0) (fun hHeld => ?_); refine with_tabW wde.tab29 wde.bits29 (fun HT_ HW_ => ?_)
            refine pure_ (i := 0) (N := some 136) (v := ?_) (a' := ?_) #[true, false, false, false, false, false, false, false, false, false, false, false] rfl rfl (any_of HT_.out (by kernel_rfl)) (fun _ _ _ h => h) (Or.inl ⟨by rfl, ?_⟩) ?_ ?_
            rotate_left
            · intro w'
              go_simp
              with_reducible rfl
            rotate_left
            · simp only [Act.put, List.setIfInBounds_toArray, List.set_cons_zero, List.set_cons_succ, i64_w, i32_w]
              rfl
            refine pure_ (i := 1) (N := some 137) (v := ?_) (a' := ?_) #[true, true, false, false, false, false, false, false, false, false, false, false] rfl rfl (any_of HT_.out (by kernel_rfl)) (fun _ _ _ h => h) (Or.inl ⟨by rfl, ?_⟩) ?_ ?_
            rotate_left
            · intro w'
              go_simp
              with_reducible rfl
            rotate_left
            · simp only [Act.put, List.setIfInBounds_toArray, List.set_cons_zero, List.set_cons_succ, i64_w, i32_w]
              rfl
            refine pure_ (i := 2) (N := some 138) (v := ?_) (a' := ?_) #[true, true, true, false, false, false, false, false, false, false, false, false] rfl rfl (any_of HT_.out (by kernel_rfl)) (fun _ _ _ h => h) (Or.inl ⟨by rfl, ?_⟩) ?_ ?_
            rotate_left
            · intro w'
              go_simp
              with_reducible rfl
            rotate_left
            · simp only [Act.put, List.setIfInBounds_toArray, List.set_cons_zero, List.set_cons_succ, i64_w, i32_w]
              rfl
            refine pure_ (i := 3) (N := some 139) (v := ?_) (a' := ?_) #[true, true, true, true, false, false, false, false, false, false, false, false] rfl rfl (any_of HT_.out (by kernel_rfl)) (fun _ _ _ h => h) (Or.inl ⟨by rfl, ?_⟩) ?_ ?_
            rotate_left
            · intro w'
              go_simp
              with_reducible rfl
            rotate_left
            · simp only [Act.put, List.setIfInBounds_toArray, List.set_cons_zero, List.set_cons_succ, i64_w, i32_w]
              rfl
            refine pure_ (i := 5) (N := some 141) (v := ?_) (a' := ?_) #[true, true, true, true, false, true, false, false, false, false, false, false] rfl rfl (any_of HT_.out (by kernel_rfl)) (fun _ _ _ h => h) (Or.inl ⟨by rfl, ?_⟩) ?_ ?_
            rotate_left
            · intro w'
              go_simp
              with_reducible rfl
            rotate_left
            · simp only [Act.put, List.setIfInBounds_toArray, List.set_cons_zero, List.set_cons_succ, i64_w, i32_w]
              rfl
            refine pure_ (i := 6) (N := some 142) (v := ?_) (a' := ?_) #[true, true, true, true, false, true, true, false, false, false, false, false] rfl rfl (any_of HT_.out (by kernel_rfl)) (fun _ _ _ h => h) (Or.inl ⟨by rfl, ?_⟩) ?_ ?_
            rotate_left
            · intro w'
              go_simp
              with_reducible rfl
            rotate_left
            · simp only [Act.put, List.setIfInBounds_toArray, List.set_cons_zero, List.set_cons_succ, i64_w, i32_w]
              rfl
            refine pure_ (i := 7) (N := some 143) (v := ?_) (a' := ?_) #[true, true, true, true, false, true, true, true, false, false, false, false] rfl rfl (any_of HT_.out (by kernel_rfl)) (fun _ _ _ h => h) (Or.inl ⟨by rfl, ?_⟩) ?_ ?_
            rotate_left
            · intro w'
              go_simp
              with_reducible rfl
            rotate_left
            · simp only [Act.put, List.setIfInBounds_toArray, List.set_cons_zero, List.set_cons_succ, i64_w, i32_w]
              rfl
            refine take_ (i := 8) (N := some 144) (v := ?_) (a' := ?_) #[true, true, true, true, false, true, true, true, true, false, false, false] rfl rfl (take_ofW HT_.out HW_.out (by kernel_rfl)) (fun _ _ _ h => h) (Or.inl ⟨by rfl, ?_⟩) hHeld ?_ ?_
            rotate_left
            · intro w' s0
              go_simp
              with_reducible rfl
            rotate_left
            · simp only [Act.put, List.setIfInBounds_toArray, List.set_cons_zero, List.set_cons_succ, i64_w, i32_w]
              rfl
            refine one_ (i := 4) (N := some 140) #[true, true, true, true, true, true, true, true, true, false, false, false] rfl rfl (one_of HT_.out (by kernel_rfl)) (by decide) (fun K hK => ?_)
            refine goes_ Try.func11 (by kernel_rfl) rfl #[.pointer (some ⟨g, 0, none⟩)] (by rfl) rfl rfl (by simp only [List.map_toArray, List.map_cons, List.map_nil]; rfl) ?_
            with_reducible refine (jlist JQ.out.drew HLN.out).mono ?_
            rintro e w8 ⟨A8, c8, rfl, hC, hlc, hn, hb⟩
            refine ⟨_, rfl, ?_⟩
            have J8 := Aside0.mk hn
            have HC8 := Aside0.mk hC
            have HL8 := Aside0.mk hlc
            have HB8 := Aside0.mk hb
            clear hn hC hlc
            refine hK.out _ _ ((hb.cell (World.block_lt_of_cell? _ _ hHeld)).trans hHeld) (fun hHeld => ?_)
            clear hK K
            refine norm_ (a' := ?_) ?_ ?_
            rotate_left
            · show Act.put _ (some 140) _ = _
              simp only [Act.put, List.setIfInBounds_toArray, List.set_cons_zero, List.set_cons_succ, i64_w, i32_w]
              rfl
            refine last_ (i := 9) (N := some 145) #[true, true, true, true, true, true, true, true, true, true, false, false] rfl rfl (one_of HT_.out (by kernel_rfl)) (by decide) (fun K hK => ?_)
            refine goes_ Try.func15 (by kernel_rfl) rfl #[.slice A8 nn c8, .slice Ar nn cr] (by rfl) rfl rfl (by simp only [List.map_toArray, List.map_cons, List.map_nil]; rfl) ?_
            with_reducible refine (same_n HC8.out HL8.out (Kd.C_below (Kd.C_drew HCR.out) HB8.out) HRC.out HLN.out HLM.out).mono ?_
            rintro e w9 ⟨rfl, hd⟩
            refine ⟨_, rfl, ?_⟩
            have J9 := Aside0.mk (J8.out.below (drawn_below hd))
            clear hd
            refine hK.out _ _ ?_
            clear hK K
            refine norm_ (a' := ?_) ?_ ?_
            rotate_left
            · show Act.put _ (some 145) _ = _
              simp only [Act.put, List.setIfInBounds_toArray, List.set_cons_zero, List.set_cons_succ, i64_w, i32_w]
              rfl
            refine pure_ (i := 10) (N := some 146) (v := ?_) (a' := ?_) #[true, true, true, true, true, true, true, true, true, true, true, false] rfl rfl (any_of HT_.out (by kernel_rfl)) (fun _ _ _ h => h) (Or.inl ⟨by rfl, ?_⟩) ?_ ?_
            rotate_left
            · intro w'
              go_simp
              with_reducible rfl
            rotate_left
            · simp only [Act.put, List.setIfInBounds_toArray, List.set_cons_zero, List.set_cons_succ, i64_w, i32_w]
              rfl
            refine pure_ (i := 11) (N := some 147) (v := ?_) (a' := ?_) #[true, true, true, true, true, true, true, true, true, true, true, true] rfl rfl (any_of HT_.out (by kernel_rfl)) (fun _ _ _ h => h) (Or.inl ⟨by rfl, ?_⟩) ?_ ?_
            rotate_left
            · intro w'
              go_simp
              with_reducible rfl
            rotate_left
            · simp only [Act.put, List.setIfInBounds_toArray, List.set_cons_zero, List.set_cons_succ, i64_w, i32_w]
              rfl
            refine done_ (done_of HT_.out (by kernel_rfl)) ?_
            go_wp2
            go_roundg k1
            case measure => have := HI.out; omega
            case rel => exact ⟨y + 1, by first | rfl | simp [hw], ⟨by omega⟩, ⟨by have := HI.out; omega⟩, ⟨_, J9.out.less.wide (by have := H0.out; omega)⟩⟩
          · have p2 : ((rd_T29 l0 y).f0 == 2) = false := beq_eq_false_iff_ne.mpr g2
            obtain ⟨a, b, hnx⟩ : ∃ a b, nextL L = (a, b) := ⟨_, _, rfl⟩
            have HNX := Aside0.mk hnx
            have haa : (a == a) = true := beq_self_eq_true a
            have hbb : (b == b) = true := beq_self_eq_true b
            clear g0 g1 g2 hnx
            go_upto_region 29 with (first
              | ((with_reducible refine gate_dst (N := 9) rfl ?_); refine box_event ?hg (N := 9) ?hd (cs := #[.int .i64 0, .int .i64 0, .int .i64 0]) (t := 29) ?hr ?_; (case hd => rfl); (case hg => rfl); (case hr => first | (go_simp; done) | (go_simp; rfl)); intro gt hg w3 hbox hb; have BT3 := Aside0.mk (blk_put (blk_put (blk_put hbox 0 (.int .i64 (rd_T29 l0 y).f0) (cs' := #[.int .i64 (rd_T29 l0 y).f0, .int .i64 0, .int .i64 0]) rfl) 1 (.int .i64 (rd_T29 l0 y).f1) (cs' := #[.int .i64 (rd_T29 l0 y).f0, .int .i64 (rd_T29 l0 y).f1, .int .i64 0]) rfl) 2 (.int .i64 (rd_T29 l0 y).f2) (cs' := #[.int .i64 (rd_T29 l0 y).f0, .int .i64 (rd_T29 l0 y).f1, .int .i64 (rd_T29 l0 y).f2]) rfl); have JE := Aside0.mk (JJ.out.more hg (show Below wr.heap.size wr (((w3.setCell ⟨gt, 0, none⟩ (.int .i64 (rd_T29 l0 y).f0)).setCell ⟨gt, 1, none⟩ (.int .i64 (rd_T29 l0 y).f1)).setCell ⟨gt, 2, none⟩ (.int .i64 (rd_T29 l0 y).f2)) from below_set (below_set (below_set hb (Nat.le_of_eq hg.symm)) (Nat.le_of_eq hg.symm)) (Nat.le_of_eq hg.symm)) BT3.out); have a0 := (blk_cell hbox 0).trans rfl; have a1 := (blk_cell hbox 1).trans rfl; have a2 := (blk_cell hbox 2).trans rfl; have af0 := blk_frozen hbox 0; have af1 := blk_frozen hbox 1; have af2 := blk_frozen hbox 2; have b0 := (blk_cell BT3.out 0).trans rfl; have b1 := (blk_cell BT3.out 1).trans rfl; have b2 := (blk_cell BT3.out 2).trans rfl; clear hb hbox hg)
              | (go_at_call 13; (with_reducible refine (jnext JE.out HNX.out).mono ?_); rintro x_ w_ ⟨rfl, rfl⟩)
              | (go_at_call 20; (with_reducible refine (jrnext JE.out HNX.out).mono ?_); rintro x_ w_ ⟨rfl, rfl⟩))
            have JQ := JE
            have hln := JQ.out.ok.2.2.2
            obtain ⟨Ar, cr, hbx, hrc, hCr⟩ := JQ.out.seen
            obtain ⟨nn, hnn⟩ : ∃ nn, (L).length = nn := ⟨_, rfl⟩
            rw [hnn] at hbx hrc hCr hln
            have HLN := Aside0.mk hnn
            have HLM := Aside0.mk (show nn ≤ 1000000000000 by omega)
            have HCR := Aside0.mk hCr
            have HRC := Aside0.mk hrc
            have z0 := (blk_cell hbx 0).trans rfl
            clear hbx hrc hCr hnn hln
            refine start_ (n := 12) (S := fun w' => w'.cell? ⟨x, 0, none⟩ = some (.slice Ar nn cr)) (ds := [9]) #[false, false, false, false, false, false, false, false, false, false, false, false] (by kernel_rfl) rfl rfl (z0) (fun hHeld => ?_); refine with_tabW wde.tab29 wde.bits29 (fun HT_ HW_ => ?_)
            refine pure_ (i := 0) (N := some 136) (v := ?_) (a' := ?_) #[true, false, false, false, false, false, false, false, false, false, false, false] rfl rfl (any_of HT_.out (by kernel_rfl)) (fun _ _ _ h => h) (Or.inl ⟨by rfl, ?_⟩) ?_ ?_
            rotate_left
            · intro w'
              go_simp
              with_reducible rfl
            rotate_left
            · simp only [Act.put, List.setIfInBounds_toArray, List.set_cons_zero, List.set_cons_succ, i64_w, i32_w]
              rfl
            refine pure_ (i := 1) (N := some 137) (v := ?_) (a' := ?_) #[true, true, false, false, false, false, false, false, false, false, false, false] rfl rfl (any_of HT_.out (by kernel_rfl)) (fun _ _ _ h => h) (Or.inl ⟨by rfl, ?_⟩) ?_ ?_
            rotate_left
            · intro w'
              go_simp
              with_reducible rfl
            rotate_left
            · simp only [Act.put, List.setIfInBounds_toArray, List.set_cons_zero, List.set_cons_succ, i64_w, i32_w]
              rfl
            refine pure_ (i := 2) (N := some 138) (v := ?_) (a' := ?_) #[true, true, true, false, false, false, false, false, false, false, false, false] rfl rfl (any_of HT_.out (by kernel_rfl)) (fun _ _ _ h => h) (Or.inl ⟨by rfl, ?_⟩) ?_ ?_
            rotate_left
            · intro w'
              go_simp
              with_reducible rfl
            rotate_left
            · simp only [Act.put, List.setIfInBounds_toArray, List.set_cons_zero, List.set_cons_succ, i64_w, i32_w]
              rfl
            refine pure_ (i := 3) (N := some 139) (v := ?_) (a' := ?_) #[true, true, true, true, false, false, false, false, false, false, false, false] rfl rfl (any_of HT_.out (by kernel_rfl)) (fun _ _ _ h => h) (Or.inl ⟨by rfl, ?_⟩) ?_ ?_
            rotate_left
            · intro w'
              go_simp
              with_reducible rfl
            rotate_left
            · simp only [Act.put, List.setIfInBounds_toArray, List.set_cons_zero, List.set_cons_succ, i64_w, i32_w]
              rfl
            refine pure_ (i := 5) (N := some 141) (v := ?_) (a' := ?_) #[true, true, true, true, false, true, false, false, false, false, false, false] rfl rfl (any_of HT_.out (by kernel_rfl)) (fun _ _ _ h => h) (Or.inl ⟨by rfl, ?_⟩) ?_ ?_
            rotate_left
            · intro w'
              go_simp
              with_reducible rfl
            rotate_left
            · simp only [Act.put, List.setIfInBounds_toArray, List.set_cons_zero, List.set_cons_succ, i64_w, i32_w]
              rfl
            refine pure_ (i := 6) (N := some 142) (v := ?_) (a' := ?_) #[true, true, true, true, false, true, true, false, false, false, false, false] rfl rfl (any_of HT_.out (by kernel_rfl)) (fun _ _ _ h => h) (Or.inl ⟨by rfl, ?_⟩) ?_ ?_
            rotate_left
            · intro w'
              go_simp
              with_reducible rfl
            rotate_left
            · simp only [Act.put, List.setIfInBounds_toArray, List.set_cons_zero, List.set_cons_succ, i64_w, i32_w]
              rfl
            refine pure_ (i := 7) (N := some 143) (v := ?_) (a' := ?_) #[true, true, true, true, false, true, true, true, false, false, false, false] rfl rfl (any_of HT_.out (by kernel_rfl)) (fun _ _ _ h => h) (Or.inl ⟨by rfl, ?_⟩) ?_ ?_
            rotate_left
            · intro w'
              go_simp
              with_reducible rfl
            rotate_left
            · simp only [Act.put, List.setIfInBounds_toArray, List.set_cons_zero, List.set_cons_succ, i64_w, i32_w]
              rfl
            refine take_ (i := 8) (N := some 144) (v := ?_) (a' := ?_) #[true, true, true, true, false, true, true, true, true, false, false, false] rfl rfl (take_ofW HT_.out HW_.out (by kernel_rfl)) (fun _ _ _ h => h) (Or.inl ⟨by rfl, ?_⟩) hHeld ?_ ?_
            rotate_left
            · intro w' s0
              go_simp
              with_reducible rfl
            rotate_left
            · simp only [Act.put, List.setIfInBounds_toArray, List.set_cons_zero, List.set_cons_succ, i64_w, i32_w]
              rfl
            refine one_ (i := 4) (N := some 140) #[true, true, true, true, true, true, true, true, true, false, false, false] rfl rfl (one_of HT_.out (by kernel_rfl)) (by decide) (fun K hK => ?_)
            refine goes_ Try.func11 (by kernel_rfl) rfl #[.pointer (some ⟨g, 0, none⟩)] (by rfl) rfl rfl (by simp only [List.map_toArray, List.map_cons, List.map_nil]; rfl) ?_
            with_reducible refine (jlist JQ.out.drew HLN.out).mono ?_
            rintro e w8 ⟨A8, c8, rfl, hC, hlc, hn, hb⟩
            refine ⟨_, rfl, ?_⟩
            have J8 := Aside0.mk hn
            have HC8 := Aside0.mk hC
            have HL8 := Aside0.mk hlc
            have HB8 := Aside0.mk hb
            clear hn hC hlc
            refine hK.out _ _ ((hb.cell (World.block_lt_of_cell? _ _ hHeld)).trans hHeld) (fun hHeld => ?_)
            clear hK K
            refine norm_ (a' := ?_) ?_ ?_
            rotate_left
            · show Act.put _ (some 140) _ = _
              simp only [Act.put, List.setIfInBounds_toArray, List.set_cons_zero, List.set_cons_succ, i64_w, i32_w]
              rfl
            refine last_ (i := 9) (N := some 145) #[true, true, true, true, true, true, true, true, true, true, false, false] rfl rfl (one_of HT_.out (by kernel_rfl)) (by decide) (fun K hK => ?_)
            refine goes_ Try.func15 (by kernel_rfl) rfl #[.slice A8 nn c8, .slice Ar nn cr] (by rfl) rfl rfl (by simp only [List.map_toArray, List.map_cons, List.map_nil]; rfl) ?_
            with_reducible refine (same_n HC8.out HL8.out (Kd.C_below (Kd.C_drew HCR.out) HB8.out) HRC.out HLN.out HLM.out).mono ?_
            rintro e w9 ⟨rfl, hd⟩
            refine ⟨_, rfl, ?_⟩
            have J9 := Aside0.mk (J8.out.below (drawn_below hd))
            clear hd
            refine hK.out _ _ ?_
            clear hK K
            refine norm_ (a' := ?_) ?_ ?_
            rotate_left
            · show Act.put _ (some 145) _ = _
              simp only [Act.put, List.setIfInBounds_toArray, List.set_cons_zero, List.set_cons_succ, i64_w, i32_w]
              rfl
            refine pure_ (i := 10) (N := some 146) (v := ?_) (a' := ?_) #[true, true, true, true, true, true, true, true, true, true, true, false] rfl rfl (any_of HT_.out (by kernel_rfl)) (fun _ _ _ h => h) (Or.inl ⟨by rfl, ?_⟩) ?_ ?_
            rotate_left
            · intro w'
              go_simp
              with_reducible rfl
            rotate_left
            · simp only [Act.put, List.setIfInBounds_toArray, List.set_cons_zero, List.set_cons_succ, i64_w, i32_w]
              rfl
            refine pure_ (i := 11) (N := some 147) (v := ?_) (a' := ?_) #[true, true, true, true, true, true, true, true, true, true, true, true] rfl rfl (any_of HT_.out (by kernel_rfl)) (fun _ _ _ h => h) (Or.inl ⟨by rfl, ?_⟩) ?_ ?_
            rotate_left
            · intro w'
              go_simp
              with_reducible rfl
            rotate_left
            · simp only [Act.put, List.setIfInBounds_toArray, List.set_cons_zero, List.set_cons_succ, i64_w, i32_w]
              rfl
            refine done_ (done_of HT_.out (by kernel_rfl)) ?_
            go_wp2
            go_roundg k1
            case measure => have := HI.out; omega
            case rel => exact ⟨y + 1, by first | rfl | simp [hw], ⟨by omega⟩, ⟨by have := HI.out; omega⟩, ⟨_, J9.out.less.wide (by have := H0.out; omega)⟩⟩
  | succ k1 =>
    have hlt := (show i < a0 by have := HI.out; omega)
    have hi0 := H0.out
    have hd : decide (i < a0) = true := decide_eq_true hlt
    have hw : wrap64 (i + 1) = i + 1 := w64 (by omega) (by have := HQ.out; omega)
    have HNB := Aside0.mk (show i.toNat ≤ 1000000000 by have := HQ.out; omega)
    have HWI := Aside0.mk (wf_small (i := i) (by omega) (by have := HQ.out; omega))
    by_cases hi : i < 1024
    · have r1 : decide (i < 1024) = true := decide_eq_true hi
      have HV := Aside0.mk (HIN.out.yes hi0 hi).1
      have HLX := Aside0.mk (HIN.out.yes hi0 hi).2
      have HII := Aside0.mk (HIN.out.next hi0 hi)
      have HLI := Aside0.mk (show L.length < 1024 by have := HIN.out.2; omega)
      have r2 : decide ((L.length : Int) < 1024) = true := decide_eq_true (by have := HLI.out; omega)
      clear hi hlt
      go_wp2_with (first
        | (go_at_call 10; (with_reducible refine (jset1 JJ.out HNB.out i 1000 HWI.out (by decide) HV.out).mono ?_); rintro x_ w4 ⟨rfl, hn⟩; have J4 := Aside0.mk hn; obtain ⟨F, A, c, h1, h2, h3, h4, h5⟩ := hn; have HA1 := Aside0.mk h1; have HA2 := Aside0.mk h2; have HA3 := Aside0.mk h3; have HA4 := Aside0.mk h4; have HA5 := Aside0.mk h5; have hx : w4.cell? ⟨x, 0, none⟩ = some (.slice A L.length c) := (blk_cell h2 0).trans rfl; clear h1 h2 h3 h4 h5)
        | ((with_reducible refine gate_dst (N := 65) rfl ?_); refine lit1_event ?hg (N := 65) ?hd (cs := #[.int .i64 1000, .int .i64 i]) (t := 35) (n := 1) ?hr ?_; (case hd => rfl); (case hg => rfl); (case hr => first | (go_simp; done) | (go_simp; rfl)); intro gl hgl w5 hbox hb; have HB1 := Aside0.mk (HA1.out.below hb); have HB2 := Aside0.mk ((hb.block x (blk_lt HA2.out)).trans HA2.out); have HB3 := Aside0.mk (Kd.R_below HA3.out hb); have BL := Aside0.mk hbox; clear hb hbox hgl)
        | ((with_reducible refine gate_builtin (b := .append) (xs := #[.tmp 62, .tmp 65]) rfl ?_); at_builtin; refine Kd.R_append_rows k35 (w0 := w5) w.heap.size rfl (.tmp 62) (.tmp 65) 30 35 (.agg #[(.int .i64 0), (.int .i64 0)]) 16 rfl Try.underlying30 info35 rfl (by decide) (by omega) (.slice A L.length c) L [⟨1000, i⟩] _ _ _ (fun k => ¬ F k ∧ k ≠ x) (fun _ => False) rfl rfl ?aO ?aR (fun _ _ h => h) (fun _ h => h.elim) ?aF ?aB ?aS ?aL ?_; (case aR => exact oneE_C (x := ⟨1000, i⟩) BL.out); (case aB => exact Below.refl _ _); (case aF => exact (fun k hk => ⟨fun hF => by have := HB1.out.1 k hF; omega, fun e => by have := blk_lt HB2.out; omega⟩)); (case aO => exact HB3.out); (case aS => exact below_size HB1.out.2.bl); (case aL => have := HLI.out; omega); intro v2 w6 ho hb hg hat; obtain ⟨A6, c6, rfl, _⟩ := row_n ho rfl; have HR6 := Aside0.mk ho; have HG6 := Aside0.mk hg; have hx6 : w6.cell? ⟨x, 0, none⟩ = some (.slice A L.length c) := (blk_cell ((hg.block x (blk_lt HB2.out) (fun e => (HB3.out.1 x e.symm).2 rfl)).trans HB2.out) 0).trans rfl; have hxf6 : w6.frozen? ⟨x, 0, none⟩ = false := blk_frozen ((hg.block x (blk_lt HB2.out) (fun e => (HB3.out.1 x e.symm).2 rfl)).trans HB2.out) 0; clear ho hb hg hat))
      go_roundg k1
      case measure => have := HI.out; omega
      case rel => exact ⟨i + 1, by first | rfl | simp [hw], ⟨by omega⟩, ⟨by have := HI.out; omega⟩, ⟨L ++ [⟨1000, i⟩], by
        have := J1.push HB1.out HB2.out HB3.out HA4.out HA5.out HG6.out HR6.out
        rw [HLX.out, show i.toNat + 1 = (i + 1).toNat by omega, List.length_append] at this
        exact this, HII.out⟩⟩
    · have r1 : decide (i < 1024) = false := decide_eq_false hi
      have HV := Aside0.mk (HIN.out.no hi).1
      have HLX := Aside0.mk (HIN.out.no hi).2
      have HII := Aside0.mk (HIN.out.stay hi)
      have r2 : decide ((L.length : Int) < 1024) = false := decide_eq_false (by have := HIN.out.2; omega)
      clear hi hlt
      go_wp2_with (go_at_call 10; (with_reducible refine (jset1 JJ.out HNB.out i 1000 HWI.out (by decide) HV.out).mono ?_); rintro x_ w4 ⟨rfl, hn⟩; have J4 := Aside0.mk hn; obtain ⟨F, A, c, h1, h2, h3, h4, h5⟩ := hn; have HA1 := Aside0.mk h1; have HA2 := Aside0.mk h2; have HA3 := Aside0.mk h3; have HA4 := Aside0.mk h4; have HA5 := Aside0.mk h5; have hx : w4.cell? ⟨x, 0, none⟩ = some (.slice A L.length c) := (blk_cell h2 0).trans rfl; clear h1 h2 h3 h4 h5)
      go_roundg k1
      case measure => have := HI.out; omega
      case rel => exact ⟨i + 1, by first | rfl | simp [hw], ⟨by omega⟩, ⟨by have := HI.out; omega⟩, ⟨L, by
        have := J4.out
        rw [HLX.out, show i.toNat + 1 = (i + 1).toNat by omega] at this
        exact this, HII.out⟩⟩
set_option maxHeartbeats 8000000 in
set_option maxRecDepth 100000 in
theorem does_high (A0 : Option Addr) (c0 : Nat) (a0 : Int) (l0 : List S29) (w : World) (hr0 : Kd.C k29 w A0 l0.length l0) (hc0 : l0.length ≤ c0) (hos : OkS l0) (hq : (l0.length : Int) ≤ 150 ∧ 0 ≤ a0 ∧ a0 ≤ 1030) (q1 : decide ((l0.length : Int) > 150) = false) (q2 : decide (a0 < 0) = false) (q3 : decide (a0 > 40) = true) (q4 : decide (a0 < 1020) = false) (q5 : decide (a0 > 1030) = false) :
    Calls Try.prog 5 #[.int .i64 a0, .slice A0 l0.length c0] w fun e w' => e = .returned (.bool true) ∧ Below w.heap.size w w' := by
  have hnot : ∀ (x : Bool) (w : World), (Op.unary .not (.bool x)).run Try.prog w = .ok (.bool (!x)) w := fun _ _ => rfl
  have HOS := Aside0.mk hos
  have HR0 := Aside0.mk hr0
  have HQ := Aside0.mk hq
  clear hos hr0 hc0 hq
  go_enter Try.func5, Try.ntmps5
  go_wp2_with (first
    | (go_at_call 8; (with_reducible refine (new_w (Below.refl _ _)).mono ?_); rintro x_ w1 ⟨g, rfl, hn, hb⟩; have M0 := Aside0.mk hn; clear hn hb)
    | ((with_reducible refine gate_dst (N := 38) rfl ?_); refine box_event ?hg (N := 38) ?hd (cs := #[.slice none 0 0]) (t := 44) ?hr ?_; (case hd => rfl); (case hg => rfl); (case hr => first | (go_simp; done) | (go_simp; rfl) | rfl | kernel_rfl); intro x hx w2 hbox hb; have J0 := Aside0.mk (J1.new M0.out hx hb hbox); clear hx hb hbox))
  go_loopg [7] a0.toNat (fun kq v7 wq => ∃ (i : Int), v7 = .int .i64 i ∧ Aside0 (0 ≤ i) ∧ Aside0 (i + kq = a0) ∧ Aside0 (∃ L, J1 w wq g i.toNat L x L ∧ In1 L i))
  case atStart => exact ⟨0, rfl, ⟨by omega⟩, ⟨by have := HQ.out; omega⟩, ⟨[], J0.out, In1.nil⟩⟩
  case round =>
  obtain ⟨i, rfl, H0, HI, SS⟩ := hrel
  obtain ⟨L, hj, hin⟩ := SS.out
  have JJ := Aside0.mk hj
  have HIN := Aside0.mk hin
  clear SS hj hin J0
  cases gk with
  | zero =>
    have hm : decide (i < a0) = false := decide_eq_false (by have := HI.out; omega)
    have J00 := Aside0.mk JJ.out.j2
    clear JJ HIN
    go_wp2
    go_loopg [8] l0.length (fun kq v8 wq => ∃ (y : Int), v8 = .int .i64 y ∧ Aside0 (0 ≤ y) ∧ Aside0 (y + kq = l0.length) ∧ Aside0 (∃ L, J2 w wq (fun _ => none) g (i.toNat + y.toNat) L x L))
    case atStart => exact ⟨0, rfl, ⟨by omega⟩, ⟨by omega⟩, ⟨L, J00.out⟩⟩
    case round =>
    have HNI := Aside0.mk (show i.toNat ≤ 1030 by have := HI.out; have := HQ.out; omega)
    clear J00 hm HI H0
    obtain ⟨y, rfl, H0, HI, SS⟩ := hrel
    obtain ⟨L, hj⟩ := SS.out
    have JJ := Aside0.mk hj
    have HLL := Aside0.mk hj.ok.2.2.2
    clear SS hj
    cases gk with
    | zero =>
      have hn : decide (y < (l0.length : Int)) = false := decide_eq_false (by have := HI.out; omega)
      go_wp2_with (go_at_call 9; (with_reducible refine (awake_x _).mono ?_); rintro x_ w9 ⟨rfl, hb⟩; have B9 := Aside0.mk (JJ.out.below hb); clear hb)
      go_ret
      exact ⟨rfl, B9.out.bl⟩
    | succ k1 =>
      have hlt := (show y < (l0.length : Int) by have := HI.out; omega)
      have h0 := H0.out
      have hd : decide (y < (l0.length : Int)) = true := decide_eq_true hlt
      have hw : wrap64 (y + 1) = y + 1 := w64 (by omega) (by have := HQ.out; omega)
      have HNB := Aside0.mk (show i.toNat + y.toNat ≤ 1000000000 by have := HQ.out; have := HNI.out; omega)
      have HWK := Aside0.mk (HOS.out.at h0 hlt)
      obtain ⟨ad, e_, x0, x1, x2⟩ := at_T29 (Kd.C_below HR0.out JJ.out.bl) y h0 hlt
      cases e_
      have h0t := eq_true h0
      have hltt := eq_true hlt
      by_cases g0 : (rd_T29 l0 y).f0 = 0
      · have p0 : ((rd_T29 l0 y).f0 == 0) = true := beq_iff_eq.mpr g0
        obtain ⟨v, hv⟩ : ∃ v, setE L (rd_T29 l0 y).f1 (rd_T29 l0 y).f2 = v := ⟨_, rfl⟩
        have HV := Aside0.mk hv
        have hvv : (v == v) = true := beq_self_eq_true v
        clear g0 hv
        go_upto_region 24 with ((with_reducible refine gate_dst (N := 9) rfl ?_); refine box_event ?hg (N := 9) ?hd (cs := #[.int .i64 0, .int .i64 0, .int .i64 0]) (t := 29) ?hr ?_; (case hd => rfl); (case hg => rfl); (case hr => first | (go_simp; done) | (go_simp; rfl)); intro gt hg w3 hbox hb; have BT3 := Aside0.mk (blk_put (blk_put (blk_put hbox 0 (.int .i64 (rd_T29 l0 y).f0) (cs' := #[.int .i64 (rd_T29 l0 y).f0, .int .i64 0, .int .i64 0]) rfl) 1 (.int .i64 (rd_T29 l0 y).f1) (cs' := #[.int .i64 (rd_T29 l0 y).f0, .int .i64 (rd_T29 l0 y).f1, .int .i64 0]) rfl) 2 (.int .i64 (rd_T29 l0 y).f2) (cs' := #[.int .i64 (rd_T29 l0 y).f0, .int .i64 (rd_T29 l0 y).f1, .int .i64 (rd_T29 l0 y).f2]) rfl); have JE := Aside0.mk (JJ.out.more hg (show Below wr.heap.size wr (((w3.setCell ⟨gt, 0, none⟩ (.int .i64 (rd_T29 l0 y).f0)).setCell ⟨gt, 1, none⟩ (.int .i64 (rd_T29 l0 y).f1)).setCell ⟨gt, 2, none⟩ (.int .i64 (rd_T29 l0 y).f2)) from below_set (below_set (below_set hb (Nat.le_of_eq hg.symm)) (Nat.le_of_eq hg.symm)) (Nat.le_of_eq hg.symm)) BT3.out); have a0 := (blk_cell hbox 0).trans rfl; have a1 := (blk_cell hbox 1).trans rfl; have a2 := (blk_cell hbox 2).trans rfl; have af0 := blk_frozen hbox 0; have af1 := blk_frozen hbox 1; have af2 := blk_frozen hbox 2; have b0 := (blk_cell BT3.out 0).trans rfl; have b1 := (blk_cell BT3.out 1).trans rfl; have b2 := (blk_cell BT3.out 2).trans rfl; clear hb hbox hg)
        refine start_ (n := 14) (S := fun w' => w'.cell? ⟨gt, 1, none⟩ = some (.int .i64 (rd_T29 l0 y).f1) ∧ w'.cell? ⟨gt, 2, none⟩ = some (.int .i64 (rd_T29 l0 y).f2)) (ds := [11]) #[false, false, false, false, false, false, false, false, false, false, false, false, false, false] (by kernel_rfl) rfl rfl ⟨b1, b2⟩ (fun hHeld => ?_); refine with_tabW wde.tab24 wde.bits24 (fun HT_ HW_ => ?_)
        refine pure_ (i := 0) (N := some 101) (v := ?_) (a' := ?_) #[true, false, false, false, false, false, false, false, false, false, false, false, false, false] rfl rfl (any_of HT_.out (by kernel_rfl)) (fun _ _ _ h => h) (Or.inl ⟨by rfl, ?_⟩) ?_ ?_
        rotate_left
        · intro w'
          go_simp
          with_reducible rfl
        rotate_left
        · simp only [Act.put, List.setIfInBounds_toArray, List.set_cons_zero, List.set_cons_succ, i64_w, i32_w]
          rfl
        refine pure_ (i := 1) (N := some 102) (v := ?_) (a' := ?_) #[true, true, false, false, false, false, false, false, false, false, false, false, false, false] rfl rfl (any_of HT_.out (by kernel_rfl)) (fun _ _ _ h => h) (Or.inl ⟨by rfl, ?_⟩) ?_ ?_
        rotate_left
        · intro w'
          go_simp
          with_reducible rfl
        rotate_left
        · simp only [Act.put, List.setIfInBounds_toArray, List.set_cons_zero, List.set_cons_succ, i64_w, i32_w]
          rfl
        refine pure_ (i := 3) (N := some 104) (v := ?_) (a' := ?_) #[true, true, false, true, false, false, false, false, false, false, false, false, false, false] rfl rfl (any_of HT_.out (by kernel_rfl)) (fun _ _ _ h => h) (Or.inl ⟨by rfl, ?_⟩) ?_ ?_
        rotate_left
        · intro w'
          go_simp
          with_reducible rfl
        rotate_left
        · simp only [Act.put, List.setIfInBounds_toArray, List.set_cons_zero, List.set_cons_succ, i64_w, i32_w]
          rfl
        refine pure_ (i := 6) (N := some 107) (v := ?_) (a' := ?_) #[true, true, false, true, false, false, true, false, false, false, false, false, false, false] rfl rfl (any_of HT_.out (by kernel_rfl)) (fun _ _ _ h => h) (Or.inl ⟨by rfl, ?_⟩) ?_ ?_
        rotate_left
        · intro w'
          go_simp
          with_reducible rfl
        rotate_left
        · simp only [Act.put, List.setIfInBounds_toArray, List.set_cons_zero, List.set_cons_succ, i64_w, i32_w]
          rfl
        refine pure_ (i := 7) (N := some 108) (v := ?_) (a' := ?_) #[true, true, false, true, false, false, true, true, false, false, false, false, false, false] rfl rfl (any_of HT_.out (by kernel_rfl)) (fun _ _ _ h => h) (Or.inl ⟨by rfl, ?_⟩) ?_ ?_
        rotate_left
        · intro w'
          go_simp
          with_reducible rfl
        rotate_left
        · simp only [Act.put, List.setIfInBounds_toArray, List.set_cons_zero, List.set_cons_succ, i64_w, i32_w]
          rfl
        refine pure_ (i := 9) (N := some 110) (v := ?_) (a' := ?_) #[true, true, false, true, false, false, true, true, false, true, false, false, false, false] rfl rfl (any_of HT_.out (by kernel_rfl)) (fun _ _ _ h => h) (Or.inl ⟨by rfl, ?_⟩) ?_ ?_
        rotate_left
        · intro w'
          go_simp
          with_reducible rfl
        rotate_left
        · simp only [Act.put, List.setIfInBounds_toArray, List.set_cons_zero, List.set_cons_succ, i64_w, i32_w]
          rfl
        refine take_ (i := 2) (N := some 103) (v := ?_) (a' := ?_) #[true, true, true, true, false, false, true, true, false, true, false, false, false, false] rfl rfl (take_ofW HT_.out HW_.out (by kernel_rfl)) (fun _ _ _ h => h) (Or.inl ⟨by rfl, ?_⟩) hHeld ?_ ?_
        rotate_left
        · rintro w' ⟨s0, s1⟩
          go_simp
          with_reducible rfl
        rotate_left
        · simp only [Act.put, List.setIfInBounds_toArray, List.set_cons_zero, List.set_cons_succ, i64_w, i32_w]
          rfl
        refine take_ (i := 4) (N := some 105) (v := ?_) (a' := ?_) #[true, true, true, true, true, false, true, true, false, true, false, false, false, false] rfl rfl (take_ofW HT_.out HW_.out (by kernel_rfl)) (fun _ _ _ h => h) (Or.inl ⟨by rfl, ?_⟩) hHeld ?_ ?_
        rotate_left
        · rintro w' ⟨s0, s1⟩
          go_simp
          with_reducible rfl
        rotate_left
        · simp only [Act.put, List.setIfInBounds_toArray, List.set_cons_zero, List.set_cons_succ, i64_w, i32_w]
          rfl
        refine take_ (i := 8) (N := some 109) (v := ?_) (a' := ?_) #[true, true, true, true, true, false, true, true, true, true, false, false, false, false] rfl rfl (take_ofW HT_.out HW_.out (by kernel_rfl)) (fun _ _ _ h => h) (Or.inl ⟨by rfl, ?_⟩) hHeld ?_ ?_
        rotate_left
        · rintro w' ⟨s0, s1⟩
          go_simp
          with_reducible rfl
        rotate_left
        · simp only [Act.put, List.setIfInBounds_toArray, List.set_cons_zero, List.set_cons_succ, i64_w, i32_w]
          rfl
        refine take_ (i := 10) (N := some 111) (v := ?_) (a' := ?_) #[true, true, true, true, true, false, true, true, true, true, true, false, false, false] rfl rfl (take_ofW HT_.out HW_.out (by kernel_rfl)) (fun _ _ _ h => h) (Or.inl ⟨by rfl, ?_⟩) hHeld ?_ ?_
        rotate_left
        · rintro w' ⟨s0, s1⟩
          go_simp
          with_reducible rfl
        rotate_left
        · simp only [Act.put, List.setIfInBounds_toArray, List.set_cons_zero, List.set_cons_succ, i64_w, i32_w]
          rfl
        refine one_ (i := 5) (N := some 106) #[true, true, true, true, true, true, true, true, true, true, true, false, false, false] rfl rfl (one_of HT_.out (by kernel_rfl)) (by decide) (fun K hK => ?_)
        refine goes_ Try.func10 (by kernel_rfl) rfl #[.pointer (some ⟨g, 0, none⟩), .int .i64 (rd_T29 l0 y).f1, .int .i64 (rd_T29 l0 y).f2] (by rfl) rfl rfl (by simp only [List.map_toArray, List.map_cons, List.map_nil]; rfl) ?_
        with_reducible refine (jset_v JE.out.drew HNB.out _ _ HWK.out.1 HWK.out.2 HV.out).mono ?_
        rintro e w5 ⟨rfl, hn⟩
        refine ⟨_, rfl, ?_⟩
        have J5 := Aside0.mk hn
        clear hn
        refine hK.out _ _ ⟨(blk_cell (J5.out.extra (ex_at _ _)) 1).trans rfl, (blk_cell (J5.out.extra (ex_at _ _)) 2).trans rfl⟩ (fun hHeld => ?_)
        clear hK K
        refine norm_ (a' := ?_) ?_ ?_
        rotate_left
        · show Act.put _ (some 106) _ = _
          simp only [Act.put, List.setIfInBounds_toArray, List.set_cons_zero, List.set_cons_succ, i64_w, i32_w]
          rfl
        refine last_ (i := 11) (N := some 112) #[true, true, true, true, true, true, true, true, true, true, true, true, false, false] rfl rfl (one_of HT_.out (by kernel_rfl)) (by decide) (fun K hK => ?_)
        refine goes_ Try.func16 (by kernel_rfl) rfl #[.pointer (some ⟨x, 0, none⟩), .int .i64 (rd_T29 l0 y).f1, .int .i64 (rd_T29 l0 y).f2] (by rfl) rfl rfl (by simp only [List.map_toArray, List.map_cons, List.map_nil]; rfl) ?_
        with_reducible refine (jrset_v J5.out HLL.out _ _ HV.out).mono ?_
        rintro e w6 ⟨rfl, hn⟩
        refine ⟨_, rfl, ?_⟩
        have JQ := Aside0.mk hn
        clear hn
        refine hK.out _ _ ?_
        clear hK K
        refine norm_ (a' := ?_) ?_ ?_
        rotate_left
        · show Act.put _ (some 112) _ = _
          simp only [Act.put, List.setIfInBounds_toArray, List.set_cons_zero, List.set_cons_succ, i64_w, i32_w]
          rfl
        refine pure_ (i := 12) (N := some 113) (v := ?_) (a' := ?_) #[true, true, true, true, true, true, true, true, true, true, true, true, true, false] rfl rfl (any_of HT_.out (by kernel_rfl)) (fun _ _ _ h => h) (Or.inl ⟨by rfl, ?_⟩) ?_ ?_
        rotate_left
        · intro w'
          go_simp
          with_reducible rfl
        rotate_left
        · simp only [Act.put, List.setIfInBounds_toArray, List.set_cons_zero, List.set_cons_succ, i64_w, i32_w]
          rfl
        refine pure_ (i := 13) (N := some 10) (v := ?_) (a' := ?_) #[true, true, true, true, true, true, true, true, true, true, true, true, true, true] rfl rfl (any_of HT_.out (by kernel_rfl)) (fun _ _ _ h => h) (Or.inl ⟨by rfl, ?_⟩) ?_ ?_
        rotate_left
        · intro w'
          go_simp
          with_reducible rfl
        rotate_left
        · simp only [Act.put, List.setIfInBounds_toArray, List.set_cons_zero, List.set_cons_succ, i64_w, i32_w]
          rfl
        refine done_ (done_of HT_.out (by kernel_rfl)) ?_
        go_wp2
        have hln := JQ.out.ok.2.2.2
        obtain ⟨Ar, cr, hbx, hrc, hCr⟩ := JQ.out.seen
        obtain ⟨nn, hnn⟩ : ∃ nn, (setR L (rd_T29 l0 y).f1 (rd_T29 l0 y).f2).length = nn := ⟨_, rfl⟩
        rw [hnn] at hbx hrc hCr hln
        have HLN := Aside0.mk hnn
        have HLM := Aside0.mk (show nn ≤ 1000000000000 by omega)
        have HCR := Aside0.mk hCr
        have HRC := Aside0.mk hrc
        have z0 := (blk_cell hbx 0).trans rfl
        clear hbx hrc hCr hnn hln
        go_upto_region 29 with (fail)
        refine start_ (n := 12) (S := fun w' => w'.cell? ⟨x, 0, none⟩ = some (.slice Ar nn cr)) (ds := [9]) #[false, false, false, false, false, false, false, false, false, false, false, false] (by kernel_rfl) rfl rfl (z0) (fun hHeld => ?_); refine with_tabW wde.tab29 wde.bits29 (fun HT_ HW_ => ?_)
        refine pure_ (i := 0) (N := some 136) (v := ?_) (a' := ?_) #[true, false, false, false, false, false, false, false, false, false, false, false] rfl rfl (any_of HT_.out (by kernel_rfl)) (fun _ _ _ h => h) (Or.inl ⟨by rfl, ?_⟩) ?_ ?_
        rotate_left
        · intro w'
          go_simp
          with_reducible rfl
        rotate_left
        · simp only [Act.put, List.setIfInBounds_toArray, List.set_cons_zero, List.set_cons_succ, i64_w, i32_w]
          rfl
        refine pure_ (i := 1) (N := some 137) (v := ?_) (a' := ?_) #[true, true, false, false, false, false, false, false, false, false, false, false] rfl rfl (any_of HT_.out (by kernel_rfl)) (fun _ _ _ h => h) (Or.inl ⟨by rfl, ?_⟩) ?_ ?_
        rotate_left
        · intro w'
          go_simp
          with_reducible rfl
        rotate_left
        · simp only [Act.put, List.setIfInBounds_toArray, List.set_cons_zero, List.set_cons_succ, i64_w, i32_w]
          rfl
        refine pure_ (i := 2) (N := some 138) (v := ?_) (a' := ?_) #[true, true, true, false, false, false, false, false, false, false, false, false] rfl rfl (any_of HT_.out (by kernel_rfl)) (fun _ _ _ h => h) (Or.inl ⟨by rfl, ?_⟩) ?_ ?_
        rotate_left
        · intro w'
          go_simp
          with_reducible rfl
        rotate_left
        · simp only [Act.put, List.setIfInBounds_toArray, List.set_cons_zero, List.set_cons_succ, i64_w, i32_w]
          rfl
        refine pure_ (i := 3) (N := some 139) (v := ?_) (a' := ?_) #[true, true, true, true, false, false, false, false, false, false, false, false] rfl rfl (any_of HT_.out (by kernel_rfl)) (fun _ _ _ h => h) (Or.inl ⟨by rfl, ?_⟩) ?_ ?_
        rotate_left
        · intro w'
          go_simp
          with_reducible rfl
        rotate_left
        · simp only [Act.put, List.setIfInBounds_toArray, List.set_cons_zero, List.set_cons_succ, i64_w, i32_w]
          rfl
        refine pure_ (i := 5) (N := some 141) (v := ?_) (a' := ?_) #[true, true, true, true, false, true, false, false, false, false, false, false] rfl rfl (any_of HT_.out (by kernel_rfl)) (fun _ _ _ h => h) (Or.inl ⟨by rfl, ?_⟩) ?_ ?_
        rotate_left
        · intro w'
          go_simp
          with_reducible rfl
        rotate_left
        · simp only [Act.put, List.setIfInBounds_toArray, List.set_cons_zero, List.set_cons_succ, i64_w, i32_w]
          rfl
        refine pure_ (i := 6) (N := some 142) (v := ?_) (a' := ?_) #[true, true, true, true, false, true, true, false, false, false, false, false] rfl rfl (any_of HT_.out (by kernel_rfl)) (fun _ _ _ h => h) (Or.inl ⟨by rfl, ?_⟩) ?_ ?_
        rotate_left
        · intro w'
          go_simp
          with_reducible rfl
        rotate_left
        · simp only [Act.put, List.setIfInBounds_toArray, List.set_cons_zero, List.set_cons_succ, i64_w, i32_w]
          rfl
        refine pure_ (i := 7) (N := some 143) (v := ?_) (a' := ?_) #[true, true, true, true, false, true, true, true, false, false, false, false] rfl rfl (any_of HT_.out (by kernel_rfl)) (fun _ _ _ h => h) (Or.inl ⟨by rfl, ?_⟩) ?_ ?_
        rotate_left
        · intro w'
          go_simp
          with_reducible rfl
        rotate_left
        · simp only [Act.put, List.setIfInBounds_toArray, List.set_cons_zero, List.set_cons_succ, i64_w, i32_w]
          rfl
        refine take_ (i := 8) (N := some 144) (v := ?_) (a' := ?_) #[true, true, true, true, false, true, true, true, true, false, false, false] rfl rfl (take_ofW HT_.out HW_.out (by kernel_rfl)) (fun _ _ _ h => h) (Or.inl ⟨by rfl, ?_⟩) hHeld ?_ ?_
        rotate_left
        · intro w' s0
          go_simp
          with_reducible rfl
        rotate_left
        · simp only [Act.put, List.setIfInBounds_toArray, List.set_cons_zero, List.set_cons_succ, i64_w, i32_w]
          rfl
        refine one_ (i := 4) (N := some 140) #[true, true, true, true, true, true, true, true, true, false, false, false] rfl rfl (one_of HT_.out (by kernel_rfl)) (by decide) (fun K hK => ?_)
        refine goes_ Try.func11 (by kernel_rfl) rfl #[.pointer (some ⟨g, 0, none⟩)] (by rfl) rfl rfl (by simp only [List.map_toArray, List.map_cons, List.map_nil]; rfl) ?_
        with_reducible refine (jlist JQ.out.drew HLN.out).mono ?_
        rintro e w8 ⟨A8, c8, rfl, hC, hlc, hn, hb⟩
        refine ⟨_, rfl, ?_⟩
        have J8 := Aside0.mk hn
        have HC8 := Aside0.mk hC
        have HL8 := Aside0.mk hlc
        have HB8 := Aside0.mk hb
        clear hn hC hlc
        refine hK.out _ _ ((hb.cell (World.block_lt_of_cell? _ _ hHeld)).trans hHeld) (fun hHeld => ?_)
        clear hK K
        refine norm_ (a' := ?_) ?_ ?_
        rotate_left
        · show Act.put _ (some 140) _ = _
          simp only [Act.put, List.setIfInBounds_toArray, List.set_cons_zero, List.set_cons_succ, i64_w, i32_w]
          rfl
        refine last_ (i := 9) (N := some 145) #[true, true, true, true, true, true, true, true, true, true, false, false] rfl rfl (one_of HT_.out (by kernel_rfl)) (by decide) (fun K hK => ?_)
        refine goes_ Try.func15 (by kernel_rfl) rfl #[.slice A8 nn c8, .slice Ar nn cr] (by rfl) rfl rfl (by simp only [List.map_toArray, List.map_cons, List.map_nil]; rfl) ?_
        with_reducible refine (same_n HC8.out HL8.out (Kd.C_below (Kd.C_drew HCR.out) HB8.out) HRC.out HLN.out HLM.out).mono ?_
        rintro e w9 ⟨rfl, hd⟩
        refine ⟨_, rfl, ?_⟩
        have J9 := Aside0.mk (J8.out.below (drawn_below hd))
        clear hd
        refine hK.out _ _ ?_
        clear hK K
        refine norm_ (a' := ?_) ?_ ?_
        rotate_left
        · show Act.put _ (some 145) _ = _
          simp only [Act.put, List.setIfInBounds_toArray, List.set_cons_zero, List.set_cons_succ, i64_w, i32_w]
          rfl
        refine pure_ (i := 10) (N := some 146) (v := ?_) (a' := ?_) #[true, true, true, true, true, true, true, true, true, true, true, false] rfl rfl (any_of HT_.out (by kernel_rfl)) (fun _ _ _ h => h) (Or.inl ⟨by rfl, ?_⟩) ?_ ?_
        rotate_left
        · intro w'
          go_simp
          with_reducible rfl
        rotate_left
        · simp only [Act.put, List.setIfInBounds_toArray, List.set_cons_zero, List.set_cons_succ, i64_w, i32_w]
          rfl
        refine pure_ (i := 11) (N := some 147) (v := ?_) (a' := ?_) #[true, true, true, true, true, true, true, true, true, true, true, true] rfl rfl (any_of HT_.out (by kernel_rfl)) (fun _ _ _ h => h) (Or.inl ⟨by rfl, ?_⟩) ?_ ?_
        rotate_left
        · intro w'
          go_simp
          with_reducible rfl
        rotate_left
        · simp only [Act.put, List.setIfInBounds_toArray, List.set_cons_zero, List.set_cons_succ, i64_w, i32_w]
          rfl
        refine done_ (done_of HT_.out (by kernel_rfl)) ?_
        go_wp2
        go_roundg k1
        case measure => have := HI.out; omega
        case rel => exact ⟨y + 1, by first | rfl | simp [hw], ⟨by omega⟩, ⟨by have := HI.out; omega⟩, ⟨_, J9.out.less.wide (by have := H0.out; omega)⟩⟩
      · have p0 : ((rd_T29 l0 y).f0 == 0) = false := beq_eq_false_iff_ne.mpr g0
        by_cases g1 : (rd_T29 l0 y).f0 = 1
        · have p1 : ((rd_T29 l0 y).f0 == 1) = true := beq_iff_eq.mpr g1
          obtain ⟨v, hv⟩ : ∃ v : Int, (if (tm L (rd_T29 l0 y).f1).isSome then 0 else 7) = v := ⟨_, rfl⟩
          have HV := Aside0.mk hv
          have hvv : (v == v) = true := beq_self_eq_true v
          clear g0 g1 hv
          go_upto_region 26 with ((with_reducible refine gate_dst (N := 9) rfl ?_); refine box_event ?hg (N := 9) ?hd (cs := #[.int .i64 0, .int .i64 0, .int .i64 0]) (t := 29) ?hr ?_; (case hd => rfl); (case hg => rfl); (case hr => first | (go_simp; done) | (go_simp; rfl)); intro gt hg w3 hbox hb; have BT3 := Aside0.mk (blk_put (blk_put (blk_put hbox 0 (.int .i64 (rd_T29 l0 y).f0) (cs' := #[.int .i64 (rd_T29 l0 y).f0, .int .i64 0, .int .i64 0]) rfl) 1 (.int .i64 (rd_T29 l0 y).f1) (cs' := #[.int .i64 (rd_T29 l0 y).f0, .int .i64 (rd_T29 l0 y).f1, .int .i64 0]) rfl) 2 (.int .i64 (rd_T29 l0 y).f2) (cs' := #[.int .i64 (rd_T29 l0 y).f0, .int .i64 (rd_T29 l0 y).f1, .int .i64 (rd_T29 l0 y).f2]) rfl); have JE := Aside0.mk (JJ.out.more hg (show Below wr.heap.size wr (((w3.setCell ⟨gt, 0, none⟩ (.int .i64 (rd_T29 l0 y).f0)).setCell ⟨gt, 1, none⟩ (.int .i64 (rd_T29 l0 y).f1)).setCell ⟨gt, 2, none⟩ (.int .i64 (rd_T29 l0 y).f2)) from below_set (below_set (below_set hb (Nat.le_of_eq hg.symm)) (Nat.le_of_eq hg.symm)) (Nat.le_of_eq hg.symm)) BT3.out); have a0 := (blk_cell hbox 0).trans rfl; have a1 := (blk_cell hbox 1).trans rfl; have a2 := (blk_cell hbox 2).trans rfl; have af0 := blk_frozen hbox 0; have af1 := blk_frozen hbox 1; have af2 := blk_frozen hbox 2; have b0 := (blk_cell BT3.out 0).trans rfl; have b1 := (blk_cell BT3.out 1).trans rfl; have b2 := (blk_cell BT3.out 2).trans rfl; clear hb hbox hg)
          refine start_ (n := 10) (S := fun w' => w'.cell? ⟨gt, 1, none⟩ = some (.int .i64 (rd_T29 l0 y).f1)) (ds := [7]) #[false, false, false, false, false, false, false, false, false, false] (by kernel_rfl) rfl rfl (b1) (fun hHeld => ?_); refine with_tabW wde.tab26 wde.bits26 (fun HT_ HW_ => ?_)
          refine pure_ (i := 0) (N := some 116) (v := ?_) (a' := ?_) #[true, false, false, false, false, false, false, false, false, false] rfl rfl (any_of HT_.out (by kernel_rfl)) (fun _ _ _ h => h) (Or.inl ⟨by rfl, ?_⟩) ?_ ?_
          rotate_left
          · intro w'
            go_simp
            with_reducible rfl
          rotate_left
          · simp only [Act.put, List.setIfInBounds_toArray, List.set_cons_zero, List.set_cons_succ, i64_w, i32_w]
            rfl
          refine pure_ (i := 1) (N := some 117) (v := ?_) (a' := ?_) #[true, true, false, false, false, false, false, false, false, false] rfl rfl (any_of HT_.out (by kernel_rfl)) (fun _ _ _ h => h) (Or.inl ⟨by rfl, ?_⟩) ?_ ?_
          rotate_left
          · intro w'
            go_simp
            with_reducible rfl
          rotate_left
          · simp only [Act.put, List.setIfInBounds_toArray, List.set_cons_zero, List.set_cons_succ, i64_w, i32_w]
            rfl
          refine pure_ (i := 4) (N := some 120) (v := ?_) (a' := ?_) #[true, true, false, false, true, false, false, false, false, false] rfl rfl (any_of HT_.out (by kernel_rfl)) (fun _ _ _ h => h) (Or.inl ⟨by rfl, ?_⟩) ?_ ?_
          rotate_left
          · intro w'
            go_simp
            with_reducible rfl
          rotate_left
          · simp only [Act.put, List.setIfInBounds_toArray, List.set_cons_zero, List.set_cons_succ, i64_w, i32_w]
            rfl
          refine pure_ (i := 5) (N := some 121) (v := ?_) (a' := ?_) #[true, true, false, false, true, true, false, false, false, false] rfl rfl (any_of HT_.out (by kernel_rfl)) (fun _ _ _ h => h) (Or.inl ⟨by rfl, ?_⟩) ?_ ?_
          rotate_left
          · intro w'
            go_simp
            with_reducible rfl
          rotate_left
          · simp only [Act.put, List.setIfInBounds_toArray, List.set_cons_zero, List.set_cons_succ, i64_w, i32_w]
            rfl
          refine take_ (i := 2) (N := some 118) (v := ?_) (a' := ?_) #[true, true, true, false, true, true, false, false, false, false] rfl rfl (take_ofW HT_.out HW_.out (by kernel_rfl)) (fun _ _ _ h => h) (Or.inl ⟨by rfl, ?_⟩) hHeld ?_ ?_
          rotate_left
          · intro w' s0
            go_simp
            with_reducible rfl
          rotate_left
          · simp only [Act.put, List.setIfInBounds_toArray, List.set_cons_zero, List.set_cons_succ, i64_w, i32_w]
            rfl
          refine take_ (i := 6) (N := some 122) (v := ?_) (a' := ?_) #[true, true, true, false, true, true, true, false, false, false] rfl rfl (take_ofW HT_.out HW_.out (by kernel_rfl)) (fun _ _ _ h => h) (Or.inl ⟨by rfl, ?_⟩) hHeld ?_ ?_
          rotate_left
          · intro w' s0
            go_simp
            with_reducible rfl
          rotate_left
          · simp only [Act.put, List.setIfInBounds_toArray, List.set_cons_zero, List.set_cons_succ, i64_w, i32_w]
            rfl
          refine one_ (i := 3) (N := some 119) #[true, true, true, true, true, true, true, false, false, false] rfl rfl (one_of HT_.out (by kernel_rfl)) (by decide) (fun K hK => ?_)
          refine goes_ Try.func17 (by kernel_rfl) rfl #[.pointer (some ⟨g, 0, none⟩), .int .i64 (rd_T29 l0 y).f1] (by rfl) rfl rfl (by simp only [List.map_toArray, List.map_cons, List.map_nil]; rfl) ?_
          with_reducible refine (jstop_v JE.out.drew _ HWK.out.1 HV.out).mono ?_
          rintro e w5 ⟨rfl, hn⟩
          refine ⟨_, rfl, ?_⟩
          have J5 := Aside0.mk hn
          clear hn
          refine hK.out _ _ ((blk_cell (J5.out.extra (ex_at _ _)) 1).trans rfl) (fun hHeld => ?_)
          clear hK K
          refine norm_ (a' := ?_) ?_ ?_
          rotate_left
          · show Act.put _ (some 119) _ = _
            simp only [Act.put, List.setIfInBounds_toArray, List.set_cons_zero, List.set_cons_succ, i64_w, i32_w]
            rfl
          refine last_ (i := 7) (N := some 123) #[true, true, true, true, true, true, true, true, false, false] rfl rfl (one_of HT_.out (by kernel_rfl)) (by decide) (fun K hK => ?_)
          refine goes_ Try.func18 (by kernel_rfl) rfl #[.pointer (some ⟨x, 0, none⟩), .int .i64 (rd_T29 l0 y).f1] (by rfl) rfl rfl (by simp only [List.map_toArray, List.map_cons, List.map_nil]; rfl) ?_
          with_reducible refine (jrstop_v J5.out HLL.out _ HV.out).mono ?_
          rintro e w6 ⟨rfl, hn⟩
          refine ⟨_, rfl, ?_⟩
          have JQ := Aside0.mk hn
          clear hn
          refine hK.out _ _ ?_
          clear hK K
          refine norm_ (a' := ?_) ?_ ?_
          rotate_left
          · show Act.put _ (some 123) _ = _
            simp only [Act.put, List.setIfInBounds_toArray, List.set_cons_zero, List.set_cons_succ, i64_w, i32_w]
            rfl
          refine pure_ (i := 8) (N := some 124) (v := ?_) (a' := ?_) #[true, true, true, true, true, true, true, true, true, false] rfl rfl (any_of HT_.out (by kernel_rfl)) (fun _ _ _ h => h) (Or.inl ⟨by rfl, ?_⟩) ?_ ?_
          rotate_left
          · intro w'
            go_simp
            with_reducible rfl
          rotate_left
          · simp only [Act.put, List.setIfInBounds_toArray, List.set_cons_zero, List.set_cons_succ, i64_w, i32_w]
            rfl
          refine pure_ (i := 9) (N := some 10) (v := ?_) (a' := ?_) #[true, true, true, true, true, true, true, true, true, true] rfl rfl (any_of HT_.out (by kernel_rfl)) (fun _ _ _ h => h) (Or.inl ⟨by rfl, ?_⟩) ?_ ?_
          rotate_left
          · intro w'
            go_simp
            with_reducible rfl
          rotate_left
          · simp only [Act.put, List.setIfInBounds_toArray, List.set_cons_zero, List.set_cons_succ, i64_w, i32_w]
            rfl
          refine done_ (done_of HT_.out (by kernel_rfl)) ?_
          go_wp2
          have hln := JQ.out.ok.2.2.2
          obtain ⟨Ar, cr, hbx, hrc, hCr⟩ := JQ.out.seen
          obtain ⟨nn, hnn⟩ : ∃ nn, (dropL L (rd_T29 l0 y).f1).length = nn := ⟨_, rfl⟩
          rw [hnn] at hbx hrc hCr hln
          have HLN := Aside0.mk hnn
          have HLM := Aside0.mk (show nn ≤ 1000000000000 by omega)
          have HCR := Aside0.mk hCr
          have HRC := Aside0.mk hrc
          have z0 := (blk_cell hbx 0).trans rfl
          clear hbx hrc hCr hnn hln
          go_upto_region 29 with (fail)
          refine start_ (n := 12) (S := fun w' => w'.cell? ⟨x, 0, none⟩ = some (.slice Ar nn cr)) (ds := [9]) #[false, false, false, false, false, false, false, false, false, false, false, false] (by kernel_rfl) rfl rfl (z0) (fun hHeld => ?_); refine with_tabW wde.tab29 wde.bits29 (fun HT_ HW_ => ?_)
          refine pure_ (i := 0) (N := some 136) (v := ?_) (a' := ?_) #[true, false, false, false, false, false, false, false, false, false, false, false] rfl rfl (any_of HT_.out (by kernel_rfl)) (fun _ _ _ h => h) (Or.inl ⟨by rfl, ?_⟩) ?_ ?_
          rotate_left
          · intro w'
            go_simp
            with_reducible rfl
          rotate_left
          · simp only [Act.put, List.setIfInBounds_toArray, List.set_cons_zero, List.set_cons_succ, i64_w, i32_w]
            rfl
          refine pure_ (i := 1) (N := some 137) (v := ?_) (a' := ?_) #[true, true, false, false, false, false, false, false, false, false, false, false] rfl rfl (any_of HT_.out (by kernel_rfl)) (fun _ _ _ h => h) (Or.inl ⟨by rfl, ?_⟩) ?_ ?_
          rotate_left
          · intro w'
            go_simp
            with_reducible rfl
          rotate_left
          · simp only [Act.put, List.setIfInBounds_toArray, List.set_cons_zero, List.set_cons_succ, i64_w, i32_w]
            rfl
          refine pure_ (i := 2) (N := some 138) (v := ?_) (a' := ?_) #[true, true, true, false, false, false, false, false, false, false, false, false] rfl rfl (any_of HT_.out (by kernel_rfl)) (fun _ _ _ h => h) (Or.inl ⟨by rfl, ?_⟩) ?_ ?_
          rotate_left
          · intro w'
            go_simp
            with_reducible rfl
          rotate_left
          · simp only [Act.put, List.setIfInBounds_toArray, List.set_cons_zero, List.set_cons_succ, i64_w, i32_w]
            rfl
          refine pure_ (i := 3) (N := some 139) (v := ?_) (a' := ?_) #[true, true, true, true, false, false, false, false, false, false, false, false] rfl rfl (any_of HT_.out (by kernel_rfl)) (fun _ _ _ h => h) (Or.inl ⟨by rfl, ?_⟩) ?_ ?_
          rotate_left
          · intro w'
            go_simp
            with_reducible rfl
          rotate_left
          · simp only [Act.put, List.setIfInBounds_toArray, List.set_cons_zero, List.set_cons_succ, i64_w, i32_w]
            rfl
          refine pure_ (i := 5) (N := some 141) (v := ?_) (a' := ?_) #[true, true, true, true, false, true, false, false, false, false, false, false] rfl rfl (any_of HT_.out (by kernel_rfl)) (fun _ _ _ h => h) (Or.inl ⟨by rfl, ?_⟩) ?_ ?_
          rotate_left
          · intro w'
            go_simp
            with_reducible rfl
          rotate_left
          · simp only [Act.put, List.setIfInBounds_toArray, List.set_cons_zero, List.set_cons_succ, i64_w, i32_w]
            rfl
          refine pure_ (i := 6) (N := some 142) (v := ?_) (a' := ?_) #[true, true, true, true, false, true, true, false, false, false, false, false] rfl rfl (any_of HT_.out (by kernel_rfl)) (fun _ _ _ h => h) (Or.inl ⟨by rfl, ?_⟩) ?_ ?_
          rotate_left
          · intro w'
            go_simp
            with_reducible rfl
          rotate_left
          · simp only [Act.put, List.setIfInBounds_toArray, List.set_cons_zero, List.set_cons_succ, i64_w, i32_w]
            rfl
          refine pure_ (i := 7) (N := some 143) (v := ?_) (a' := ?_) #[true, true, true, true, false, true, true, true, false, false, false, false] rfl rfl (any_of HT_.out (by kernel_rfl)) (fun _ _ _ h => h) (Or.inl ⟨by rfl, ?_⟩) ?_ ?_
          rotate_left
          · intro w'
            go_simp
            with_reducible rfl
          rotate_left
          · simp only [Act.put, List.setIfInBounds_toArray, List.set_cons_zero, List.set_cons_succ, i64_w, i32_w]
            rfl
          refine take_ (i := 8) (N := some 144) (v := ?_) (a' := ?_) #[true, true, true, true, false, true, true, true, true, false, false, false] rfl rfl (take_ofW HT_.out HW_.out (by kernel_rfl)) (fun _ _ _ h => h) (Or.inl ⟨by rfl, ?_⟩) hHeld ?_ ?_
          rotate_left
          · intro w' s0
            go_simp
            with_reducible rfl
          rotate_left
          · simp only [Act.put, List.setIfInBounds_toArray, List.set_cons_zero, List.set_cons_succ, i64_w, i32_w]
            rfl
          refine one_ (i := 4) (N := some 140) #[true, true, true, true, true, true, true, true, true, false, false, false] rfl rfl (one_of HT_.out (by kernel_rfl)) (by decide) (fun K hK => ?_)
          refine goes_ Try.func11 (by kernel_rfl) rfl #[.pointer (some ⟨g, 0, none⟩)] (by rfl) rfl rfl (by simp only [List.map_toArray, List.map_cons, List.map_nil]; rfl) ?_
          with_reducible refine (jlist JQ.out.drew HLN.out).mono ?_
          rintro e w8 ⟨A8, c8, rfl, hC, hlc, hn, hb⟩
          refine ⟨_, rfl, ?_⟩
          have J8 := Aside0.mk hn
          have HC8 := Aside0.mk hC
          have HL8 := Aside0.mk hlc
          have HB8 := Aside0.mk hb
          clear hn hC hlc
          refine hK.out _ _ ((hb.cell (World.block_lt_of_cell? _ _ hHeld)).trans hHeld) (fun hHeld => ?_)
          clear hK K
          refine norm_ (a' := ?_) ?_ ?_
          rotate_left
          · show Act.put _ (some 140) _ = _
            simp only [Act.put, List.setIfInBounds_toArray, List.set_cons_zero, List.set_cons_succ, i64_w, i32_w]
            rfl
          refine last_ (i := 9) (N := some 145) #[true, true, true, true, true, true, true, true, true, true, false, false] rfl rfl (one_of HT_.out (by kernel_rfl)) (by decide) (fun K hK => ?_)
          refine goes_ Try.func15 (by kernel_rfl) rfl #[.slice A8 nn c8, .slice Ar nn cr] (by rfl) rfl rfl (by simp only [List.map_toArray, List.map_cons, List.map_nil]; rfl) ?_
          with_reducible refine (same_n HC8.out HL8.out (Kd.C_below (Kd.C_drew HCR.out) HB8.out) HRC.out HLN.out HLM.out).mono ?_
          rintro e w9 ⟨rfl, hd⟩
          refine ⟨_, rfl, ?_⟩
          have J9 := Aside0.mk (J8.out.below (drawn_below hd))
          clear hd
          refine hK.out _ _ ?_
          clear hK K
          refine norm_ (a' := ?_) ?_ ?_
          rotate_left
          · show Act.put _ (some 145) _ = _
            simp only [Act.put, List.setIfInBounds_toArray, List.set_cons_zero, List.set_cons_succ, i64_w, i32_w]
            rfl
          refine pure_ (i := 10) (N := some 146) (v := ?_) (a' := ?_) #[true, true, true, true, true, true, true, true, true, true, true, false] rfl rfl (any_of HT_.out (by kernel_rfl)) (fun _ _ _ h => h) (Or.inl ⟨by rfl, ?_⟩) ?_ ?_
          rotate_left
          · intro w'
            go_simp
            with_reducible rfl
          rotate_left
          · simp only [Act.put, List.setIfInBounds_toArray, List.set_cons_zero, List.set_cons_succ, i64_w, i32_w]
            rfl
          refine pure_ (i := 11) (N := some 147) (v := ?_) (a' := ?_) #[true, true, true, true, true, true, true, true, true, true, true, true] rfl rfl (any_of HT_.out (by kernel_rfl)) (fun _ _ _ h => h) (Or.inl ⟨by rfl, ?_⟩) ?_ ?_
          rotate_left
          · intro w'
            go_simp
            with_reducible rfl
          rotate_left
          · simp only [Act.put, List.setIfInBounds_toArray, List.set_cons_zero, List.set_cons_succ, i64_w, i32_w]
            rfl
          refine done_ (done_of HT_.out (by kernel_rfl)) ?_
          go_wp2
          go_roundg k1
          case measure => have := HI.out; omega
          case rel => exact ⟨y + 1, by first | rfl | simp [hw], ⟨by omega⟩, ⟨by have := HI.out; omega⟩, ⟨_, J9.out.less.wide (by have := H0.out; omega)⟩⟩
        · have p1 : ((rd_T29 l0 y).f0 == 1) = false := beq_eq_false_iff_ne.mpr g1
          by_cases g2 : (rd_T29 l0 y).f0 = 2
          · have p2 : ((rd_T29 l0 y).f0 == 2) = true := beq_iff_eq.mpr g2
            obtain ⟨n, hn⟩ : ∃ n, dueN L (rd_T29 l0 y).f2 = n := ⟨_, rfl⟩
            have HN := Aside0.mk hn
            have hnl : n ≤ L.length := by rw [← hn]; exact dueN_le L _
            have HNL := Aside0.mk (show ((L.take n).map S35.f1).length = n by rw [List.length_map, List.length_take]; omega)
            have HNM := Aside0.mk (show n ≤ 1000000000000 by have := HLL.out; omega)
            clear g0 g1 g2 hn hnl
            go_upto_region 28 with ((with_reducible refine gate_dst (N := 9) rfl ?_); refine box_event ?hg (N := 9) ?hd (cs := #[.int .i64 0, .int .i64 0, .int .i64 0]) (t := 29) ?hr ?_; (case hd => rfl); (case hg => rfl); (case hr => first | (go_simp; done) | (go_simp; rfl)); intro gt hg w3 hbox hb; have BT3 := Aside0.mk (blk_put (blk_put (blk_put hbox 0 (.int .i64 (rd_T29 l0 y).f0) (cs' := #[.int .i64 (rd_T29 l0 y).f0, .int .i64 0, .int .i64 0]) rfl) 1 (.int .i64 (rd_T29 l0 y).f1) (cs' := #[.int .i64 (rd_T29 l0 y).f0, .int .i64 (rd_T29 l0 y).f1, .int .i64 0]) rfl) 2 (.int .i64 (rd_T29 l0 y).f2) (cs' := #[.int .i64 (rd_T29 l0 y).f0, .int .i64 (rd_T29 l0 y).f1, .int .i64 (rd_T29 l0 y).f2]) rfl); have JE := Aside0.mk (JJ.out.more hg (show Below wr.heap.size wr (((w3.setCell ⟨gt, 0, none⟩ (.int .i64 (rd_T29 l0 y).f0)).setCell ⟨gt, 1, none⟩ (.int .i64 (rd_T29 l0 y).f1)).setCell ⟨gt, 2, none⟩ (.int .i64 (rd_T29 l0 y).f2)) from below_set (below_set (below_set hb (Nat.le_of_eq hg.symm)) (Nat.le_of_eq hg.symm)) (Nat.le_of_eq hg.symm)) BT3.out); have a0 := (blk_cell hbox 0).trans rfl; have a1 := (blk_cell hbox 1).trans rfl; have a2 := (blk_cell hbox 2).trans rfl; have af0 := blk_frozen hbox 0; have af1 := blk_frozen hbox 1; have af2 := blk_frozen hbox 2; have b0 := (blk_cell BT3.out 0).trans rfl; have b1 := (blk_cell BT3.out 1).trans rfl; have b2 := (blk_cell BT3.out 2).trans rfl; clear hb hbox hg)
            refine start_ (n := 10) (S := fun w' => w'.cell? ⟨gt, 2, none⟩ = some (.int .i64 (rd_T29 l0 y).f2)) (ds := [8]) #[false, false, false, false, false, false, false, false, false, false] (by kernel_rfl) rfl rfl (b2) (fun hHeld => ?_); refine with_tabW wde.tab28 wde.bits28 (fun HT_ HW_ => ?_)
            refine pure_ (i := 0) (N := some 127) (v := ?_) (a' := ?_) #[true, false, false, false, false, false, false, false, false, false] rfl rfl (any_of HT_.out (by kernel_rfl)) (fun _ _ _ h => h) (Or.inl ⟨by rfl, ?_⟩) ?_ ?_
            rotate_left
            · intro w'
              go_simp
              with_reducible rfl
            rotate_left
            · simp only [Act.put, List.setIfInBounds_toArray, List.set_cons_zero, List.set_cons_succ, i64_w, i32_w]
              rfl
            refine pure_ (i := 1) (N := some 128) (v := ?_) (a' := ?_) #[true, true, false, false, false, false, false, false, false, false] rfl rfl (any_of HT_.out (by kernel_rfl)) (fun _ _ _ h => h) (Or.inl ⟨by rfl, ?_⟩) ?_ ?_
            rotate_left
            · intro w'
              go_simp
              with_reducible rfl
            rotate_left
            · simp only [Act.put, List.setIfInBounds_toArray, List.set_cons_zero, List.set_cons_succ, i64_w, i32_w]
              rfl
            refine pure_ (i := 4) (N := some 131) (v := ?_) (a' := ?_) #[true, true, false, false, true, false, false, false, false, false] rfl rfl (any_of HT_.out (by kernel_rfl)) (fun _ _ _ h => h) (Or.inl ⟨by rfl, ?_⟩) ?_ ?_
            rotate_left
            · intro w'
              go_simp
              with_reducible rfl
            rotate_left
            · simp only [Act.put, List.setIfInBounds_toArray, List.set_cons_zero, List.set_cons_succ, i64_w, i32_w]
              rfl
            refine pure_ (i := 5) (N := some 132) (v := ?_) (a' := ?_) #[true, true, false, false, true, true, false, false, false, false] rfl rfl (any_of HT_.out (by kernel_rfl)) (fun _ _ _ h => h) (Or.inl ⟨by rfl, ?_⟩) ?_ ?_
            rotate_left
            · intro w'
              go_simp
              with_reducible rfl
            rotate_left
            · simp only [Act.put, List.setIfInBounds_toArray, List.set_cons_zero, List.set_cons_succ, i64_w, i32_w]
              rfl
            refine take_ (i := 2) (N := some 129) (v := ?_) (a' := ?_) #[true, true, true, false, true, true, false, false, false, false] rfl rfl (take_ofW HT_.out HW_.out (by kernel_rfl)) (fun _ _ _ h => h) (Or.inl ⟨by rfl, ?_⟩) hHeld ?_ ?_
            rotate_left
            · intro w' s0
              go_simp
              with_reducible rfl
            rotate_left
            · simp only [Act.put, List.setIfInBounds_toArray, List.set_cons_zero, List.set_cons_succ, i64_w, i32_w]
              rfl
            refine take_ (i := 6) (N := some 133) (v := ?_) (a' := ?_) #[true, true, true, false, true, true, true, false, false, false] rfl rfl (take_ofW HT_.out HW_.out (by kernel_rfl)) (fun _ _ _ h => h) (Or.inl ⟨by rfl, ?_⟩) hHeld ?_ ?_
            rotate_left
            · intro w' s0
              go_simp
              with_reducible rfl
            rotate_left
            · simp only [Act.put, List.setIfInBounds_toArray, List.set_cons_zero, List.set_cons_succ, i64_w, i32_w]
              rfl
            refine one_ (i := 3) (N := some 130) #[true, true, true, true, true, true, true, false, false, false] rfl rfl (one_of HT_.out (by kernel_rfl)) (by decide) (fun K hK => ?_)
            refine goes_ Try.func12 (by kernel_rfl) rfl #[.pointer (some ⟨g, 0, none⟩), .int .i64 (rd_T29 l0 y).f2] (by rfl) rfl rfl (by simp only [List.map_toArray, List.map_cons, List.map_nil]; rfl) ?_
            with_reducible refine (jdue JE.out.drew _ HN.out).mono ?_
            rintro e w5 ⟨A5, c5, rfl, hlc, hn⟩
            refine ⟨_, rfl, ?_⟩
            have J5 := Aside0.mk hn
            have HC5 := Aside0.mk hlc
            clear hn hlc
            refine hK.out _ _ ((blk_cell (J5.out.j2.extra (ex_at _ _)) 2).trans rfl) (fun hHeld => ?_)
            clear hK K
            refine norm_ (a' := ?_) ?_ ?_
            rotate_left
            · show Act.put _ (some 130) _ = _
              simp only [Act.put, List.setIfInBounds_toArray, List.set_cons_zero, List.set_cons_succ, i64_w, i32_w]
              rfl
            refine one_ (i := 7) (N := some 134) #[true, true, true, true, true, true, true, true, false, false] rfl rfl (one_of HT_.out (by kernel_rfl)) (by decide) (fun K hK => ?_)
            refine goes_ Try.func19 (by kernel_rfl) rfl #[.pointer (some ⟨x, 0, none⟩), .int .i64 (rd_T29 l0 y).f2] (by rfl) rfl rfl (by simp only [List.map_toArray, List.map_cons, List.map_nil]; rfl) ?_
            with_reducible refine (jrdue J5.out HLL.out _ HN.out).mono ?_
            rintro e w6 ⟨A6, c6, rfl, hlc, hn, hC, hr⟩
            refine ⟨_, rfl, ?_⟩
            have J6 := Aside0.mk hn
            have HC6 := Aside0.mk hlc
            have Q6 := Aside0.mk hC
            have P6 := Aside0.mk (row_C hr HNL.out)
            clear hn hlc hC hr
            refine hK.out _ _ ((blk_cell (J6.out.extra (ex_at _ _)) 2).trans rfl) (fun hHeld => ?_)
            clear hK K
            refine norm_ (a' := ?_) ?_ ?_
            rotate_left
            · show Act.put _ (some 134) _ = _
              simp only [Act.put, List.setIfInBounds_toArray, List.set_cons_zero, List.set_cons_succ, i64_w, i32_w]
              rfl
            refine last_ (i := 8) (N := some 135) #[true, true, true, true, true, true, true, true, true, false] rfl rfl (one_of HT_.out (by kernel_rfl)) (by decide) (fun K hK => ?_)
            refine goes_ Try.func14 (by kernel_rfl) rfl #[.slice A5 n c5, .slice A6 n c6] (by rfl) rfl rfl (by simp only [List.map_toArray, List.map_cons, List.map_nil]; rfl) ?_
            with_reducible refine (ints_n P6.out HC5.out Q6.out HC6.out HNL.out HNM.out).mono ?_
            rintro e w7 ⟨rfl, hd⟩
            refine ⟨_, rfl, ?_⟩
            have JQ := Aside0.mk (J6.out.below (drawn_below hd))
            clear hd
            refine hK.out _ _ ?_
            clear hK K
            refine norm_ (a' := ?_) ?_ ?_
            rotate_left
            · show Act.put _ (some 135) _ = _
              simp only [Act.put, List.setIfInBounds_toArray, List.set_cons_zero, List.set_cons_succ, i64_w, i32_w]
              rfl
            refine pure_ (i := 9) (N := some 10) (v := ?_) (a' := ?_) #[true, true, true, true, true, true, true, true, true, true] rfl rfl (any_of HT_.out (by kernel_rfl)) (fun _ _ _ h => h) (Or.inl ⟨by rfl, ?_⟩) ?_ ?_
            rotate_left
            · intro w'
              go_simp
              with_reducible rfl
            rotate_left
            · simp only [Act.put, List.setIfInBounds_toArray, List.set_cons_zero, List.set_cons_succ, i64_w, i32_w]
              rfl
            refine done_ (done_of HT_.out (by kernel_rfl)) ?_
            go_wp2
            have hln := JQ.out.ok.2.2.2
            obtain ⟨Ar, cr, hbx, hrc, hCr⟩ := JQ.out.seen
            obtain ⟨nn, hnn⟩ : ∃ nn, (L.drop n).length = nn := ⟨_, rfl⟩
            rw [hnn] at hbx hrc hCr hln
            have HLN := Aside0.mk hnn
            have HLM := Aside0.mk (show nn ≤ 1000000000000 by omega)
            have HCR := Aside0.mk hCr
            have HRC := Aside0.mk hrc
            have z0 := (blk_cell hbx 0).trans rfl
            clear hbx hrc hCr hnn hln
            go_upto_region 29 with (fail)
            refine start_ (n := 12) (S := fun w' => w'.cell? ⟨x, 0, none⟩ = some (.slice Ar nn cr)) (ds := [9]) #[false, false, false, false, false, false, false, false, false, false, false, false] (by kernel_rfl) rfl rfl (z0) (fun hHeld => ?_); refine with_tabW wde.tab29 wde.bits29 (fun HT_ HW_ => ?_)
            refine pure_ (i := 0) (N := some 136) (v := ?_) (a' := ?_) #[true, false, false, false, false, false, false, false, false, false, false, false] rfl rfl (any_of HT_.out (by kernel_rfl)) (fun _ _ _ h => h) (Or.inl ⟨by rfl, ?_⟩) ?_ ?_
            rotate_left
            · intro w'
              go_simp
              with_reducible rfl
            rotate_left
            · simp only [Act.put, List.setIfInBounds_toArray, List.set_cons_zero, List.set_cons_succ, i64_w, i32_w]
              rfl
            refine pure_ (i := 1) (N := some 137) (v := ?_) (a' := ?_) #[true, true, false, false, false, false, false, false, false, false, false, false] rfl rfl (any_of HT_.out (by kernel_rfl)) (fun _ _ _ h => h) (Or.inl ⟨by rfl, ?_⟩) ?_ ?_
            rotate_left
            · intro w'
              go_simp
              with_reducible rfl
            rotate_left
            · simp only [Act.put, List.setIfInBounds_toArray, List.set_cons_zero, List.set_cons_succ, i64_w, i32_w]
              rfl
            refine pure_ (i := 2) (N := some 138) (v := ?_) (a' := ?_) #[true, true, true, false, false, false, false, false, false, false, false, false] rfl rfl (any_of HT_.out (by kernel_rfl)) (fun _ _ _ h => h) (Or.inl ⟨by rfl, ?_⟩) ?_ ?_
            rotate_left
            · intro w'
              go_simp
              with_reducible rfl
            rotate_left
            · simp only [Act.put, List.setIfInBounds_toArray, List.set_cons_zero, List.set_cons_succ, i64_w, i32_w]
              rfl
            refine pure_ (i := 3) (N := some 139) (v := ?_) (a' := ?_) #[true, true, true, true, false, false, false, false, false, false, false, false] rfl rfl (any_of HT_.out (by kernel_rfl)) (fun _ _ _ h => h) (Or.inl ⟨by rfl, ?_⟩) ?_ ?_
            rotate_left
            · intro w'
              go_simp
              with_reducible rfl
            rotate_left
            · simp only [Act.put, List.setIfInBounds_toArray, List.set_cons_zero, List.set_cons_succ, i64_w, i32_w]
              rfl
            refine pure_ (i := 5) (N := some 141) (v := ?_) (a' := ?_) #[true, true, true, true, false, true, false, false, false, false, false, false] rfl rfl (any_of HT_.out (by kernel_rfl)) (fun _ _ _ h => h) (Or.inl ⟨by rfl, ?_⟩) ?_ ?_
            rotate_left
            · intro w'
              go_simp
              with_reducible rfl
            rotate_left
            · simp only [Act.put, List.setIfInBounds_toArray, List.set_cons_zero, List.set_cons_succ, i64_w, i32_w]
              rfl
            refine pure_ (i := 6) (N := some 142) (v := ?_) (a' := ?_) #[true, true, true, true, false, true, true, false, false, false, false, false] rfl rfl (any_of HT_.out (by kernel_rfl)) (fun _ _ _ h => h) (Or.inl ⟨by rfl, ?_⟩) ?_ ?_
            rotate_left
            · intro w'
              go_simp
              with_reducible rfl
            rotate_left
            · simp only [Act.put, List.setIfInBounds_toArray, List.set_cons_zero, List.set_cons_succ, i64_w, i32_w]
              rfl
            refine pure_ (i := 7) (N := some 143) (v := ?_) (a' := ?_) #[true, true, true, true, false, true, true, true, false, false, false, false] rfl rfl (any_of HT_.out (by kernel_rfl)) (fun _ _ _ h => h) (Or.inl ⟨by rfl, ?_⟩) ?_ ?_
            rotate_left
            · intro w'
              go_simp
              with_reducible rfl
            rotate_left
            · simp only [Act.put, List.setIfInBounds_toArray, List.set_cons_zero, List.set_cons_succ, i64_w, i32_w]
              rfl
            refine take_ (i := 8) (N := some 144) (v := ?_) (a' := ?_) #[true, true, true, true, false, true, true, true, true, false, false, false] rfl rfl (take_ofW HT_.out HW_.out (by kernel_rfl)) (fun _ _ _ h => h) (Or.inl ⟨by rfl, ?_⟩) hHeld ?_ ?_
            rotate_left
            · intro w' s0
              go_simp
              with_reducible rfl
            rotate_left
            · simp only [Act.put, List.setIfInBounds_toArray, List.set_cons_zero, List.set_cons_succ, i64_w, i32_w]
              rfl
            refine one_ (i := 4) (N := some 140) #[true, true, true, true, true, true, true, true, true, false, false, false] rfl rfl (one_of HT_.out (by kernel_rfl)) (by decide) (fun K hK => ?_)
            refine goes_ Try.func11 (by kernel_rfl) rfl #[.pointer (some ⟨g, 0, none⟩)] (by rfl) rfl rfl (by simp only [List.map_toArray, List.map_cons, List.map_nil]; rfl) ?_
            with_reducible refine (jlist JQ.out.drew HLN.out).mono ?_
            rintro e w8 ⟨A8, c8, rfl, hC, hlc, hn, hb⟩
            refine ⟨_, rfl, ?_⟩
            have J8 := Aside0.mk hn
            have HC8 := Aside0.mk hC
            have HL8 := Aside0.mk hlc
            have HB8 := Aside0.mk hb
            clear hn hC hlc
            refine hK.out _ _ ((hb.cell (World.block_lt_of_cell? _ _ hHeld)).trans hHeld) (fun hHeld => ?_)
            clear hK K
            refine norm_ (a' := ?_) ?_ ?_
            rotate_left
            · show Act.put _ (some 140) _ = _
              simp only [Act.put, List.setIfInBounds_toArray, List.set_cons_zero, List.set_cons_succ, i64_w, i32_w]
              rfl
            refine last_ (i := 9) (N := some 145) #[true, true, true, true, true, true, true, true, true, true, false, false] rfl rfl (one_of HT_.out (by kernel_rfl)) (by decide) (fun K hK => ?_)
            refine goes_ Try.func15 (by kernel_rfl) rfl #[.slice A8 nn c8, .slice Ar nn cr] (by rfl) rfl rfl (by simp only [List.map_toArray, List.map_cons, List.map_nil]; rfl) ?_
            with_reducible refine (same_n HC8.out HL8.out (Kd.C_below (Kd.C_drew HCR.out) HB8.out) HRC.out HLN.out HLM.out).mono ?_
            rintro e w9 ⟨rfl, hd⟩
            refine ⟨_, rfl, ?_⟩
            have J9 := Aside0.mk (J8.out.below (drawn_below hd))
            clear hd
            refine hK.out _ _ ?_
            clear hK K
            refine norm_ (a' := ?_) ?_ ?_
            rotate_left
            · show Act.put _ (some 145) _ = _
              simp only [Act.put, List.setIfInBounds_toArray, List.set_cons_zero, List.set_cons_succ, i64_w, i32_w]
              rfl
            refine pure_ (i := 10) (N := some 146) (v := ?_) (a' := ?_) #[true, true, true, true, true, true, true, true, true, true, true, false] rfl rfl (any_of HT_.out (by kernel_rfl)) (fun _ _ _ h => h) (Or.inl ⟨by rfl, ?_⟩) ?_ ?_
            rotate_left
            · intro w'
              go_simp
              with_reducible rfl
            rotate_left
            · simp only [Act.put, List.setIfInBounds_toArray, List.set_cons_zero, List.set_cons_succ, i64_w, i32_w]
              rfl
            refine pure_ (i := 11) (N := some 147) (v := ?_) (a' := ?_) #[true, true, true, true, true, true, true, true, true, true, true, true] rfl rfl (any_of HT_.out (by kernel_rfl)) (fun _ _ _ h => h) (Or.inl ⟨by rfl, ?_⟩) ?_ ?_
            rotate_left
            · intro w'
              go_simp
              with_reducible rfl
            rotate_left
            · simp only [Act.put, List.setIfInBounds_toArray, List.set_cons_zero, List.set_cons_succ, i64_w, i32_w]
              rfl
            refine done_ (done_of HT_.out (by kernel_rfl)) ?_
            go_wp2
            go_roundg k1
            case measure => have := HI.out; omega
            case rel => exact ⟨y + 1, by first | rfl | simp [hw], ⟨by omega⟩, ⟨by have := HI.out; omega⟩, ⟨_, J9.out.less.wide (by have := H0.out; omega)⟩⟩
          · have p2 : ((rd_T29 l0 y).f0 == 2) = false := beq_eq_false_iff_ne.mpr g2
            obtain ⟨a, b, hnx⟩ : ∃ a b, nextL L = (a, b) := ⟨_, _, rfl⟩
            have HNX := Aside0.mk hnx
            have haa : (a == a) = true := beq_self_eq_true a
            have hbb : (b == b) = true := beq_self_eq_true b
            clear g0 g1 g2 hnx
            go_upto_region 29 with (first
              | ((with_reducible refine gate_dst (N := 9) rfl ?_); refine box_event ?hg (N := 9) ?hd (cs := #[.int .i64 0, .int .i64 0, .int .i64 0]) (t := 29) ?hr ?_; (case hd => rfl); (case hg => rfl); (case hr => first | (go_simp; done) | (go_simp; rfl)); intro gt hg w3 hbox hb; have BT3 := Aside0.mk (blk_put (blk_put (blk_put hbox 0 (.int .i64 (rd_T29 l0 y).f0) (cs' := #[.int .i64 (rd_T29 l0 y).f0, .int .i64 0, .int .i64 0]) rfl) 1 (.int .i64 (rd_T29 l0 y).f1) (cs' := #[.int .i64 (rd_T29 l0 y).f0, .int .i64 (rd_T29 l0 y).f1, .int .i64 0]) rfl) 2 (.int .i64 (rd_T29 l0 y).f2) (cs' := #[.int .i64 (rd_T29 l0 y).f0, .int .i64 (rd_T29 l0 y).f1, .int .i64 (rd_T29 l0 y).f2]) rfl); have JE := Aside0.mk (JJ.out.more hg (show Below wr.heap.size wr (((w3.setCell ⟨gt, 0, none⟩ (.int .i64 (rd_T29 l0 y).f0)).setCell ⟨gt, 1, none⟩ (.int .i64 (rd_T29 l0 y).f1)).setCell ⟨gt, 2, none⟩ (.int .i64 (rd_T29 l0 y).f2)) from below_set (below_set (below_set hb (Nat.le_of_eq hg.symm)) (Nat.le_of_eq hg.symm)) (Nat.le_of_eq hg.symm)) BT3.out); have a0 := (blk_cell hbox 0).trans rfl; have a1 := (blk_cell hbox 1).trans rfl; have a2 := (blk_cell hbox 2).trans rfl; have af0 := blk_frozen hbox 0; have af1 := blk_frozen hbox 1; have af2 := blk_frozen hbox 2; have b0 := (blk_cell BT3.out 0).trans rfl; have b1 := (blk_cell BT3.out 1).trans rfl; have b2 := (blk_cell BT3.out 2).trans rfl; clear hb hbox hg)
              | (go_at_call 13; (with_reducible refine (jnext JE.out HNX.out).mono ?_); rintro x_ w_ ⟨rfl, rfl⟩)
              | (go_at_call 20; (with_reducible refine (jrnext JE.out HNX.out).mono ?_); rintro x_ w_ ⟨rfl, rfl⟩))
            have JQ := JE
            have hln := JQ.out.ok.2.2.2
            obtain ⟨Ar, cr, hbx, hrc, hCr⟩ := JQ.out.seen
            obtain ⟨nn, hnn⟩ : ∃ nn, (L).length = nn := ⟨_, rfl⟩
            rw [hnn] at hbx hrc hCr hln
            have HLN := Aside0.mk hnn
            have HLM := Aside0.mk (show nn ≤ 1000000000000 by omega)
            have HCR := Aside0.mk hCr
            have HRC := Aside0.mk hrc
            have z0 := (blk_cell hbx 0).trans rfl
            clear hbx hrc hCr hnn hln
            refine start_ (n := 12) (S := fun w' => w'.cell? ⟨x, 0, none⟩ = some (.slice Ar nn cr)) (ds := [9]) #[false, false, false, false, false, false, false, false, false, false, false, false] (by kernel_rfl) rfl rfl (z0) (fun hHeld => ?_); refine with_tabW wde.tab29 wde.bits29 (fun HT_ HW_ => ?_)
            refine pure_ (i := 0) (N := some 136) (v := ?_) (a' := ?_) #[true, false, false, false, false, false, false, false, false, false, false, false] rfl rfl (any_of HT_.out (by kernel_rfl)) (fun _ _ _ h => h) (Or.inl ⟨by rfl, ?_⟩) ?_ ?_
            rotate_left
            · intro w'
              go_simp
              with_reducible rfl
            rotate_left
            · simp only [Act.put, List.setIfInBounds_toArray, List.set_cons_zero, List.set_cons_succ, i64_w, i32_w]
              rfl
            refine pure_ (i := 1) (N := some 137) (v := ?_) (a' := ?_) #[true, true, false, false, false, false, false, false, false, false, false, false] rfl rfl (any_of HT_.out (by kernel_rfl)) (fun _ _ _ h => h) (Or.inl ⟨by rfl, ?_⟩) ?_ ?_
            rotate_left
            · intro w'
              go_simp
              with_reducible rfl
            rotate_left
            · simp only [Act.put, List.setIfInBounds_toArray, List.set_cons_zero, List.set_cons_succ, i64_w, i32_w]
              rfl
            refine pure_ (i := 2) (N := some 138) (v := ?_) (a' := ?_) #[true, true, true, false, false, false, false, false, false, false, false, false] rfl rfl (any_of HT_.out (by kernel_rfl)) (fun _ _ _ h => h) (Or.inl ⟨by rfl, ?_⟩) ?_ ?_
            rotate_left
            · intro w'
              go_simp
              with_reducible rfl
            rotate_left
            · simp only [Act.put, List.setIfInBounds_toArray, List.set_cons_zero, List.set_cons_succ, i64_w, i32_w]
              rfl
            refine pure_ (i := 3) (N := some 139) (v := ?_) (a' := ?_) #[true, true, true, true, false, false, false, false, false, false, false, false] rfl rfl (any_of HT_.out (by kernel_rfl)) (fun _ _ _ h => h) (Or.inl ⟨by rfl, ?_⟩) ?_ ?_
            rotate_left
            · intro w'
              go_simp
              with_reducible rfl
            rotate_left
            · simp only [Act.put, List.setIfInBounds_toArray, List.set_cons_zero, List.set_cons_succ, i64_w, i32_w]
              rfl
            refine pure_ (i := 5) (N := some 141) (v := ?_) (a' := ?_) #[true, true, true, true, false, true, false, false, false, false, false, false] rfl rfl (any_of HT_.out (by kernel_rfl)) (fun _ _ _ h => h) (Or.inl ⟨by rfl, ?_⟩) ?_ ?_
            rotate_left
            · intro w'
              go_simp
              with_reducible rfl
            rotate_left
            · simp only [Act.put, List.setIfInBounds_toArray, List.set_cons_zero, List.set_cons_succ, i64_w, i32_w]
              rfl
            refine pure_ (i := 6) (N := some 142) (v := ?_) (a' := ?_) #[true, true, true, true, false, true, true, false, false, false, false, false] rfl rfl (any_of HT_.out (by kernel_rfl)) (fun _ _ _ h => h) (Or.inl ⟨by rfl, ?_⟩) ?_ ?_
            rotate_left
            · intro w'
              go_simp
              with_reducible rfl
            rotate_left
            · simp only [Act.put, List.setIfInBounds_toArray, List.set_cons_zero, List.set_cons_succ, i64_w, i32_w]
              rfl
            refine pure_ (i := 7) (N := some 143) (v := ?_) (a' := ?_) #[true, true, true, true, false, true, true, true, false, false, false, false] rfl rfl (any_of HT_.out (by kernel_rfl)) (fun _ _ _ h => h) (Or.inl ⟨by rfl, ?_⟩) ?_ ?_
            rotate_left
            · intro w'
              go_simp
              with_reducible rfl
            rotate_left
            · simp only [Act.put, List.setIfInBounds_toArray, List.set_cons_zero, List.set_cons_succ, i64_w, i32_w]
              rfl
            refine take_ (i := 8) (N := some 144) (v := ?_) (a' := ?_) #[true, true, true, true, false, true, true, true, true, false, false, false] rfl rfl (take_ofW HT_.out HW_.out (by kernel_rfl)) (fun _ _ _ h => h) (Or.inl ⟨by rfl, ?_⟩) hHeld ?_ ?_
            rotate_left
            · intro w' s0
              go_simp
              with_reducible rfl
            rotate_left
            · simp only [Act.put, List.setIfInBounds_toArray, List.set_cons_zero, List.set_cons_succ, i64_w, i32_w]
              rfl
            refine one_ (i := 4) (N := some 140) #[true, true, true, true, true, true, true, true, true, false, false, false] rfl rfl (one_of HT_.out (by kernel_rfl)) (by decide) (fun K hK => ?_)
            refine goes_ Try.func11 (by kernel_rfl) rfl #[.pointer (some ⟨g, 0, none⟩)] (by rfl) rfl rfl (by simp only [List.map_toArray, List.map_cons, List.map_nil]; rfl) ?_
            with_reducible refine (jlist JQ.out.drew HLN.out).mono ?_
            rintro e w8 ⟨A8, c8, rfl, hC, hlc, hn, hb⟩
            refine ⟨_, rfl, ?_⟩
            have J8 := Aside0.mk hn
            have HC8 := Aside0.mk hC
            have HL8 := Aside0.mk hlc
            have HB8 := Aside0.mk hb
            clear hn hC hlc
            refine hK.out _ _ ((hb.cell (World.block_lt_of_cell? _ _ hHeld)).trans hHeld) (fun hHeld => ?_)
            clear hK K
            refine norm_ (a' := ?_) ?_ ?_
            rotate_left
            · show Act.put _ (some 140) _ = _
              simp only [Act.put, List.setIfInBounds_toArray, List.set_cons_zero, List.set_cons_succ, i64_w, i32_w]
              rfl
            refine last_ (i := 9) (N := some 145) #[true, true, true, true, true, true, true, true, true, true, false, false] rfl rfl (one_of HT_.out (by kernel_rfl)) (by decide) (fun K hK => ?_)
            refine goes_ Try.func15 (by kernel_rfl) rfl #[.slice A8 nn c8, .slice Ar nn cr] (by rfl) rfl rfl (by simp only [List.map_toArray, List.map_cons, List.map_nil]; rfl) ?_
            with_reducible refine (same_n HC8.out HL8.out (Kd.C_below (Kd.C_drew HCR.out) HB8.out) HRC.out HLN.out HLM.out).mono ?_
            rintro e w9 ⟨rfl, hd⟩
            refine ⟨_, rfl, ?_⟩
            have J9 := Aside0.mk (J8.out.below (drawn_below hd))
            clear hd
            refine hK.out _ _ ?_
            clear hK K
            refine norm_ (a' := ?_) ?_ ?_
            rotate_left
            · show Act.put _ (some 145) _ = _
              simp only [Act.put, List.setIfInBounds_toArray, List.set_cons_zero, List.set_cons_succ, i64_w, i32_w]
              rfl
            refine pure_ (i := 10) (N := some 146) (v := ?_) (a' := ?_) #[true, true, true, true, true, true, true, true, true, true, true, false] rfl rfl (any_of HT_.out (by kernel_rfl)) (fun _ _ _ h => h) (Or.inl ⟨by rfl, ?_⟩) ?_ ?_
            rotate_left
            · intro w'
              go_simp
              with_reducible rfl
            rotate_left
            · simp only [Act.put, List.setIfInBounds_toArray, List.set_cons_zero, List.set_cons_succ, i64_w, i32_w]
              rfl
            refine pure_ (i := 11) (N := some 147) (v := ?_) (a' := ?_) #[true, true, true, true, true, true, true, true, true, true, true, true] rfl rfl (any_of HT_.out (by kernel_rfl)) (fun _ _ _ h => h) (Or.inl ⟨by rfl, ?_⟩) ?_ ?_
            rotate_left
            · intro w'
              go_simp
              with_reducible rfl
            rotate_left
            · simp only [Act.put, List.setIfInBounds_toArray, List.set_cons_zero, List.set_cons_succ, i64_w, i32_w]
              rfl
            refine done_ (done_of HT_.out (by kernel_rfl)) ?_
            go_wp2
            go_roundg k1
            case measure => have := HI.out; omega
            case rel => exact ⟨y + 1, by first | rfl | simp [hw], ⟨by omega⟩, ⟨by have := HI.out; omega⟩, ⟨_, J9.out.less.wide (by have := H0.out; omega)⟩⟩
  | succ k1 =>
    have hlt := (show i < a0 by have := HI.out; omega)
    have hi0 := H0.out
    have hd : decide (i < a0) = true := decide_eq_true hlt
    have hw : wrap64 (i + 1) = i + 1 := w64 (by omega) (by have := HQ.out; omega)
    have HNB := Aside0.mk (show i.toNat ≤ 1000000000 by have := HQ.out; omega)
    have HWI := Aside0.mk (wf_small (i := i) (by omega) (by have := HQ.out; omega))
    by_cases hi : i < 1024
    · have r1 : decide (i < 1024) = true := decide_eq_true hi
      have HV := Aside0.mk (HIN.out.yes hi0 hi).1
      have HLX := Aside0.mk (HIN.out.yes hi0 hi).2
      have HII := Aside0.mk (HIN.out.next hi0 hi)
      have HLI := Aside0.mk (show L.length < 1024 by have := HIN.out.2; omega)
      have r2 : decide ((L.length : Int) < 1024) = true := decide_eq_true (by have := HLI.out; omega)
      clear hi hlt
      go_wp2_with (first
        | (go_at_call 10; (with_reducible refine (jset1 JJ.out HNB.out i 1000 HWI.out (by decide) HV.out).mono ?_); rintro x_ w4 ⟨rfl, hn⟩; have J4 := Aside0.mk hn; obtain ⟨F, A, c, h1, h2, h3, h4, h5⟩ := hn; have HA1 := Aside0.mk h1; have HA2 := Aside0.mk h2; have HA3 := Aside0.mk h3; have HA4 := Aside0.mk h4; have HA5 := Aside0.mk h5; have hx : w4.cell? ⟨x, 0, none⟩ = some (.slice A L.length c) := (blk_cell h2 0).trans rfl; clear h1 h2 h3 h4 h5)
        | ((with_reducible refine gate_dst (N := 65) rfl ?_); refine lit1_event ?hg (N := 65) ?hd (cs := #[.int .i64 1000, .int .i64 i]) (t := 35) (n := 1) ?hr ?_; (case hd => rfl); (case hg => rfl); (case hr => first | (go_simp; done) | (go_simp; rfl)); intro gl hgl w5 hbox hb; have HB1 := Aside0.mk (HA1.out.below hb); have HB2 := Aside0.mk ((hb.block x (blk_lt HA2.out)).trans HA2.out); have HB3 := Aside0.mk (Kd.R_below HA3.out hb); have BL := Aside0.mk hbox; clear hb hbox hgl)
        | ((with_reducible refine gate_builtin (b := .append) (xs := #[.tmp 62, .tmp 65]) rfl ?_); at_builtin; refine Kd.R_append_rows k35 (w0 := w5) w.heap.size rfl (.tmp 62) (.tmp 65) 30 35 (.agg #[(.int .i64 0), (.int .i64 0)]) 16 rfl Try.underlying30 info35 rfl (by decide) (by omega) (.slice A L.length c) L [⟨1000, i⟩] _ _ _ (fun k => ¬ F k ∧ k ≠ x) (fun _ => False) rfl rfl ?aO ?aR (fun _ _ h => h) (fun _ h => h.elim) ?aF ?aB ?aS ?aL ?_; (case aR => exact oneE_C (x := ⟨1000, i⟩) BL.out); (case aB => exact Below.refl _ _); (case aF => exact (fun k hk => ⟨fun hF => by have := HB1.out.1 k hF; omega, fun e => by have := blk_lt HB2.out; omega⟩)); (case aO => exact HB3.out); (case aS => exact below_size HB1.out.2.bl); (case aL => have := HLI.out; omega); intro v2 w6 ho hb hg hat; obtain ⟨A6, c6, rfl, _⟩ := row_n ho rfl; have HR6 := Aside0.mk ho; have HG6 := Aside0.mk hg; have hx6 : w6.cell? ⟨x, 0, none⟩ = some (.slice A L.length c) := (blk_cell ((hg.block x (blk_lt HB2.out) (fun e => (HB3.out.1 x e.symm).2 rfl)).trans HB2.out) 0).trans rfl; have hxf6 : w6.frozen? ⟨x, 0, none⟩ = false := blk_frozen ((hg.block x (blk_lt HB2.out) (fun e => (HB3.out.1 x e.symm).2 rfl)).trans HB2.out) 0; clear ho hb hg hat))
      go_roundg k1
      case measure => have := HI.out; omega
      case rel => exact ⟨i + 1, by first | rfl | simp [hw], ⟨by omega⟩, ⟨by have := HI.out; omega⟩, ⟨L ++ [⟨1000, i⟩], by
        have := J1.push HB1.out HB2.out HB3.out HA4.out HA5.out HG6.out HR6.out
        rw [HLX.out, show i.toNat + 1 = (i + 1).toNat by omega, List.length_append] at this
        exact this, HII.out⟩⟩
    · have r1 : decide (i < 1024) = false := decide_eq_false hi
      have HV := Aside0.mk (HIN.out.no hi).1
      have HLX := Aside0.mk (HIN.out.no hi).2
      have HII := Aside0.mk (HIN.out.stay hi)
      have r2 : decide ((L.length : Int) < 1024) = false := decide_eq_false (by have := HIN.out.2; omega)
      clear hi hlt
      go_wp2_with (go_at_call 10; (with_reducible refine (jset1 JJ.out HNB.out i 1000 HWI.out (by decide) HV.out).mono ?_); rintro x_ w4 ⟨rfl, hn⟩; have J4 := Aside0.mk hn; obtain ⟨F, A, c, h1, h2, h3, h4, h5⟩ := hn; have HA1 := Aside0.mk h1; have HA2 := Aside0.mk h2; have HA3 := Aside0.mk h3; have HA4 := Aside0.mk h4; have HA5 := Aside0.mk h5; have hx : w4.cell? ⟨x, 0, none⟩ = some (.slice A L.length c) := (blk_cell h2 0).trans rfl; clear h1 h2 h3 h4 h5)
      go_roundg k1
      case measure => have := HI.out; omega
      case rel => exact ⟨i + 1, by first | rfl | simp [hw], ⟨by omega⟩, ⟨by have := HI.out; omega⟩, ⟨L, by
        have := J4.out
        rw [HLX.out, show i.toNat + 1 = (i + 1).toNat by omega] at this
        exact this, HII.out⟩⟩
set_option maxHeartbeats 8000000 in
set_option maxRecDepth 100000 in
theorem does_e1 (A0 : Option Addr) (c0 : Nat) (a0 : Int) (l0 : List S29) (w : World) (q1 : decide ((l0.length : Int) > 150) = true) :
    Calls Try.prog 5 #[.int .i64 a0, .slice A0 l0.length c0] w fun e w' => e = .returned (.bool true) ∧ Below w.heap.size w w' := by
  go_enter Try.func5, Try.ntmps5
  go_wp2
  go_ret
  exact ⟨rfl, Below.refl _ _⟩
set_option maxHeartbeats 8000000 in
set_option maxRecDepth 100000 in
theorem does_e2 (A0 : Option Addr) (c0 : Nat) (a0 : Int) (l0 : List S29) (w : World) (q1 : decide ((l0.length : Int) > 150) = false) (q2 : decide (a0 < 0) = true) :
    Calls Try.prog 5 #[.int .i64 a0, .slice A0 l0.length c0] w fun e w' => e = .returned (.bool true) ∧ Below w.heap.size w w' := by
  go_enter Try.func5, Try.ntmps5
  go_wp2
  go_ret
  exact ⟨rfl, Below.refl _ _⟩
set_option maxHeartbeats 8000000 in
set_option maxRecDepth 100000 in
theorem does_e3 (A0 : Option Addr) (c0 : Nat) (a0 : Int) (l0 : List S29) (w : World) (q1 : decide ((l0.length : Int) > 150) = false) (q2 : decide (a0 < 0) = false) (q3 : decide (a0 > 40) = true) (q4 : decide (a0 < 1020) = true) :
    Calls Try.prog 5 #[.int .i64 a0, .slice A0 l0.length c0] w fun e w' => e = .returned (.bool true) ∧ Below w.heap.size w w' := by
  go_enter Try.func5, Try.ntmps5
  go_wp2
  go_ret
  exact ⟨rfl, Below.refl _ _⟩
set_option maxHeartbeats 8000000 in
set_option maxRecDepth 100000 in
theorem does_e4 (A0 : Option Addr) (c0 : Nat) (a0 : Int) (l0 : List S29) (w : World) (q1 : decide ((l0.length : Int) > 150) = false) (q2 : decide (a0 < 0) = false) (q3 : decide (a0 > 40) = true) (q4 : decide (a0 < 1020) = false) (q5 : decide (a0 > 1030) = true) :
    Calls Try.prog 5 #[.int .i64 a0, .slice A0 l0.length c0] w fun e w' => e = .returned (.bool true) ∧ Below w.heap.size w w' := by
  go_enter Try.func5, Try.ntmps5
  go_wp2
  go_ret
  exact ⟨rfl, Below.refl _ _⟩
theorem thalweglaw11_WheelDoes.calls (a0 : Int) (A1 : Option Addr) (c1 : Nat) (l1 : List S29) (r : Bool) (w : World) (hr1 : Kd.C k29 w A1 l1.length l1) (hc1 : l1.length ≤ c1) (h : thalweglaw11_WheelDoes.f a0 l1 = some r) :
    Calls Try.prog 5 #[.int .i64 a0, .slice A1 l1.length c1] w fun e w' => e = .returned (.bool r) ∧ Below w.heap.size w w' := by
  have hok : OkS l1 := by unfold thalweglaw11_WheelDoes.f at h; split at h; assumption; cases h
  have hr : true = r := by unfold thalweglaw11_WheelDoes.f at h; rw [if_pos hok] at h; exact Option.some.inj h
  subst hr
  by_cases e1 : (l1.length : Int) > 150
  · exact does_e1 A1 c1 a0 l1 w (decide_eq_true e1)
  by_cases e2 : a0 < 0
  · exact does_e2 A1 c1 a0 l1 w (decide_eq_false e1) (decide_eq_true e2)
  by_cases e3 : a0 > 40
  · by_cases e4 : a0 < 1020
    · exact does_e3 A1 c1 a0 l1 w (decide_eq_false e1) (decide_eq_false e2) (decide_eq_true e3) (decide_eq_true e4)
    · by_cases e5 : a0 > 1030
      · exact does_e4 A1 c1 a0 l1 w (decide_eq_false e1) (decide_eq_false e2) (decide_eq_true e3) (decide_eq_false e4) (decide_eq_true e5)
      · exact does_high A1 c1 a0 l1 w hr1 hc1 hok ⟨by omega, by omega, by omega⟩ (decide_eq_false e1) (decide_eq_false e2) (decide_eq_true e3) (decide_eq_false e4) (decide_eq_false e5)
  · exact does_low A1 c1 a0 l1 w hr1 hc1 hok ⟨by omega, by omega, by omega⟩ (decide_eq_false e1) (decide_eq_false e2) (decide_eq_false e3) (decide_eq_false (by omega))
end Go.Proofs.Ytljajnednggebaa.P
