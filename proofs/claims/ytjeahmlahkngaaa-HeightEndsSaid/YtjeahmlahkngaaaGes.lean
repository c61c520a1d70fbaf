/- Layer 2, by hand: height.Ends. -/
import Derived.Test.YtjeahmlahkngaaaGet
import Derived.Laws.Tables
namespace Go.Proofs.Ytjeahmlahkngaaa.P
set_option linter.unusedSimpArgs false
set_option linter.unusedVariables false
open Go.RowKit Go.Proofs.YtjeahmlahkngaaaW.PrintWords Go.Proofs.YtjeahmlahkngaaaW.PrintLast Go.Proofs.YtjeahmlahkngaaaW.PrintMore
theorem add_blk (a : Addr) (n : Nat) : (a.add n).block = a.block := by
  unfold Addr.add
  split <;> rfl
theorem El.drew {w : World} {p : Addr} {x : S23} (h : El w p x) : El w.drew p x := h
theorem El.c0 {w : World} {p : Addr} {x : S23} (h : El w p x) : w.cell? p = some (.bool x.f0) := h.1
theorem cellsE {w : World} {g : Nat} {t : TypeId} {v0 v1 v2 v3 v4 v5 : Value} (h : w.heap[g]? = some (.cells #[v0, v1, v2, v3, v4, v5] t (0, 0))) : (w.cell? ⟨g, 0, none⟩ = some v0 ∧ w.cell? ⟨g, 1, none⟩ = some v1 ∧ w.cell? ⟨g, 2, none⟩ = some v2 ∧ w.cell? ⟨g, 3, none⟩ = some v3 ∧ w.cell? ⟨g, 4, none⟩ = some v4 ∧ w.cell? ⟨g, 5, none⟩ = some v5) ∧ (w.frozen? ⟨g, 0, none⟩ = false ∧ w.frozen? ⟨g, 1, none⟩ = false ∧ w.frozen? ⟨g, 2, none⟩ = false ∧ w.frozen? ⟨g, 3, none⟩ = false ∧ w.frozen? ⟨g, 4, none⟩ = false ∧ w.frozen? ⟨g, 5, none⟩ = false) := ⟨⟨(blk_cell h 0).trans rfl, (blk_cell h 1).trans rfl, (blk_cell h 2).trans rfl, (blk_cell h 3).trans rfl, (blk_cell h 4).trans rfl, (blk_cell h 5).trans rfl⟩, ⟨blk_frozen h 0, blk_frozen h 1, blk_frozen h 2, blk_frozen h 3, blk_frozen h 4, blk_frozen h 5⟩⟩
abbrev hE (x : S23) : Value := .agg #[.bool x.f0, .int .i64 x.f1, .int .i64 x.f2, .int .i64 x.f3, .int .i64 x.f4, .int .i64 x.f5]
def endsV (l : List S23) : Array Value := match eGo l l.length with
  | none => #[.agg #[.bool false, .int .i64 0, .int .i64 0, .int .i64 0, .int .i64 0, .int .i64 0], .agg #[.bool false, .int .i64 0, .int .i64 0, .int .i64 0, .int .i64 0, .int .i64 0], .bool false]
  | some (a, b) => #[hE (rd_T23 l (a : Int)), hE (rd_T23 l (b : Int)), .bool true]
def ens.T8 : Bool × List (List Nat × List Nat) := (true, [([], []), ([0], [0]), ([1], [1]), ([2], [2]), ([3, 2], [2, 3]), ([4, 2], [2, 4]), ([2], [2]), ([6, 2], [2, 6]), ([7, 2], [2, 7]), ([5, 8, 2, 2], [2, 5, 8]), ([2, 9], [2, 9])])
def ens.B8 : List Nat := [0, 1, 3, 7, 15, 31, 7, 71, 199, 511, 1023]
theorem ens.tab8 : rtab .any (opsOf Try.f25 8) = ens.T8 := by kernel_rfl
theorem ens.bits8 : waitsOk ens.T8.2 ens.B8 = true := by kernel_rfl
def ens.T11 : Bool × List (List Nat × List Nat) := (true, [([], []), ([0], [0]), ([1], [1]), ([2], [2]), ([3, 2], [2, 3]), ([4, 2], [2, 4]), ([2], [2]), ([6, 2], [2, 6]), ([7, 2], [2, 7]), ([5, 8, 2, 2], [2, 5, 8]), ([2, 9], [2, 9])])
def ens.B11 : List Nat := [0, 1, 3, 7, 15, 31, 7, 71, 199, 511, 1023]
theorem ens.tab11 : rtab .any (opsOf Try.f25 11) = ens.T11 := by kernel_rfl
theorem ens.bits11 : waitsOk ens.T11.2 ens.B11 = true := by kernel_rfl
def ens.T16 : Bool × List (List Nat × List Nat) := (true, [([], []), ([0], [0]), ([1], [1]), ([0], []), ([3], [3]), ([4], [4]), ([2, 3, 0, 1, 2], [2]), ([5, 6, 0, 1, 2, 3, 4, 5, 6], [5]), ([7, 0, 1, 2, 3, 4, 5, 6, 7], [])])
def ens.B16 : List Nat := [0, 1, 3, 1, 9, 25, 15, 127, 255]
theorem ens.tab16 : rtab .any (opsOf Try.f25 16) = ens.T16 := by kernel_rfl
theorem ens.bits16 : waitsOk ens.T16.2 ens.B16 = true := by kernel_rfl
set_option maxHeartbeats 8000000 in
set_option maxRecDepth 100000 in
theorem ends_a (A0 : Option Addr) (c0 : Nat) (l : List S23) (w : World) (hr : Kd.C k23 w A0 l.length l) (hc : l.length ≤ c0) (hl : l.length ≤ 100000) (hh : ∀ k, k < l.length → ElemOk Try.prog w (eA A0 k) 23) :
    Calls Try.prog 25 #[.slice A0 l.length c0] w fun e w' => e = .returned (.tuple (endsV l)) ∧ Below w.heap.size w w' := by
  have hu23 := Try.underlying23
  obtain ⟨n, hn⟩ : ∃ n, n = l.length := ⟨_, rfl⟩
  have HR := Aside0.mk hr
  have HL := Aside0.mk hl
  have HH := Aside0.mk hh
  rw [← hn]
  have HN := Aside0.mk hn
  clear hr hc hl hh hn
  go_enter Try.func25, Try.ntmps25
  go_wp2_with (first
    | ((with_reducible refine gate_dst (N := 2) rfl ?_); refine box_event ?hg (N := 2) ?hd (cs := #[.bool false, .int .i64 0, .int .i64 0, .int .i64 0, .int .i64 0, .int .i64 0]) (t := 23) ?hr ?_; (case hd => rfl); (case hg => rfl); (case hr => first | (go_simp; done) | (go_simp; rfl) | rfl | kernel_rfl); intro g2 hg w1 hbox hb; have P2 := Aside0.mk hbox; have L1 := Aside0.mk hb; have N2 := Aside0.mk (show w.heap.size ≤ g2 by omega); clear hb hbox hg)
    | ((with_reducible refine gate_dst (N := 3) rfl ?_); refine box_event ?hg (N := 3) ?hd (cs := #[.bool false, .int .i64 0, .int .i64 0, .int .i64 0, .int .i64 0, .int .i64 0]) (t := 23) ?hr ?_; (case hd => rfl); (case hg => rfl); (case hr => first | (go_simp; done) | (go_simp; rfl) | rfl | kernel_rfl); intro g3 hg w2 hbox hb; have P3 := Aside0.mk hbox; have Q2 := Aside0.mk (blk_below P2.out hb); have N3 := Aside0.mk (show w.heap.size ≤ g3 by rw [hg]; exact L1.out.size); have D23 := Aside0.mk (show g2 ≠ g3 by rw [hg]; exact Nat.ne_of_lt (blk_lt P2.out)); have L2 := Aside0.mk (below_step L1.out hb); clear hb hbox hg)
    | ((with_reducible refine gate_dst (N := 5) rfl ?_); refine box_event ?hg (N := 5) ?hd (cs := #[.pointer none]) (t := 62) ?hr ?_; (case hd => rfl); (case hg => rfl); (case hr => first | (go_simp; done) | (go_simp; rfl) | rfl | kernel_rfl); intro g5 hg w3 hbox hb; have P5 := Aside0.mk hbox; have R2 := Aside0.mk (blk_below Q2.out hb); have R3 := Aside0.mk (blk_below P3.out hb); have N5 := Aside0.mk (show w.heap.size ≤ g5 by rw [hg]; exact L2.out.size); have L3 := Aside0.mk (below_step L2.out hb); clear hb hbox hg)
    | ((with_reducible refine gate_dst (N := 6) rfl ?_); refine box_event ?hg (N := 6) ?hd (cs := #[.pointer none]) (t := 62) ?hr ?_; (case hd => rfl); (case hg => rfl); (case hr => first | (go_simp; done) | (go_simp; rfl) | rfl | kernel_rfl); intro g6 hg w4 hbox hb; have ST := Aside0.mk (EnSt.mk (w0 := w) (blk_below R2.out hb) (blk_below R3.out hb) (blk_below P5.out hb) hbox (below_step L3.out hb) N2.out N3.out N5.out (by rw [hg]; exact L3.out.size) D23.out (by rw [hg]; exact Nat.ne_of_lt (blk_lt P5.out))); clear hb hbox hg))
  go_loopg [13] n (fun kq v13 wr => ∃ (x : Int), v13 = .int .i64 x ∧ Aside0 (0 ≤ x) ∧ Aside0 (x + kq = n) ∧ Aside0 (EnSt w wr g2 g3 g5 g6 #[.bool false, .int .i64 0, .int .i64 0, .int .i64 0, .int .i64 0, .int .i64 0] #[.bool false, .int .i64 0, .int .i64 0, .int .i64 0, .int .i64 0, .int .i64 0] ((eGo l x.toNat).map fun p => eA A0 p.1) ((eGo l x.toNat).map fun p => eA A0 p.2)))
  case atStart => exact ⟨0, rfl, ⟨by omega⟩, ⟨by omega⟩, ⟨ST.out⟩⟩
  case round =>
    clear ST P2 P3 P5 Q2 R2 R3 L1 L2 L3 N2 N3 N5 D23
    obtain ⟨x, rfl, H0, HI, SS⟩ := hrel
    cases gk with
    | zero =>
      have hnl : decide (x < (n : Int)) = false := decide_eq_false (by have := HI.out; omega)
      have hxn : x.toNat = l.length := by have := HI.out; have := HN.out; have := H0.out; omega
      rw [hxn] at SS
      clear hxn
      cases hE : eGo l l.length with
      | none =>
        have SN := Aside0.mk (show EnSt w wr g2 g3 g5 g6 #[.bool false, .int .i64 0, .int .i64 0, .int .i64 0, .int .i64 0, .int .i64 0] #[.bool false, .int .i64 0, .int .i64 0, .int .i64 0, .int .i64 0, .int .i64 0] none none by have h := SS.out; rw [hE] at h; exact h)
        have HE := Aside0.mk hE
        clear SS hE
        obtain ⟨⟨o0, o1, o2, o3, o4, o5⟩, of0, of1, of2, of3, of4, of5⟩ := cellsE SN.out.b2
        obtain ⟨⟨q0, q1, q2, q3, q4, q5⟩, qf0, qf1, qf2, qf3, qf4, qf5⟩ := cellsE SN.out.b3
        have n32 : g3 ≠ g2 := SN.out.d23.symm
        have n23 : g2 ≠ g3 := SN.out.d23
        go_wp2_with (go_at_call 37; (with_reducible refine (en_load g5 (none) _ ((blk_cell SN.out.b5 0).trans rfl) (fun _ h_ => by cases h_)).mono ?_); rintro _ _ ⟨rfl, rfl⟩)
        have SF := Aside0.mk (EnSt.put3 (EnSt.put3 (EnSt.put3 (EnSt.put3 (EnSt.put3 (EnSt.put3 (EnSt.put2 (EnSt.put2 (EnSt.put2 (EnSt.put2 (EnSt.put2 (EnSt.put2 SN.out 0 (.bool false) rfl) 1 (.int .i64 0) rfl) 2 (.int .i64 0) rfl) 3 (.int .i64 0) rfl) 4 (.int .i64 0) rfl) 5 (.int .i64 0) rfl) 0 (.bool false) rfl) 1 (.int .i64 0) rfl) 2 (.int .i64 0) rfl) 3 (.int .i64 0) rfl) 4 (.int .i64 0) rfl) 5 (.int .i64 0) rfl)
        refine bodyPost_ret (results_list (rs := [.cell 2 23, .cell 3 23, .tmp 4]) rfl (by simp) (.cell g2 23 #[.bool false, .int .i64 0, .int .i64 0, .int .i64 0, .int .i64 0, .int .i64 0] (0, 0) _ rfl SF.out.b2 Try.underlying23 rfl (by kernel_rfl) (.cell g3 23 #[.bool false, .int .i64 0, .int .i64 0, .int .i64 0, .int .i64 0, .int .i64 0] (0, 0) _ rfl SF.out.b3 Try.underlying23 rfl (by kernel_rfl) (.tmp .nil)))) rfl ?_
        exact ⟨by unfold endsV; rw [HE.out]; rfl, SF.out.bl⟩
      | some p =>
        obtain ⟨a, b⟩ := p
        have HE := Aside0.mk hE
        have hab := eGo_lt l _ a b hE
        have hA0 : ∃ ad, A0 = some ad := by
          obtain ⟨ad, e, _⟩ := at_T23 HR.out 0 (by omega) (by omega)
          exact ⟨ad, e⟩
        obtain ⟨ad, e_⟩ := hA0
        subst e_
        have SN := Aside0.mk (show EnSt w wr g2 g3 g5 g6 #[.bool false, .int .i64 0, .int .i64 0, .int .i64 0, .int .i64 0, .int .i64 0] #[.bool false, .int .i64 0, .int .i64 0, .int .i64 0, .int .i64 0, .int .i64 0] (some (eA (some ad) a)) (some (eA (some ad) b)) by have h := SS.out; rw [hE] at h; exact h)
        have HA := Aside0.mk ((el_at HR.out a (by omega)).below SN.out.bl)
        have HB := Aside0.mk ((el_at HR.out b (by omega)).below SN.out.bl)
        have HHA := Aside0.mk ((HH.out a (by omega)).below (el_at HR.out a (by omega)).lt SN.out.bl)
        have HHB := Aside0.mk ((HH.out b (by omega)).below (el_at HR.out b (by omega)).lt SN.out.bl)
        have nb2 : (eA (some ad) b).block ≠ g2 := fun e_ => by have h1 := (el_at HR.out b (by omega)).lt; have h2 := SN.out.n2; omega
        have na2 : (eA (some ad) a).block ≠ g2 := fun e_ => by have h1 := (el_at HR.out a (by omega)).lt; have h2 := SN.out.n2; omega
        clear SS hE hab
        go_upto_region 16 with (go_at_call 37; (with_reducible refine (en_load g5 (some (eA (some ad) a)) _ ((blk_cell SN.out.b5 0).trans rfl) (fun _ h_ => by cases h_; exact HHA.out)).mono ?_); rintro _ _ ⟨rfl, rfl⟩)
        have SD := Aside0.mk SN.out.drew
        have HDA := Aside0.mk (show ElemOk Try.prog wr.drew (eA (some ad) a) 23 from HHA.out)
        have HDB := Aside0.mk (show ElemOk Try.prog wr.drew (eA (some ad) b) 23 from HHB.out)
        clear SN
        refine start_ (n := 9) (S := fun w' => El w' (eA (some ad) a) (rd_T23 l (a : Int)) ∧ El w' (eA (some ad) b) (rd_T23 l (b : Int))) (ds := [7]) #[false, false, false, false, false, false, false, false, false] (by kernel_rfl) rfl rfl (⟨HA.out.drew, HB.out.drew⟩) (fun hHeld => ?_); refine with_tabW ens.tab16 ens.bits16 (fun HT_ HW_ => ?_)
        generalize wr.drew = wd at SD HDA HDB hHeld ⊢
        clear HA HB HHA HHB
        obtain ⟨⟨o0, o1, o2, o3, o4, o5⟩, of0, of1, of2, of3, of4, of5⟩ := cellsE SD.out.b2
        obtain ⟨⟨q0, q1, q2, q3, q4, q5⟩, qf0, qf1, qf2, qf3, qf4, qf5⟩ := cellsE SD.out.b3
        have n32 : g3 ≠ g2 := SD.out.d23.symm
        have n23 : g2 ≠ g3 := SD.out.d23
        refine one_ (i := 0) (N := some 57) #[true, false, false, false, false, false, false, false, false] rfl rfl (one_of HT_.out (by kernel_rfl)) (by decide) (fun K hK => ?_)
        refine goes_ Try.func37 (by kernel_rfl) rfl #[.pointer (some ⟨g5, 0, none⟩)] (by rfl) rfl rfl (by simp only [List.map_toArray, List.map_cons, List.map_nil]; rfl) ?_
        with_reducible refine (en_load g5 (some (eA (some ad) a)) _ ((blk_cell SD.out.b5 0).trans rfl) (fun _ h_ => by cases h_; exact HDA.out)).mono ?_
        rintro _ _ ⟨rfl, rfl⟩
        refine ⟨_, rfl, ?_⟩
        refine hK.out _ _ (hHeld) (fun hHeld => ?_)
        clear hK K
        refine norm_ (a' := ?_) ?_ ?_
        rotate_left
        · show Act.put _ (some 57) _ = _
          simp only [Act.put, List.setIfInBounds_toArray, List.set_cons_zero, List.set_cons_succ, i64_w, i32_w]
          rfl
        refine pure_ (i := 1) (N := some 58) (v := ?_) (a' := ?_) #[true, true, false, false, false, false, false, false, false] rfl rfl (any_of HT_.out (by kernel_rfl)) (fun _ _ _ h => h) (Or.inl ⟨by rfl, ?_⟩) ?_ ?_
        rotate_left
        · intro w'
          go_simp
          with_reducible rfl
        rotate_left
        · simp only [Act.put, List.setIfInBounds_toArray, List.set_cons_zero, List.set_cons_succ, i64_w, i32_w]
          rfl
        refine take_ (i := 2) (N := some 59) (v := ?_) (a' := ?_) #[true, true, true, false, false, false, false, false, false] rfl rfl (take_ofW HT_.out HW_.out (by kernel_rfl)) (fun _ _ _ h => h) (Or.inl ⟨by rfl, ?_⟩) hHeld ?_ ?_
        rotate_left
        · intro w' s0
          obtain ⟨⟨u0, u1, u2, u3, u4, u5⟩, v0, v1, v2, v3, v4, v5⟩ := s0
          go_simp
          with_reducible rfl
        rotate_left
        · simp only [Act.put, List.setIfInBounds_toArray, List.set_cons_zero, List.set_cons_succ, i64_w, i32_w]
          rfl
        refine one_ (i := 3) (N := some 60) #[true, true, true, true, false, false, false, false, false] rfl rfl (one_of HT_.out (by kernel_rfl)) (by decide) (fun K hK => ?_)
        refine goes_ Try.func37 (by kernel_rfl) rfl #[.pointer (some ⟨g6, 0, none⟩)] (by rfl) rfl rfl (by simp only [List.map_toArray, List.map_cons, List.map_nil]; rfl) ?_
        with_reducible refine (en_load g6 (some (eA (some ad) b)) _ ((blk_cell SD.out.b6 0).trans rfl) (fun _ h_ => by cases h_; exact HDB.out)).mono ?_
        rintro _ _ ⟨rfl, rfl⟩
        refine ⟨_, rfl, ?_⟩
        refine hK.out _ _ (hHeld) (fun hHeld => ?_)
        clear hK K
        refine norm_ (a' := ?_) ?_ ?_
        rotate_left
        · show Act.put _ (some 60) _ = _
          simp only [Act.put, List.setIfInBounds_toArray, List.set_cons_zero, List.set_cons_succ, i64_w, i32_w]
          rfl
        refine pure_ (i := 4) (N := some 61) (v := ?_) (a' := ?_) #[true, true, true, true, true, false, false, false, false] rfl rfl (any_of HT_.out (by kernel_rfl)) (fun _ _ _ h => h) (Or.inl ⟨by rfl, ?_⟩) ?_ ?_
        rotate_left
        · intro w'
          go_simp
          with_reducible rfl
        rotate_left
        · simp only [Act.put, List.setIfInBounds_toArray, List.set_cons_zero, List.set_cons_succ, i64_w, i32_w]
          rfl
        refine take_ (i := 5) (N := some 62) (v := ?_) (a' := ?_) #[true, true, true, true, true, true, false, false, false] rfl rfl (take_ofW HT_.out HW_.out (by kernel_rfl)) (fun _ _ _ h => h) (Or.inl ⟨by rfl, ?_⟩) hHeld ?_ ?_
        rotate_left
        · intro w' s0
          obtain ⟨⟨u0, u1, u2, u3, u4, u5⟩, v0, v1, v2, v3, v4, v5⟩ := s0
          go_simp
          with_reducible rfl
        rotate_left
        · simp only [Act.put, List.setIfInBounds_toArray, List.set_cons_zero, List.set_cons_succ, i64_w, i32_w]
          rfl
        refine one_ (i := 6) (N := none) #[true, true, true, true, true, true, true, false, false] rfl rfl (one_of HT_.out (by kernel_rfl)) (by decide) (fun K hK => ?_)
        refine skip_ (w1 := ?_) (by rfl) rfl ?_ ?_
        rotate_left
        · go_simp
          rfl
        refine hK.out _ _ (⟨(El.far (q := ⟨g2, 5, none⟩) (El.far (q := ⟨g2, 4, none⟩) (El.far (q := ⟨g2, 3, none⟩) (El.far (q := ⟨g2, 2, none⟩) (El.far (q := ⟨g2, 1, none⟩) (El.far (q := ⟨g2, 0, none⟩) hHeld.1 na2 _) na2 _) na2 _) na2 _) na2 _) na2 _), (El.far (q := ⟨g2, 5, none⟩) (El.far (q := ⟨g2, 4, none⟩) (El.far (q := ⟨g2, 3, none⟩) (El.far (q := ⟨g2, 2, none⟩) (El.far (q := ⟨g2, 1, none⟩) (El.far (q := ⟨g2, 0, none⟩) hHeld.2 nb2 _) nb2 _) nb2 _) nb2 _) nb2 _) nb2 _)⟩) (fun hHeld => ?_)
        clear hK K
        refine last_ (i := 7) (N := none) #[true, true, true, true, true, true, true, true, false] rfl rfl (one_of HT_.out (by kernel_rfl)) (by decide) (fun K hK => ?_)
        refine skip_ (w1 := ?_) (by rfl) rfl ?_ ?_
        rotate_left
        · go_simp
          rfl
        refine hK.out _ _ ?_
        clear hK K
        refine pure_ (i := 8) (N := some 4) (v := ?_) (a' := ?_) #[true, true, true, true, true, true, true, true, true] rfl rfl (any_of HT_.out (by kernel_rfl)) (fun _ _ _ h => h) (Or.inl ⟨by rfl, ?_⟩) ?_ ?_
        rotate_left
        · intro w'
          go_simp
          with_reducible rfl
        rotate_left
        · simp only [Act.put, List.setIfInBounds_toArray, List.set_cons_zero, List.set_cons_succ, i64_w, i32_w]
          rfl
        refine done_ (done_of HT_.out (by kernel_rfl)) ?_
        clear HT_ HW_
        try go_wp2
        have SF := Aside0.mk (EnSt.put3 (EnSt.put3 (EnSt.put3 (EnSt.put3 (EnSt.put3 (EnSt.put3 (EnSt.put2 (EnSt.put2 (EnSt.put2 (EnSt.put2 (EnSt.put2 (EnSt.put2 SD.out 0 (.bool (rd_T23 l (a : Int)).f0) rfl) 1 (.int .i64 (rd_T23 l (a : Int)).f1) rfl) 2 (.int .i64 (rd_T23 l (a : Int)).f2) rfl) 3 (.int .i64 (rd_T23 l (a : Int)).f3) rfl) 4 (.int .i64 (rd_T23 l (a : Int)).f4) rfl) 5 (.int .i64 (rd_T23 l (a : Int)).f5) rfl) 0 (.bool (rd_T23 l (b : Int)).f0) rfl) 1 (.int .i64 (rd_T23 l (b : Int)).f1) rfl) 2 (.int .i64 (rd_T23 l (b : Int)).f2) rfl) 3 (.int .i64 (rd_T23 l (b : Int)).f3) rfl) 4 (.int .i64 (rd_T23 l (b : Int)).f4) rfl) 5 (.int .i64 (rd_T23 l (b : Int)).f5) rfl)
        refine bodyPost_ret (results_list (rs := [.cell 2 23, .cell 3 23, .tmp 4]) rfl (by simp) (.cell g2 23 #[.bool (rd_T23 l (a : Int)).f0, .int .i64 (rd_T23 l (a : Int)).f1, .int .i64 (rd_T23 l (a : Int)).f2, .int .i64 (rd_T23 l (a : Int)).f3, .int .i64 (rd_T23 l (a : Int)).f4, .int .i64 (rd_T23 l (a : Int)).f5] (0, 0) _ rfl SF.out.b2 Try.underlying23 rfl (by kernel_rfl) (.cell g3 23 #[.bool (rd_T23 l (b : Int)).f0, .int .i64 (rd_T23 l (b : Int)).f1, .int .i64 (rd_T23 l (b : Int)).f2, .int .i64 (rd_T23 l (b : Int)).f3, .int .i64 (rd_T23 l (b : Int)).f4, .int .i64 (rd_T23 l (b : Int)).f5] (0, 0) _ rfl SF.out.b3 Try.underlying23 rfl (by kernel_rfl) (.tmp .nil)))) rfl ?_
        exact ⟨by unfold endsV; rw [HE.out]; rfl, SF.out.bl⟩
    | succ k1 =>
      have hlt := (show x < (n : Int) by have := HI.out; omega)
      have h0 := H0.out
      have hxl : x.toNat < l.length := by have := HN.out; omega
      obtain ⟨ad, e_⟩ : ∃ ad, A0 = some ad := by
        obtain ⟨ad, e, _⟩ := at_T23 HR.out x h0 (by have := HN.out; omega)
        exact ⟨ad, e⟩
      subst e_
      obtain ⟨y, hy⟩ : ∃ y, y = rd_T23 l ((x.toNat : Nat) : Int) := ⟨_, rfl⟩
      have HX0 := Aside0.mk (show El w (ad.add (x.toNat * 6)) y by rw [hy]; exact el_at HR.out x.toNat hxl)
      have HHX := Aside0.mk (show ElemOk Try.prog w (ad.add (x.toNat * 6)) 23 from HH.out _ hxl)
      have HXB := Aside0.mk (show ad.block < w.heap.size by have h_ := HX0.out.lt; rw [add_blk] at h_; exact h_)
      have HXr := Aside0.mk (show El wr (ad.add (x.toNat * 6)) y from HX0.out.below SS.out.bl)
      have HY := Aside0.mk hy
      obtain ⟨x0, x1, x2, x3, x4, x5⟩ := HXr.out
      have hd : decide (x < (n : Int)) = true := decide_eq_true hlt
      have hw : wrap64 (x + 1) = x + 1 := w64 (by omega) (by have := HL.out; have := HN.out; omega)
      have h0t := eq_true h0
      have hltt := eq_true hlt
      clear hy hxl
      cases hk : knownS y with
      | false =>
        have HK := Aside0.mk hk
        clear hk
        go_wp2_with (go_at_call 31; (with_reducible refine (known_b y false _ HK.out).mono ?_); rintro _ w6 ⟨rfl, hb⟩; have S6 := Aside0.mk (SS.out.below hb); have X6 := Aside0.mk (HXr.out.below hb); clear hb)
        go_roundg k1
        case measure => have := HI.out; omega
        case rel => exact ⟨x + 1, by first | rfl | simp [hw], ⟨by have := H0.out; omega⟩, ⟨by have := HI.out; omega⟩, ⟨by
          rw [show (x + 1).toNat = x.toNat + 1 by have := H0.out; omega, show eGo l (x.toNat + 1) = eGo l x.toNat from by show eStep l x.toNat (eGo l x.toNat) = _; unfold eStep; rw [← HY.out, HK.out, if_neg (by decide)]]
          exact S6.out⟩⟩
      | true =>
        have HK := Aside0.mk hk
        clear hk
        cases hE : eGo l x.toNat with
        | none =>
          have HE := Aside0.mk hE
          have SS2 := Aside0.mk (show EnSt w wr g2 g3 g5 g6 #[.bool false, .int .i64 0, .int .i64 0, .int .i64 0, .int .i64 0, .int .i64 0] #[.bool false, .int .i64 0, .int .i64 0, .int .i64 0, .int .i64 0, .int .i64 0] none none by have h := SS.out; rw [hE] at h; exact h)
          clear SS hE
          have SS := SS2
          clear SS2
          go_upto_region 8 with (first
            | (go_at_call 31; (with_reducible refine (known_b y true _ HK.out).mono ?_); rintro _ w6 ⟨rfl, hb⟩; have S6 := Aside0.mk (SS.out.below hb); have X6 := Aside0.mk (HXr.out.below hb); clear hb)
            | (go_at_call 37; (with_reducible refine (en_load g5 (none) _ ((blk_cell S6.out.b5 0).trans rfl) (fun _ h_ => by cases h_)).mono ?_); rintro _ _ ⟨rfl, rfl⟩))
          refine start_ (n := 11) (S := fun w' => True) (ds := []) #[false, false, false, false, false, false, false, false, false, false, false] (by kernel_rfl) rfl rfl trivial (fun hHeld => ?_); refine with_tabW ens.tab8 ens.bits8 (fun HT_ HW_ => ?_)
          refine pure_ (i := 0) (N := some 25) (v := ?_) (a' := ?_) #[true, false, false, false, false, false, false, false, false, false, false] rfl rfl (any_of HT_.out (by kernel_rfl)) (fun _ _ _ h => h) (Or.inl ⟨by rfl, ?_⟩) ?_ ?_
          rotate_left
          · intro w'
            go_simp
            with_reducible rfl
          rotate_left
          · simp only [Act.put, List.setIfInBounds_toArray, List.set_cons_zero, List.set_cons_succ, i64_w, i32_w]
            rfl
          refine pure_ (i := 1) (N := some 26) (v := ?_) (a' := ?_) #[true, true, false, false, false, false, false, false, false, false, false] rfl rfl (any_of HT_.out (by kernel_rfl)) (fun _ _ _ h => h) (Or.inl ⟨by rfl, ?_⟩) ?_ ?_
          rotate_left
          · intro w'
            go_simp
            with_reducible rfl
          rotate_left
          · simp only [Act.put, List.setIfInBounds_toArray, List.set_cons_zero, List.set_cons_succ, i64_w, i32_w]
            rfl
          refine pure_ (i := 2) (N := some 27) (v := ?_) (a' := ?_) #[true, true, true, false, false, false, false, false, false, false, false] rfl rfl (any_of HT_.out (by kernel_rfl)) (fun _ _ _ h => h) (Or.inl ⟨by rfl, ?_⟩) ?_ ?_
          rotate_left
          · intro w'
            go_simp
            with_reducible rfl
          rotate_left
          · simp only [Act.put, List.setIfInBounds_toArray, List.set_cons_zero, List.set_cons_succ, i64_w, i32_w]
            rfl
          refine pure_ (i := 3) (N := some 28) (v := undef) (a' := ?_) #[true, true, true, true, false, false, false, false, false, false, false] rfl rfl (any_of HT_.out (by kernel_rfl)) (fun _ _ _ h => h) (Or.inr ⟨by rfl, rfl⟩) ?_ ?_
          rotate_left
          · simp only [Act.put, List.setIfInBounds_toArray, List.set_cons_zero, List.set_cons_succ, i64_w, i32_w]
            rfl
          refine pure_ (i := 4) (N := some 29) (v := undef) (a' := ?_) #[true, true, true, true, true, false, false, false, false, false, false] rfl rfl (any_of HT_.out (by kernel_rfl)) (fun _ _ _ h => h) (Or.inr ⟨by rfl, rfl⟩) ?_ ?_
          rotate_left
          · simp only [Act.put, List.setIfInBounds_toArray, List.set_cons_zero, List.set_cons_succ, i64_w, i32_w]
            rfl
          refine pure_ (i := 5) (N := some 30) (v := undef) (a' := ?_) #[true, true, true, true, true, true, false, false, false, false, false] rfl rfl (any_of HT_.out (by kernel_rfl)) (fun _ _ _ h => h) (Or.inr ⟨by rfl, rfl⟩) ?_ ?_
          rotate_left
          · simp only [Act.put, List.setIfInBounds_toArray, List.set_cons_zero, List.set_cons_succ, i64_w, i32_w]
            rfl
          refine pure_ (i := 6) (N := some 31) (v := undef) (a' := ?_) #[true, true, true, true, true, true, true, false, false, false, false] rfl rfl (any_of HT_.out (by kernel_rfl)) (fun _ _ _ h => h) (Or.inr ⟨by rfl, rfl⟩) ?_ ?_
          rotate_left
          · simp only [Act.put, List.setIfInBounds_toArray, List.set_cons_zero, List.set_cons_succ, i64_w, i32_w]
            rfl
          refine pure_ (i := 7) (N := some 32) (v := undef) (a' := ?_) #[true, true, true, true, true, true, true, true, false, false, false] rfl rfl (any_of HT_.out (by kernel_rfl)) (fun _ _ _ h => h) (Or.inr ⟨by rfl, rfl⟩) ?_ ?_
          rotate_left
          · simp only [Act.put, List.setIfInBounds_toArray, List.set_cons_zero, List.set_cons_succ, i64_w, i32_w]
            rfl
          refine pure_ (i := 8) (N := some 33) (v := undef) (a' := ?_) #[true, true, true, true, true, true, true, true, true, false, false] rfl rfl (any_of HT_.out (by kernel_rfl)) (fun _ _ _ h => h) (Or.inr ⟨by rfl, rfl⟩) ?_ ?_
          rotate_left
          · simp only [Act.put, List.setIfInBounds_toArray, List.set_cons_zero, List.set_cons_succ, i64_w, i32_w]
            rfl
          refine pure_ (i := 9) (N := some 34) (v := undef) (a' := ?_) #[true, true, true, true, true, true, true, true, true, true, false] rfl rfl (any_of HT_.out (by kernel_rfl)) (fun _ _ _ h => h) (Or.inr ⟨by rfl, rfl⟩) ?_ ?_
          rotate_left
          · simp only [Act.put, List.setIfInBounds_toArray, List.set_cons_zero, List.set_cons_succ, i64_w, i32_w]
            rfl
          refine pure_ (i := 10) (N := some 35) (v := ?_) (a' := ?_) #[true, true, true, true, true, true, true, true, true, true, true] rfl rfl (any_of HT_.out (by kernel_rfl)) (fun _ _ _ h => h) (Or.inl ⟨by rfl, ?_⟩) ?_ ?_
          rotate_left
          · intro w'
            go_simp
            with_reducible rfl
          rotate_left
          · simp only [Act.put, List.setIfInBounds_toArray, List.set_cons_zero, List.set_cons_succ, i64_w, i32_w]
            rfl
          refine done_ (done_of HT_.out (by kernel_rfl)) ?_
          have S8 := Aside0.mk S6.out.drew
          have X8 := Aside0.mk (show El w6.drew (ad.add (x.toNat * 6)) y from X6.out)
          go_upto_region 11 with (first
            | (go_at_call 38; (with_reducible refine (en_store g5 _ _ (ad.add (x.toNat * 6)) _ ((blk_cell S8.out.b5 0).trans rfl) (blk_frozen S8.out.b5 0) X8.out.c0).mono ?_); rintro _ w9 ⟨rfl, hw_⟩; have h1_ := S8.out.setLo (ad.add (x.toNat * 6)); have h2_ := X8.out.far (q := ⟨g5, 0, none⟩) (by have h1 := HXB.out; have h2 := S8.out.n5; rw [add_blk]; show ad.block ≠ g5; omega) (.pointer (some (ad.add (x.toNat * 6)))); rw [hw_] at h1_ h2_; have S9 := Aside0.mk h1_; have X9 := Aside0.mk h2_; clear hw_ h1_ h2_)
            | (go_at_call 37; (with_reducible refine (en_load g6 (none) _ ((blk_cell S9.out.b6 0).trans rfl) (fun _ h_ => by cases h_)).mono ?_); rintro _ _ ⟨rfl, rfl⟩))
          refine start_ (n := 11) (S := fun w' => True) (ds := []) #[false, false, false, false, false, false, false, false, false, false, false] (by kernel_rfl) rfl rfl trivial (fun hHeld => ?_); refine with_tabW ens.tab11 ens.bits11 (fun HT_ HW_ => ?_)
          refine pure_ (i := 0) (N := some 39) (v := ?_) (a' := ?_) #[true, false, false, false, false, false, false, false, false, false, false] rfl rfl (any_of HT_.out (by kernel_rfl)) (fun _ _ _ h => h) (Or.inl ⟨by rfl, ?_⟩) ?_ ?_
          rotate_left
          · intro w'
            go_simp
            with_reducible rfl
          rotate_left
          · simp only [Act.put, List.setIfInBounds_toArray, List.set_cons_zero, List.set_cons_succ, i64_w, i32_w]
            rfl
          refine pure_ (i := 1) (N := some 40) (v := ?_) (a' := ?_) #[true, true, false, false, false, false, false, false, false, false, false] rfl rfl (any_of HT_.out (by kernel_rfl)) (fun _ _ _ h => h) (Or.inl ⟨by rfl, ?_⟩) ?_ ?_
          rotate_left
          · intro w'
            go_simp
            with_reducible rfl
          rotate_left
          · simp only [Act.put, List.setIfInBounds_toArray, List.set_cons_zero, List.set_cons_succ, i64_w, i32_w]
            rfl
          refine pure_ (i := 2) (N := some 41) (v := ?_) (a' := ?_) #[true, true, true, false, false, false, false, false, false, false, false] rfl rfl (any_of HT_.out (by kernel_rfl)) (fun _ _ _ h => h) (Or.inl ⟨by rfl, ?_⟩) ?_ ?_
          rotate_left
          · intro w'
            go_simp
            with_reducible rfl
          rotate_left
          · simp only [Act.put, List.setIfInBounds_toArray, List.set_cons_zero, List.set_cons_succ, i64_w, i32_w]
            rfl
          refine pure_ (i := 3) (N := some 42) (v := undef) (a' := ?_) #[true, true, true, true, false, false, false, false, false, false, false] rfl rfl (any_of HT_.out (by kernel_rfl)) (fun _ _ _ h => h) (Or.inr ⟨by rfl, rfl⟩) ?_ ?_
          rotate_left
          · simp only [Act.put, List.setIfInBounds_toArray, List.set_cons_zero, List.set_cons_succ, i64_w, i32_w]
            rfl
          refine pure_ (i := 4) (N := some 43) (v := undef) (a' := ?_) #[true, true, true, true, true, false, false, false, false, false, false] rfl rfl (any_of HT_.out (by kernel_rfl)) (fun _ _ _ h => h) (Or.inr ⟨by rfl, rfl⟩) ?_ ?_
          rotate_left
          · simp only [Act.put, List.setIfInBounds_toArray, List.set_cons_zero, List.set_cons_succ, i64_w, i32_w]
            rfl
          refine pure_ (i := 5) (N := some 44) (v := undef) (a' := ?_) #[true, true, true, true, true, true, false, false, false, false, false] rfl rfl (any_of HT_.out (by kernel_rfl)) (fun _ _ _ h => h) (Or.inr ⟨by rfl, rfl⟩) ?_ ?_
          rotate_left
          · simp only [Act.put, List.setIfInBounds_toArray, List.set_cons_zero, List.set_cons_succ, i64_w, i32_w]
            rfl
          refine pure_ (i := 6) (N := some 45) (v := undef) (a' := ?_) #[true, true, true, true, true, true, true, false, false, false, false] rfl rfl (any_of HT_.out (by kernel_rfl)) (fun _ _ _ h => h) (Or.inr ⟨by rfl, rfl⟩) ?_ ?_
          rotate_left
          · simp only [Act.put, List.setIfInBounds_toArray, List.set_cons_zero, List.set_cons_succ, i64_w, i32_w]
            rfl
          refine pure_ (i := 7) (N := some 46) (v := undef) (a' := ?_) #[true, true, true, true, true, true, true, true, false, false, false] rfl rfl (any_of HT_.out (by kernel_rfl)) (fun _ _ _ h => h) (Or.inr ⟨by rfl, rfl⟩) ?_ ?_
          rotate_left
          · simp only [Act.put, List.setIfInBounds_toArray, List.set_cons_zero, List.set_cons_succ, i64_w, i32_w]
            rfl
          refine pure_ (i := 8) (N := some 47) (v := undef) (a' := ?_) #[true, true, true, true, true, true, true, true, true, false, false] rfl rfl (any_of HT_.out (by kernel_rfl)) (fun _ _ _ h => h) (Or.inr ⟨by rfl, rfl⟩) ?_ ?_
          rotate_left
          · simp only [Act.put, List.setIfInBounds_toArray, List.set_cons_zero, List.set_cons_succ, i64_w, i32_w]
            rfl
          refine pure_ (i := 9) (N := some 48) (v := undef) (a' := ?_) #[true, true, true, true, true, true, true, true, true, true, false] rfl rfl (any_of HT_.out (by kernel_rfl)) (fun _ _ _ h => h) (Or.inr ⟨by rfl, rfl⟩) ?_ ?_
          rotate_left
          · simp only [Act.put, List.setIfInBounds_toArray, List.set_cons_zero, List.set_cons_succ, i64_w, i32_w]
            rfl
          refine pure_ (i := 10) (N := some 49) (v := ?_) (a' := ?_) #[true, true, true, true, true, true, true, true, true, true, true] rfl rfl (any_of HT_.out (by kernel_rfl)) (fun _ _ _ h => h) (Or.inl ⟨by rfl, ?_⟩) ?_ ?_
          rotate_left
          · intro w'
            go_simp
            with_reducible rfl
          rotate_left
          · simp only [Act.put, List.setIfInBounds_toArray, List.set_cons_zero, List.set_cons_succ, i64_w, i32_w]
            rfl
          refine done_ (done_of HT_.out (by kernel_rfl)) ?_
          have S11 := Aside0.mk S9.out.drew
          have X11 := Aside0.mk (show El w9.drew (ad.add (x.toNat * 6)) y from X9.out)
          go_wp2_with (go_at_call 38; (with_reducible refine (en_store g6 _ _ (ad.add (x.toNat * 6)) _ ((blk_cell S11.out.b6 0).trans rfl) (blk_frozen S11.out.b6 0) X11.out.c0).mono ?_); rintro _ w12 ⟨rfl, hw_⟩; have h1_ := S11.out.setHi (ad.add (x.toNat * 6)); have h2_ := X11.out.far (q := ⟨g6, 0, none⟩) (by have h1 := HXB.out; have h2 := S11.out.n6; rw [add_blk]; show ad.block ≠ g6; omega) (.pointer (some (ad.add (x.toNat * 6)))); rw [hw_] at h1_ h2_; have S12 := Aside0.mk h1_; have X12 := Aside0.mk h2_; clear hw_ h1_ h2_)
          go_roundg k1
          case measure => have := HI.out; omega
          case rel => exact ⟨x + 1, by first | rfl | simp [hw], ⟨by have := H0.out; omega⟩, ⟨by have := HI.out; omega⟩, ⟨by
            rw [show (x + 1).toNat = x.toNat + 1 by have := H0.out; omega, show eGo l (x.toNat + 1) = some (x.toNat, x.toNat) from by show eStep l x.toNat (eGo l x.toNat) = _; unfold eStep; rw [HE.out, ← HY.out, HK.out]; rfl]
            exact S12.out⟩⟩
        | some p =>
          obtain ⟨a, b⟩ := p
          have HE := Aside0.mk hE
          have hab := eGo_lt l _ a b hE
          have hxl : x.toNat < l.length := by have := HN.out; omega
          have SS2 := Aside0.mk (show EnSt w wr g2 g3 g5 g6 #[.bool false, .int .i64 0, .int .i64 0, .int .i64 0, .int .i64 0, .int .i64 0] #[.bool false, .int .i64 0, .int .i64 0, .int .i64 0, .int .i64 0, .int .i64 0] (some (eA (some ad) a)) (some (eA (some ad) b)) by have h := SS.out; rw [hE] at h; exact h)
          have HA := Aside0.mk (el_at HR.out a (by omega))
          have HB := Aside0.mk (el_at HR.out b (by omega))
          have HHA := Aside0.mk (HH.out a (by omega))
          have HHB := Aside0.mk (HH.out b (by omega))
          have HAB := Aside0.mk HA.out.lt
          have HBB := Aside0.mk HB.out.lt
          clear SS hE hab hxl
          have SS := SS2
          clear SS2
          cases hc1 : lessS y (rd_T23 l (a : Int)) with
          | true =>
            have C1 := Aside0.mk hc1
            clear hc1
            cases hc2 : lessS (rd_T23 l (b : Int)) y with
            | true =>
              have C2 := Aside0.mk hc2
              clear hc2
              go_upto_region 8 with (first
                | (go_at_call 31; (with_reducible refine (known_b y true _ HK.out).mono ?_); rintro _ w6 ⟨rfl, hb⟩; have S6 := Aside0.mk (SS.out.below hb); have X6 := Aside0.mk (HXr.out.below hb); clear hb)
                | (go_at_call 37; (with_reducible refine (en_load g5 (some (eA (some ad) a)) _ ((blk_cell S6.out.b5 0).trans rfl) (fun _ h_ => by cases h_; exact HHA.out.below HAB.out S6.out.bl)).mono ?_); rintro _ _ ⟨rfl, rfl⟩))
              have A6 := Aside0.mk (HA.out.below S6.out.bl)
              refine start_ (n := 11) (S := fun w' => El w' (ad.add (x.toNat * 6)) y ∧ El w' (eA (some ad) a) (rd_T23 l (a : Int))) (ds := [9]) #[false, false, false, false, false, false, false, false, false, false, false] (by kernel_rfl) rfl rfl (⟨X6.out, A6.out⟩) (fun hHeld => ?_); refine with_tabW ens.tab8 ens.bits8 (fun HT_ HW_ => ?_)
              refine pure_ (i := 0) (N := some 25) (v := ?_) (a' := ?_) #[true, false, false, false, false, false, false, false, false, false, false] rfl rfl (any_of HT_.out (by kernel_rfl)) (fun _ _ _ h => h) (Or.inl ⟨by rfl, ?_⟩) ?_ ?_
              rotate_left
              · intro w'
                go_simp
                with_reducible rfl
              rotate_left
              · simp only [Act.put, List.setIfInBounds_toArray, List.set_cons_zero, List.set_cons_succ, i64_w, i32_w]
                rfl
              refine pure_ (i := 1) (N := some 26) (v := ?_) (a' := ?_) #[true, true, false, false, false, false, false, false, false, false, false] rfl rfl (any_of HT_.out (by kernel_rfl)) (fun _ _ _ h => h) (Or.inl ⟨by rfl, ?_⟩) ?_ ?_
              rotate_left
              · intro w'
                go_simp
                with_reducible rfl
              rotate_left
              · simp only [Act.put, List.setIfInBounds_toArray, List.set_cons_zero, List.set_cons_succ, i64_w, i32_w]
                rfl
              refine pure_ (i := 2) (N := some 27) (v := ?_) (a' := ?_) #[true, true, true, false, false, false, false, false, false, false, false] rfl rfl (any_of HT_.out (by kernel_rfl)) (fun _ _ _ h => h) (Or.inl ⟨by rfl, ?_⟩) ?_ ?_
              rotate_left
              · intro w'
                go_simp
                with_reducible rfl
              rotate_left
              · simp only [Act.put, List.setIfInBounds_toArray, List.set_cons_zero, List.set_cons_succ, i64_w, i32_w]
                rfl
              refine pure_ (i := 3) (N := some 28) (v := ?_) (a' := ?_) #[true, true, true, true, false, false, false, false, false, false, false] rfl rfl (any_of HT_.out (by kernel_rfl)) (fun _ _ _ h => h) (Or.inl ⟨by rfl, ?_⟩) ?_ ?_
              rotate_left
              · intro w'
                go_simp
                with_reducible rfl
              rotate_left
              · simp only [Act.put, List.setIfInBounds_toArray, List.set_cons_zero, List.set_cons_succ, i64_w, i32_w]
                rfl
              refine pure_ (i := 4) (N := some 29) (v := ?_) (a' := ?_) #[true, true, true, true, true, false, false, false, false, false, false] rfl rfl (any_of HT_.out (by kernel_rfl)) (fun _ _ _ h => h) (Or.inl ⟨by rfl, ?_⟩) ?_ ?_
              rotate_left
              · intro w'
                go_simp
                with_reducible rfl
              rotate_left
              · simp only [Act.put, List.setIfInBounds_toArray, List.set_cons_zero, List.set_cons_succ, i64_w, i32_w]
                rfl
              refine pure_ (i := 6) (N := some 31) (v := ?_) (a' := ?_) #[true, true, true, true, true, false, true, false, false, false, false] rfl rfl (any_of HT_.out (by kernel_rfl)) (fun _ _ _ h => h) (Or.inl ⟨by rfl, ?_⟩) ?_ ?_
              rotate_left
              · intro w'
                go_simp
                with_reducible rfl
              rotate_left
              · simp only [Act.put, List.setIfInBounds_toArray, List.set_cons_zero, List.set_cons_succ, i64_w, i32_w]
                rfl
              refine pure_ (i := 7) (N := some 32) (v := ?_) (a' := ?_) #[true, true, true, true, true, false, true, true, false, false, false] rfl rfl (any_of HT_.out (by kernel_rfl)) (fun _ _ _ h => h) (Or.inl ⟨by rfl, ?_⟩) ?_ ?_
              rotate_left
              · intro w'
                go_simp
                with_reducible rfl
              rotate_left
              · simp only [Act.put, List.setIfInBounds_toArray, List.set_cons_zero, List.set_cons_succ, i64_w, i32_w]
                rfl
              refine take_ (i := 5) (N := some 30) (v := ?_) (a' := ?_) #[true, true, true, true, true, true, true, true, false, false, false] rfl rfl (take_ofW HT_.out HW_.out (by kernel_rfl)) (fun _ _ _ h => h) (Or.inl ⟨by rfl, ?_⟩) hHeld ?_ ?_
              rotate_left
              · intro w' s0
                obtain ⟨⟨u0, u1, u2, u3, u4, u5⟩, v0, v1, v2, v3, v4, v5⟩ := s0
                go_simp
                with_reducible rfl
              rotate_left
              · simp only [Act.put, List.setIfInBounds_toArray, List.set_cons_zero, List.set_cons_succ, i64_w, i32_w]
                rfl
              refine take_ (i := 8) (N := some 33) (v := ?_) (a' := ?_) #[true, true, true, true, true, true, true, true, true, false, false] rfl rfl (take_ofW HT_.out HW_.out (by kernel_rfl)) (fun _ _ _ h => h) (Or.inl ⟨by rfl, ?_⟩) hHeld ?_ ?_
              rotate_left
              · intro w' s0
                obtain ⟨⟨u0, u1, u2, u3, u4, u5⟩, v0, v1, v2, v3, v4, v5⟩ := s0
                go_simp
                with_reducible rfl
              rotate_left
              · simp only [Act.put, List.setIfInBounds_toArray, List.set_cons_zero, List.set_cons_succ, i64_w, i32_w]
                rfl
              refine last_ (i := 9) (N := some 34) #[true, true, true, true, true, true, true, true, true, true, false] rfl rfl (one_of HT_.out (by kernel_rfl)) (by decide) (fun K hK => ?_)
              refine goes_ Try.func14 (by kernel_rfl) rfl #[.agg #[.bool y.f0, .int .i64 y.f1, .int .i64 y.f2, .int .i64 y.f3, .int .i64 y.f4, .int .i64 y.f5], .agg #[.bool (rd_T23 l (a : Int)).f0, .int .i64 (rd_T23 l (a : Int)).f1, .int .i64 (rd_T23 l (a : Int)).f2, .int .i64 (rd_T23 l (a : Int)).f3, .int .i64 (rd_T23 l (a : Int)).f4, .int .i64 (rd_T23 l (a : Int)).f5]] (by rfl) rfl rfl (by simp only [List.map_toArray, List.map_cons, List.map_nil]; rfl) ?_
              with_reducible refine (less_b y (rd_T23 l (a : Int)) true _ C1.out).mono ?_
              rintro e w8 ⟨rfl, hb⟩
              refine ⟨_, rfl, ?_⟩
              have S8 := Aside0.mk (S6.out.drew.below hb)
              have X8 := Aside0.mk (El.below (El.drew X6.out) hb)
              clear hb
              refine hK.out _ _ ?_
              clear hK K
              refine norm_ (a' := ?_) ?_ ?_
              rotate_left
              · show Act.put _ (some 34) _ = _
                simp only [Act.put, List.setIfInBounds_toArray, List.set_cons_zero, List.set_cons_succ, i64_w, i32_w]
                rfl
              refine pure_ (i := 10) (N := some 35) (v := ?_) (a' := ?_) #[true, true, true, true, true, true, true, true, true, true, true] rfl rfl (any_of HT_.out (by kernel_rfl)) (fun _ _ _ h => h) (Or.inl ⟨by rfl, ?_⟩) ?_ ?_
              rotate_left
              · intro w'
                go_simp
                with_reducible rfl
              rotate_left
              · simp only [Act.put, List.setIfInBounds_toArray, List.set_cons_zero, List.set_cons_succ, i64_w, i32_w]
                rfl
              refine done_ (done_of HT_.out (by kernel_rfl)) ?_
              clear HT_ HW_ A6
              go_upto_region 11 with (first
                | (go_at_call 38; (with_reducible refine (en_store g5 _ _ (ad.add (x.toNat * 6)) _ ((blk_cell S8.out.b5 0).trans rfl) (blk_frozen S8.out.b5 0) X8.out.c0).mono ?_); rintro _ w9 ⟨rfl, hw_⟩; have h1_ := S8.out.setLo (ad.add (x.toNat * 6)); have h2_ := X8.out.far (q := ⟨g5, 0, none⟩) (by have h1 := HXB.out; have h2 := S8.out.n5; rw [add_blk]; show ad.block ≠ g5; omega) (.pointer (some (ad.add (x.toNat * 6)))); rw [hw_] at h1_ h2_; have S9 := Aside0.mk h1_; have X9 := Aside0.mk h2_; clear hw_ h1_ h2_)
                | (go_at_call 37; (with_reducible refine (en_load g6 (some (eA (some ad) b)) _ ((blk_cell S9.out.b6 0).trans rfl) (fun _ h_ => by cases h_; exact HHB.out.below HBB.out S9.out.bl)).mono ?_); rintro _ _ ⟨rfl, rfl⟩))
              have B9 := Aside0.mk (HB.out.below S9.out.bl)
              refine start_ (n := 11) (S := fun w' => El w' (ad.add (x.toNat * 6)) y ∧ El w' (eA (some ad) b) (rd_T23 l (b : Int))) (ds := [9]) #[false, false, false, false, false, false, false, false, false, false, false] (by kernel_rfl) rfl rfl (⟨X9.out, B9.out⟩) (fun hHeld => ?_); refine with_tabW ens.tab11 ens.bits11 (fun HT_ HW_ => ?_)
              refine pure_ (i := 0) (N := some 39) (v := ?_) (a' := ?_) #[true, false, false, false, false, false, false, false, false, false, false] rfl rfl (any_of HT_.out (by kernel_rfl)) (fun _ _ _ h => h) (Or.inl ⟨by rfl, ?_⟩) ?_ ?_
              rotate_left
              · intro w'
                go_simp
                with_reducible rfl
              rotate_left
              · simp only [Act.put, List.setIfInBounds_toArray, List.set_cons_zero, List.set_cons_succ, i64_w, i32_w]
                rfl
              refine pure_ (i := 1) (N := some 40) (v := ?_) (a' := ?_) #[true, true, false, false, false, false, false, false, false, false, false] rfl rfl (any_of HT_.out (by kernel_rfl)) (fun _ _ _ h => h) (Or.inl ⟨by rfl, ?_⟩) ?_ ?_
              rotate_left
              · intro w'
                go_simp
                with_reducible rfl
              rotate_left
              · simp only [Act.put, List.setIfInBounds_toArray, List.set_cons_zero, List.set_cons_succ, i64_w, i32_w]
                rfl
              refine pure_ (i := 2) (N := some 41) (v := ?_) (a' := ?_) #[true, true, true, false, false, false, false, false, false, false, false] rfl rfl (any_of HT_.out (by kernel_rfl)) (fun _ _ _ h => h) (Or.inl ⟨by rfl, ?_⟩) ?_ ?_
              rotate_left
              · intro w'
                go_simp
                with_reducible rfl
              rotate_left
              · simp only [Act.put, List.setIfInBounds_toArray, List.set_cons_zero, List.set_cons_succ, i64_w, i32_w]
                rfl
              refine pure_ (i := 3) (N := some 42) (v := ?_) (a' := ?_) #[true, true, true, true, false, false, false, false, false, false, false] rfl rfl (any_of HT_.out (by kernel_rfl)) (fun _ _ _ h => h) (Or.inl ⟨by rfl, ?_⟩) ?_ ?_
              rotate_left
              · intro w'
                go_simp
                with_reducible rfl
              rotate_left
              · simp only [Act.put, List.setIfInBounds_toArray, List.set_cons_zero, List.set_cons_succ, i64_w, i32_w]
                rfl
              refine pure_ (i := 4) (N := some 43) (v := ?_) (a' := ?_) #[true, true, true, true, true, false, false, false, false, false, false] rfl rfl (any_of HT_.out (by kernel_rfl)) (fun _ _ _ h => h) (Or.inl ⟨by rfl, ?_⟩) ?_ ?_
              rotate_left
              · intro w'
                go_simp
                with_reducible rfl
              rotate_left
              · simp only [Act.put, List.setIfInBounds_toArray, List.set_cons_zero, List.set_cons_succ, i64_w, i32_w]
                rfl
              refine pure_ (i := 6) (N := some 45) (v := ?_) (a' := ?_) #[true, true, true, true, true, false, true, false, false, false, false] rfl rfl (any_of HT_.out (by kernel_rfl)) (fun _ _ _ h => h) (Or.inl ⟨by rfl, ?_⟩) ?_ ?_
              rotate_left
              · intro w'
                go_simp
                with_reducible rfl
              rotate_left
              · simp only [Act.put, List.setIfInBounds_toArray, List.set_cons_zero, List.set_cons_succ, i64_w, i32_w]
                rfl
              refine pure_ (i := 7) (N := some 46) (v := ?_) (a' := ?_) #[true, true, true, true, true, false, true, true, false, false, false] rfl rfl (any_of HT_.out (by kernel_rfl)) (fun _ _ _ h => h) (Or.inl ⟨by rfl, ?_⟩) ?_ ?_
              rotate_left
              · intro w'
                go_simp
                with_reducible rfl
              rotate_left
              · simp only [Act.put, List.setIfInBounds_toArray, List.set_cons_zero, List.set_cons_succ, i64_w, i32_w]
                rfl
              refine take_ (i := 5) (N := some 44) (v := ?_) (a' := ?_) #[true, true, true, true, true, true, true, true, false, false, false] rfl rfl (take_ofW HT_.out HW_.out (by kernel_rfl)) (fun _ _ _ h => h) (Or.inl ⟨by rfl, ?_⟩) hHeld ?_ ?_
              rotate_left
              · intro w' s0
                obtain ⟨⟨u0, u1, u2, u3, u4, u5⟩, v0, v1, v2, v3, v4, v5⟩ := s0
                go_simp
                with_reducible rfl
              rotate_left
              · simp only [Act.put, List.setIfInBounds_toArray, List.set_cons_zero, List.set_cons_succ, i64_w, i32_w]
                rfl
              refine take_ (i := 8) (N := some 47) (v := ?_) (a' := ?_) #[true, true, true, true, true, true, true, true, true, false, false] rfl rfl (take_ofW HT_.out HW_.out (by kernel_rfl)) (fun _ _ _ h => h) (Or.inl ⟨by rfl, ?_⟩) hHeld ?_ ?_
              rotate_left
              · intro w' s0
                obtain ⟨⟨u0, u1, u2, u3, u4, u5⟩, v0, v1, v2, v3, v4, v5⟩ := s0
                go_simp
                with_reducible rfl
              rotate_left
              · simp only [Act.put, List.setIfInBounds_toArray, List.set_cons_zero, List.set_cons_succ, i64_w, i32_w]
                rfl
              refine last_ (i := 9) (N := some 48) #[true, true, true, true, true, true, true, true, true, true, false] rfl rfl (one_of HT_.out (by kernel_rfl)) (by decide) (fun K hK => ?_)
              refine goes_ Try.func14 (by kernel_rfl) rfl #[.agg #[.bool (rd_T23 l (b : Int)).f0, .int .i64 (rd_T23 l (b : Int)).f1, .int .i64 (rd_T23 l (b : Int)).f2, .int .i64 (rd_T23 l (b : Int)).f3, .int .i64 (rd_T23 l (b : Int)).f4, .int .i64 (rd_T23 l (b : Int)).f5], .agg #[.bool y.f0, .int .i64 y.f1, .int .i64 y.f2, .int .i64 y.f3, .int .i64 y.f4, .int .i64 y.f5]] (by rfl) rfl rfl (by simp only [List.map_toArray, List.map_cons, List.map_nil]; rfl) ?_
              with_reducible refine (less_b (rd_T23 l (b : Int)) y true _ C2.out).mono ?_
              rintro e w11 ⟨rfl, hb⟩
              refine ⟨_, rfl, ?_⟩
              have S11 := Aside0.mk (S9.out.drew.below hb)
              have X11 := Aside0.mk (El.below (El.drew X9.out) hb)
              clear hb
              refine hK.out _ _ ?_
              clear hK K
              refine norm_ (a' := ?_) ?_ ?_
              rotate_left
              · show Act.put _ (some 48) _ = _
                simp only [Act.put, List.setIfInBounds_toArray, List.set_cons_zero, List.set_cons_succ, i64_w, i32_w]
                rfl
              refine pure_ (i := 10) (N := some 49) (v := ?_) (a' := ?_) #[true, true, true, true, true, true, true, true, true, true, true] rfl rfl (any_of HT_.out (by kernel_rfl)) (fun _ _ _ h => h) (Or.inl ⟨by rfl, ?_⟩) ?_ ?_
              rotate_left
              · intro w'
                go_simp
                with_reducible rfl
              rotate_left
              · simp only [Act.put, List.setIfInBounds_toArray, List.set_cons_zero, List.set_cons_succ, i64_w, i32_w]
                rfl
              refine done_ (done_of HT_.out (by kernel_rfl)) ?_
              clear HT_ HW_ B9
              go_wp2_with (go_at_call 38; (with_reducible refine (en_store g6 _ _ (ad.add (x.toNat * 6)) _ ((blk_cell S11.out.b6 0).trans rfl) (blk_frozen S11.out.b6 0) X11.out.c0).mono ?_); rintro _ w12 ⟨rfl, hw_⟩; have h1_ := S11.out.setHi (ad.add (x.toNat * 6)); have h2_ := X11.out.far (q := ⟨g6, 0, none⟩) (by have h1 := HXB.out; have h2 := S11.out.n6; rw [add_blk]; show ad.block ≠ g6; omega) (.pointer (some (ad.add (x.toNat * 6)))); rw [hw_] at h1_ h2_; have S12 := Aside0.mk h1_; have X12 := Aside0.mk h2_; clear hw_ h1_ h2_)
              go_roundg k1
              case measure => have := HI.out; omega
              case rel => exact ⟨x + 1, by first | rfl | simp [hw], ⟨by have := H0.out; omega⟩, ⟨by have := HI.out; omega⟩, ⟨by
                rw [show (x + 1).toNat = x.toNat + 1 by have := H0.out; omega, show eGo l (x.toNat + 1) = some (x.toNat, x.toNat) from by show eStep l x.toNat (eGo l x.toNat) = _; unfold eStep; rw [HE.out, ← HY.out, HK.out]; show some (if lessS y (rd_T23 l (a : Int)) = true then x.toNat else a, if lessS (rd_T23 l (b : Int)) y = true then x.toNat else b) = _; rw [C1.out, C2.out]; rfl]
                exact S12.out⟩⟩
            | false =>
              have C2 := Aside0.mk hc2
              clear hc2
              go_upto_region 8 with (first
                | (go_at_call 31; (with_reducible refine (known_b y true _ HK.out).mono ?_); rintro _ w6 ⟨rfl, hb⟩; have S6 := Aside0.mk (SS.out.below hb); have X6 := Aside0.mk (HXr.out.below hb); clear hb)
                | (go_at_call 37; (with_reducible refine (en_load g5 (some (eA (some ad) a)) _ ((blk_cell S6.out.b5 0).trans rfl) (fun _ h_ => by cases h_; exact HHA.out.below HAB.out S6.out.bl)).mono ?_); rintro _ _ ⟨rfl, rfl⟩))
              have A6 := Aside0.mk (HA.out.below S6.out.bl)
              refine start_ (n := 11) (S := fun w' => El w' (ad.add (x.toNat * 6)) y ∧ El w' (eA (some ad) a) (rd_T23 l (a : Int))) (ds := [9]) #[false, false, false, false, false, false, false, false, false, false, false] (by kernel_rfl) rfl rfl (⟨X6.out, A6.out⟩) (fun hHeld => ?_); refine with_tabW ens.tab8 ens.bits8 (fun HT_ HW_ => ?_)
              refine pure_ (i := 0) (N := some 25) (v := ?_) (a' := ?_) #[true, false, false, false, false, false, false, false, false, false, false] rfl rfl (any_of HT_.out (by kernel_rfl)) (fun _ _ _ h => h) (Or.inl ⟨by rfl, ?_⟩) ?_ ?_
              rotate_left
              · intro w'
                go_simp
                with_reducible rfl
              rotate_left
              · simp only [Act.put, List.setIfInBounds_toArray, List.set_cons_zero, List.set_cons_succ, i64_w, i32_w]
                rfl
              refine pure_ (i := 1) (N := some 26) (v := ?_) (a' := ?_) #[true, true, false, false, false, false, false, false, false, false, false] rfl rfl (any_of HT_.out (by kernel_rfl)) (fun _ _ _ h => h) (Or.inl ⟨by rfl, ?_⟩) ?_ ?_
              rotate_left
              · intro w'
                go_simp
                with_reducible rfl
              rotate_left
              · simp only [Act.put, List.setIfInBounds_toArray, List.set_cons_zero, List.set_cons_succ, i64_w, i32_w]
                rfl
              refine pure_ (i := 2) (N := some 27) (v := ?_) (a' := ?_) #[true, true, true, false, false, false, false, false, false, false, false] rfl rfl (any_of HT_.out (by kernel_rfl)) (fun _ _ _ h => h) (Or.inl ⟨by rfl, ?_⟩) ?_ ?_
              rotate_left
              · intro w'
                go_simp
                with_reducible rfl
              rotate_left
              · simp only [Act.put, List.setIfInBounds_toArray, List.set_cons_zero, List.set_cons_succ, i64_w, i32_w]
                rfl
              refine pure_ (i := 3) (N := some 28) (v := ?_) (a' := ?_) #[true, true, true, true, false, false, false, false, false, false, false] rfl rfl (any_of HT_.out (by kernel_rfl)) (fun _ _ _ h => h) (Or.inl ⟨by rfl, ?_⟩) ?_ ?_
              rotate_left
              · intro w'
                go_simp
                with_reducible rfl
              rotate_left
              · simp only [Act.put, List.setIfInBounds_toArray, List.set_cons_zero, List.set_cons_succ, i64_w, i32_w]
                rfl
              refine pure_ (i := 4) (N := some 29) (v := ?_) (a' := ?_) #[true, true, true, true, true, false, false, false, false, false, false] rfl rfl (any_of HT_.out (by kernel_rfl)) (fun _ _ _ h => h) (Or.inl ⟨by rfl, ?_⟩) ?_ ?_
              rotate_left
              · intro w'
                go_simp
                with_reducible rfl
              rotate_left
              · simp only [Act.put, List.setIfInBounds_toArray, List.set_cons_zero, List.set_cons_succ, i64_w, i32_w]
                rfl
              refine pure_ (i := 6) (N := some 31) (v := ?_) (a' := ?_) #[true, true, true, true, true, false, true, false, false, false, false] rfl rfl (any_of HT_.out (by kernel_rfl)) (fun _ _ _ h => h) (Or.inl ⟨by rfl, ?_⟩) ?_ ?_
              rotate_left
              · intro w'
                go_simp
                with_reducible rfl
              rotate_left
              · simp only [Act.put, List.setIfInBounds_toArray, List.set_cons_zero, List.set_cons_succ, i64_w, i32_w]
                rfl
              refine pure_ (i := 7) (N := some 32) (v := ?_) (a' := ?_) #[true, true, true, true, true, false, true, true, false, false, false] rfl rfl (any_of HT_.out (by kernel_rfl)) (fun _ _ _ h => h) (Or.inl ⟨by rfl, ?_⟩) ?_ ?_
              rotate_left
              · intro w'
                go_simp
                with_reducible rfl
              rotate_left
              · simp only [Act.put, List.setIfInBounds_toArray, List.set_cons_zero, List.set_cons_succ, i64_w, i32_w]
                rfl
              refine take_ (i := 5) (N := some 30) (v := ?_) (a' := ?_) #[true, true, true, true, true, true, true, true, false, false, false] rfl rfl (take_ofW HT_.out HW_.out (by kernel_rfl)) (fun _ _ _ h => h) (Or.inl ⟨by rfl, ?_⟩) hHeld ?_ ?_
              rotate_left
              · intro w' s0
                obtain ⟨⟨u0, u1, u2, u3, u4, u5⟩, v0, v1, v2, v3, v4, v5⟩ := s0
                go_simp
                with_reducible rfl
              rotate_left
              · simp only [Act.put, List.setIfInBounds_toArray, List.set_cons_zero, List.set_cons_succ, i64_w, i32_w]
                rfl
              refine take_ (i := 8) (N := some 33) (v := ?_) (a' := ?_) #[true, true, true, true, true, true, true, true, true, false, false] rfl rfl (take_ofW HT_.out HW_.out (by kernel_rfl)) (fun _ _ _ h => h) (Or.inl ⟨by rfl, ?_⟩) hHeld ?_ ?_
              rotate_left
              · intro w' s0
                obtain ⟨⟨u0, u1, u2, u3, u4, u5⟩, v0, v1, v2, v3, v4, v5⟩ := s0
                go_simp
                with_reducible rfl
              rotate_left
              · simp only [Act.put, List.setIfInBounds_toArray, List.set_cons_zero, List.set_cons_succ, i64_w, i32_w]
                rfl
              refine last_ (i := 9) (N := some 34) #[true, true, true, true, true, true, true, true, true, true, false] rfl rfl (one_of HT_.out (by kernel_rfl)) (by decide) (fun K hK => ?_)
              refine goes_ Try.func14 (by kernel_rfl) rfl #[.agg #[.bool y.f0, .int .i64 y.f1, .int .i64 y.f2, .int .i64 y.f3, .int .i64 y.f4, .int .i64 y.f5], .agg #[.bool (rd_T23 l (a : Int)).f0, .int .i64 (rd_T23 l (a : Int)).f1, .int .i64 (rd_T23 l (a : Int)).f2, .int .i64 (rd_T23 l (a : Int)).f3, .int .i64 (rd_T23 l (a : Int)).f4, .int .i64 (rd_T23 l (a : Int)).f5]] (by rfl) rfl rfl (by simp only [List.map_toArray, List.map_cons, List.map_nil]; rfl) ?_
              with_reducible refine (less_b y (rd_T23 l (a : Int)) true _ C1.out).mono ?_
              rintro e w8 ⟨rfl, hb⟩
              refine ⟨_, rfl, ?_⟩
              have S8 := Aside0.mk (S6.out.drew.below hb)
              have X8 := Aside0.mk (El.below (El.drew X6.out) hb)
              clear hb
              refine hK.out _ _ ?_
              clear hK K
              refine norm_ (a' := ?_) ?_ ?_
              rotate_left
              · show Act.put _ (some 34) _ = _
                simp only [Act.put, List.setIfInBounds_toArray, List.set_cons_zero, List.set_cons_succ, i64_w, i32_w]
                rfl
              refine pure_ (i := 10) (N := some 35) (v := ?_) (a' := ?_) #[true, true, true, true, true, true, true, true, true, true, true] rfl rfl (any_of HT_.out (by kernel_rfl)) (fun _ _ _ h => h) (Or.inl ⟨by rfl, ?_⟩) ?_ ?_
              rotate_left
              · intro w'
                go_simp
                with_reducible rfl
              rotate_left
              · simp only [Act.put, List.setIfInBounds_toArray, List.set_cons_zero, List.set_cons_succ, i64_w, i32_w]
                rfl
              refine done_ (done_of HT_.out (by kernel_rfl)) ?_
              clear HT_ HW_ A6
              go_upto_region 11 with (first
                | (go_at_call 38; (with_reducible refine (en_store g5 _ _ (ad.add (x.toNat * 6)) _ ((blk_cell S8.out.b5 0).trans rfl) (blk_frozen S8.out.b5 0) X8.out.c0).mono ?_); rintro _ w9 ⟨rfl, hw_⟩; have h1_ := S8.out.setLo (ad.add (x.toNat * 6)); have h2_ := X8.out.far (q := ⟨g5, 0, none⟩) (by have h1 := HXB.out; have h2 := S8.out.n5; rw [add_blk]; show ad.block ≠ g5; omega) (.pointer (some (ad.add (x.toNat * 6)))); rw [hw_] at h1_ h2_; have S9 := Aside0.mk h1_; have X9 := Aside0.mk h2_; clear hw_ h1_ h2_)
                | (go_at_call 37; (with_reducible refine (en_load g6 (some (eA (some ad) b)) _ ((blk_cell S9.out.b6 0).trans rfl) (fun _ h_ => by cases h_; exact HHB.out.below HBB.out S9.out.bl)).mono ?_); rintro _ _ ⟨rfl, rfl⟩))
              have B9 := Aside0.mk (HB.out.below S9.out.bl)
              refine start_ (n := 11) (S := fun w' => El w' (ad.add (x.toNat * 6)) y ∧ El w' (eA (some ad) b) (rd_T23 l (b : Int))) (ds := [9]) #[false, false, false, false, false, false, false, false, false, false, false] (by kernel_rfl) rfl rfl (⟨X9.out, B9.out⟩) (fun hHeld => ?_); refine with_tabW ens.tab11 ens.bits11 (fun HT_ HW_ => ?_)
              refine pure_ (i := 0) (N := some 39) (v := ?_) (a' := ?_) #[true, false, false, false, false, false, false, false, false, false, false] rfl rfl (any_of HT_.out (by kernel_rfl)) (fun _ _ _ h => h) (Or.inl ⟨by rfl, ?_⟩) ?_ ?_
              rotate_left
              · intro w'
                go_simp
                with_reducible rfl
              rotate_left
              · simp only [Act.put, List.setIfInBounds_toArray, List.set_cons_zero, List.set_cons_succ, i64_w, i32_w]
                rfl
              refine pure_ (i := 1) (N := some 40) (v := ?_) (a' := ?_) #[true, true, false, false, false, false, false, false, false, false, false] rfl rfl (any_of HT_.out (by kernel_rfl)) (fun _ _ _ h => h) (Or.inl ⟨by rfl, ?_⟩) ?_ ?_
              rotate_left
              · intro w'
                go_simp
                with_reducible rfl
              rotate_left
              · simp only [Act.put, List.setIfInBounds_toArray, List.set_cons_zero, List.set_cons_succ, i64_w, i32_w]
                rfl
              refine pure_ (i := 2) (N := some 41) (v := ?_) (a' := ?_) #[true, true, true, false, false, false, false, false, false, false, false] rfl rfl (any_of HT_.out (by kernel_rfl)) (fun _ _ _ h => h) (Or.inl ⟨by rfl, ?_⟩) ?_ ?_
              rotate_left
              · intro w'
                go_simp
                with_reducible rfl
              rotate_left
              · simp only [Act.put, List.setIfInBounds_toArray, List.set_cons_zero, List.set_cons_succ, i64_w, i32_w]
                rfl
              refine pure_ (i := 3) (N := some 42) (v := ?_) (a' := ?_) #[true, true, true, true, false, false, false, false, false, false, false] rfl rfl (any_of HT_.out (by kernel_rfl)) (fun _ _ _ h => h) (Or.inl ⟨by rfl, ?_⟩) ?_ ?_
              rotate_left
              · intro w'
                go_simp
                with_reducible rfl
              rotate_left
              · simp only [Act.put, List.setIfInBounds_toArray, List.set_cons_zero, List.set_cons_succ, i64_w, i32_w]
                rfl
              refine pure_ (i := 4) (N := some 43) (v := ?_) (a' := ?_) #[true, true, true, true, true, false, false, false, false, false, false] rfl rfl (any_of HT_.out (by kernel_rfl)) (fun _ _ _ h => h) (Or.inl ⟨by rfl, ?_⟩) ?_ ?_
              rotate_left
              · intro w'
                go_simp
                with_reducible rfl
              rotate_left
              · simp only [Act.put, List.setIfInBounds_toArray, List.set_cons_zero, List.set_cons_succ, i64_w, i32_w]
                rfl
              refine pure_ (i := 6) (N := some 45) (v := ?_) (a' := ?_) #[true, true, true, true, true, false, true, false, false, false, false] rfl rfl (any_of HT_.out (by kernel_rfl)) (fun _ _ _ h => h) (Or.inl ⟨by rfl, ?_⟩) ?_ ?_
              rotate_left
              · intro w'
                go_simp
                with_reducible rfl
              rotate_left
              · simp only [Act.put, List.setIfInBounds_toArray, List.set_cons_zero, List.set_cons_succ, i64_w, i32_w]
                rfl
              refine pure_ (i := 7) (N := some 46) (v := ?_) (a' := ?_) #[true, true, true, true, true, false, true, true, false, false, false] rfl rfl (any_of HT_.out (by kernel_rfl)) (fun _ _ _ h => h) (Or.inl ⟨by rfl, ?_⟩) ?_ ?_
              rotate_left
              · intro w'
                go_simp
                with_reducible rfl
              rotate_left
              · simp only [Act.put, List.setIfInBounds_toArray, List.set_cons_zero, List.set_cons_succ, i64_w, i32_w]
                rfl
              refine take_ (i := 5) (N := some 44) (v := ?_) (a' := ?_) #[true, true, true, true, true, true, true, true, false, false, false] rfl rfl (take_ofW HT_.out HW_.out (by kernel_rfl)) (fun _ _ _ h => h) (Or.inl ⟨by rfl, ?_⟩) hHeld ?_ ?_
              rotate_left
              · intro w' s0
                obtain ⟨⟨u0, u1, u2, u3, u4, u5⟩, v0, v1, v2, v3, v4, v5⟩ := s0
                go_simp
                with_reducible rfl
              rotate_left
              · simp only [Act.put, List.setIfInBounds_toArray, List.set_cons_zero, List.set_cons_succ, i64_w, i32_w]
                rfl
              refine take_ (i := 8) (N := some 47) (v := ?_) (a' := ?_) #[true, true, true, true, true, true, true, true, true, false, false] rfl rfl (take_ofW HT_.out HW_.out (by kernel_rfl)) (fun _ _ _ h => h) (Or.inl ⟨by rfl, ?_⟩) hHeld ?_ ?_
              rotate_left
              · intro w' s0
                obtain ⟨⟨u0, u1, u2, u3, u4, u5⟩, v0, v1, v2, v3, v4, v5⟩ := s0
                go_simp
                with_reducible rfl
              rotate_left
              · simp only [Act.put, List.setIfInBounds_toArray, List.set_cons_zero, List.set_cons_succ, i64_w, i32_w]
                rfl
              refine last_ (i := 9) (N := some 48) #[true, true, true, true, true, true, true, true, true, true, false] rfl rfl (one_of HT_.out (by kernel_rfl)) (by decide) (fun K hK => ?_)
              refine goes_ Try.func14 (by kernel_rfl) rfl #[.agg #[.bool (rd_T23 l (b : Int)).f0, .int .i64 (rd_T23 l (b : Int)).f1, .int .i64 (rd_T23 l (b : Int)).f2, .int .i64 (rd_T23 l (b : Int)).f3, .int .i64 (rd_T23 l (b : Int)).f4, .int .i64 (rd_T23 l (b : Int)).f5], .agg #[.bool y.f0, .int .i64 y.f1, .int .i64 y.f2, .int .i64 y.f3, .int .i64 y.f4, .int .i64 y.f5]] (by rfl) rfl rfl (by simp only [List.map_toArray, List.map_cons, List.map_nil]; rfl) ?_
              with_reducible refine (less_b (rd_T23 l (b : Int)) y false _ C2.out).mono ?_
              rintro e w11 ⟨rfl, hb⟩
              refine ⟨_, rfl, ?_⟩
              have S11 := Aside0.mk (S9.out.drew.below hb)
              have X11 := Aside0.mk (El.below (El.drew X9.out) hb)
              clear hb
              refine hK.out _ _ ?_
              clear hK K
              refine norm_ (a' := ?_) ?_ ?_
              rotate_left
              · show Act.put _ (some 48) _ = _
                simp only [Act.put, List.setIfInBounds_toArray, List.set_cons_zero, List.set_cons_succ, i64_w, i32_w]
                rfl
              refine pure_ (i := 10) (N := some 49) (v := ?_) (a' := ?_) #[true, true, true, true, true, true, true, true, true, true, true] rfl rfl (any_of HT_.out (by kernel_rfl)) (fun _ _ _ h => h) (Or.inl ⟨by rfl, ?_⟩) ?_ ?_
              rotate_left
              · intro w'
                go_simp
                with_reducible rfl
              rotate_left
              · simp only [Act.put, List.setIfInBounds_toArray, List.set_cons_zero, List.set_cons_succ, i64_w, i32_w]
                rfl
              refine done_ (done_of HT_.out (by kernel_rfl)) ?_
              clear HT_ HW_ B9
              go_wp2
              go_roundg k1
              case measure => have := HI.out; omega
              case rel => exact ⟨x + 1, by first | rfl | simp [hw], ⟨by have := H0.out; omega⟩, ⟨by have := HI.out; omega⟩, ⟨by
                rw [show (x + 1).toNat = x.toNat + 1 by have := H0.out; omega, show eGo l (x.toNat + 1) = some (x.toNat, b) from by show eStep l x.toNat (eGo l x.toNat) = _; unfold eStep; rw [HE.out, ← HY.out, HK.out]; show some (if lessS y (rd_T23 l (a : Int)) = true then x.toNat else a, if lessS (rd_T23 l (b : Int)) y = true then x.toNat else b) = _; rw [C1.out, C2.out]; rfl]
                exact S11.out⟩⟩
          | false =>
            have C1 := Aside0.mk hc1
            clear hc1
            cases hc2 : lessS (rd_T23 l (b : Int)) y with
            | true =>
              have C2 := Aside0.mk hc2
              clear hc2
              go_upto_region 8 with (first
                | (go_at_call 31; (with_reducible refine (known_b y true _ HK.out).mono ?_); rintro _ w6 ⟨rfl, hb⟩; have S6 := Aside0.mk (SS.out.below hb); have X6 := Aside0.mk (HXr.out.below hb); clear hb)
                | (go_at_call 37; (with_reducible refine (en_load g5 (some (eA (some ad) a)) _ ((blk_cell S6.out.b5 0).trans rfl) (fun _ h_ => by cases h_; exact HHA.out.below HAB.out S6.out.bl)).mono ?_); rintro _ _ ⟨rfl, rfl⟩))
              have A6 := Aside0.mk (HA.out.below S6.out.bl)
              refine start_ (n := 11) (S := fun w' => El w' (ad.add (x.toNat * 6)) y ∧ El w' (eA (some ad) a) (rd_T23 l (a : Int))) (ds := [9]) #[false, false, false, false, false, false, false, false, false, false, false] (by kernel_rfl) rfl rfl (⟨X6.out, A6.out⟩) (fun hHeld => ?_); refine with_tabW ens.tab8 ens.bits8 (fun HT_ HW_ => ?_)
              refine pure_ (i := 0) (N := some 25) (v := ?_) (a' := ?_) #[true, false, false, false, false, false, false, false, false, false, false] rfl rfl (any_of HT_.out (by kernel_rfl)) (fun _ _ _ h => h) (Or.inl ⟨by rfl, ?_⟩) ?_ ?_
              rotate_left
              · intro w'
                go_simp
                with_reducible rfl
              rotate_left
              · simp only [Act.put, List.setIfInBounds_toArray, List.set_cons_zero, List.set_cons_succ, i64_w, i32_w]
                rfl
              refine pure_ (i := 1) (N := some 26) (v := ?_) (a' := ?_) #[true, true, false, false, false, false, false, false, false, false, false] rfl rfl (any_of HT_.out (by kernel_rfl)) (fun _ _ _ h => h) (Or.inl ⟨by rfl, ?_⟩) ?_ ?_
              rotate_left
              · intro w'
                go_simp
                with_reducible rfl
              rotate_left
              · simp only [Act.put, List.setIfInBounds_toArray, List.set_cons_zero, List.set_cons_succ, i64_w, i32_w]
                rfl
              refine pure_ (i := 2) (N := some 27) (v := ?_) (a' := ?_) #[true, true, true, false, false, false, false, false, false, false, false] rfl rfl (any_of HT_.out (by kernel_rfl)) (fun _ _ _ h => h) (Or.inl ⟨by rfl, ?_⟩) ?_ ?_
              rotate_left
              · intro w'
                go_simp
                with_reducible rfl
              rotate_left
              · simp only [Act.put, List.setIfInBounds_toArray, List.set_cons_zero, List.set_cons_succ, i64_w, i32_w]
                rfl
              refine pure_ (i := 3) (N := some 28) (v := ?_) (a' := ?_) #[true, true, true, true, false, false, false, false, false, false, false] rfl rfl (any_of HT_.out (by kernel_rfl)) (fun _ _ _ h => h) (Or.inl ⟨by rfl, ?_⟩) ?_ ?_
              rotate_left
              · intro w'
                go_simp
                with_reducible rfl
              rotate_left
              · simp only [Act.put, List.setIfInBounds_toArray, List.set_cons_zero, List.set_cons_succ, i64_w, i32_w]
                rfl
              refine pure_ (i := 4) (N := some 29) (v := ?_) (a' := ?_) #[true, true, true, true, true, false, false, false, false, false, false] rfl rfl (any_of HT_.out (by kernel_rfl)) (fun _ _ _ h => h) (Or.inl ⟨by rfl, ?_⟩) ?_ ?_
              rotate_left
              · intro w'
                go_simp
                with_reducible rfl
              rotate_left
              · simp only [Act.put, List.setIfInBounds_toArray, List.set_cons_zero, List.set_cons_succ, i64_w, i32_w]
                rfl
              refine pure_ (i := 6) (N := some 31) (v := ?_) (a' := ?_) #[true, true, true, true, true, false, true, false, false, false, false] rfl rfl (any_of HT_.out (by kernel_rfl)) (fun _ _ _ h => h) (Or.inl ⟨by rfl, ?_⟩) ?_ ?_
              rotate_left
              · intro w'
                go_simp
                with_reducible rfl
              rotate_left
              · simp only [Act.put, List.setIfInBounds_toArray, List.set_cons_zero, List.set_cons_succ, i64_w, i32_w]
                rfl
              refine pure_ (i := 7) (N := some 32) (v := ?_) (a' := ?_) #[true, true, true, true, true, false, true, true, false, false, false] rfl rfl (any_of HT_.out (by kernel_rfl)) (fun _ _ _ h => h) (Or.inl ⟨by rfl, ?_⟩) ?_ ?_
              rotate_left
              · intro w'
                go_simp
                with_reducible rfl
              rotate_left
              · simp only [Act.put, List.setIfInBounds_toArray, List.set_cons_zero, List.set_cons_succ, i64_w, i32_w]
                rfl
              refine take_ (i := 5) (N := some 30) (v := ?_) (a' := ?_) #[true, true, true, true, true, true, true, true, false, false, false] rfl rfl (take_ofW HT_.out HW_.out (by kernel_rfl)) (fun _ _ _ h => h) (Or.inl ⟨by rfl, ?_⟩) hHeld ?_ ?_
              rotate_left
              · intro w' s0
                obtain ⟨⟨u0, u1, u2, u3, u4, u5⟩, v0, v1, v2, v3, v4, v5⟩ := s0
                go_simp
                with_reducible rfl
              rotate_left
              · simp only [Act.put, List.setIfInBounds_toArray, List.set_cons_zero, List.set_cons_succ, i64_w, i32_w]
                rfl
              refine take_ (i := 8) (N := some 33) (v := ?_) (a' := ?_) #[true, true, true, true, true, true, true, true, true, false, false] rfl rfl (take_ofW HT_.out HW_.out (by kernel_rfl)) (fun _ _ _ h => h) (Or.inl ⟨by rfl, ?_⟩) hHeld ?_ ?_
              rotate_left
              · intro w' s0
                obtain ⟨⟨u0, u1, u2, u3, u4, u5⟩, v0, v1, v2, v3, v4, v5⟩ := s0
                go_simp
                with_reducible rfl
              rotate_left
              · simp only [Act.put, List.setIfInBounds_toArray, List.set_cons_zero, List.set_cons_succ, i64_w, i32_w]
                rfl
              refine last_ (i := 9) (N := some 34) #[true, true, true, true, true, true, true, true, true, true, false] rfl rfl (one_of HT_.out (by kernel_rfl)) (by decide) (fun K hK => ?_)
              refine goes_ Try.func14 (by kernel_rfl) rfl #[.agg #[.bool y.f0, .int .i64 y.f1, .int .i64 y.f2, .int .i64 y.f3, .int .i64 y.f4, .int .i64 y.f5], .agg #[.bool (rd_T23 l (a : Int)).f0, .int .i64 (rd_T23 l (a : Int)).f1, .int .i64 (rd_T23 l (a : Int)).f2, .int .i64 (rd_T23 l (a : Int)).f3, .int .i64 (rd_T23 l (a : Int)).f4, .int .i64 (rd_T23 l (a : Int)).f5]] (by rfl) rfl rfl (by simp only [List.map_toArray, List.map_cons, List.map_nil]; rfl) ?_
              with_reducible refine (less_b y (rd_T23 l (a : Int)) false _ C1.out).mono ?_
              rintro e w8 ⟨rfl, hb⟩
              refine ⟨_, rfl, ?_⟩
              have S8 := Aside0.mk (S6.out.drew.below hb)
              have X8 := Aside0.mk (El.below (El.drew X6.out) hb)
              clear hb
              refine hK.out _ _ ?_
              clear hK K
              refine norm_ (a' := ?_) ?_ ?_
              rotate_left
              · show Act.put _ (some 34) _ = _
                simp only [Act.put, List.setIfInBounds_toArray, List.set_cons_zero, List.set_cons_succ, i64_w, i32_w]
                rfl
              refine pure_ (i := 10) (N := some 35) (v := ?_) (a' := ?_) #[true, true, true, true, true, true, true, true, true, true, true] rfl rfl (any_of HT_.out (by kernel_rfl)) (fun _ _ _ h => h) (Or.inl ⟨by rfl, ?_⟩) ?_ ?_
              rotate_left
              · intro w'
                go_simp
                with_reducible rfl
              rotate_left
              · simp only [Act.put, List.setIfInBounds_toArray, List.set_cons_zero, List.set_cons_succ, i64_w, i32_w]
                rfl
              refine done_ (done_of HT_.out (by kernel_rfl)) ?_
              clear HT_ HW_ A6
              go_upto_region 11 with (go_at_call 37; (with_reducible refine (en_load g6 (some (eA (some ad) b)) _ ((blk_cell S8.out.b6 0).trans rfl) (fun _ h_ => by cases h_; exact HHB.out.below HBB.out S8.out.bl)).mono ?_); rintro _ _ ⟨rfl, rfl⟩)
              have B9 := Aside0.mk (HB.out.below S8.out.bl)
              refine start_ (n := 11) (S := fun w' => El w' (ad.add (x.toNat * 6)) y ∧ El w' (eA (some ad) b) (rd_T23 l (b : Int))) (ds := [9]) #[false, false, false, false, false, false, false, false, false, false, false] (by kernel_rfl) rfl rfl (⟨X8.out, B9.out⟩) (fun hHeld => ?_); refine with_tabW ens.tab11 ens.bits11 (fun HT_ HW_ => ?_)
              refine pure_ (i := 0) (N := some 39) (v := ?_) (a' := ?_) #[true, false, false, false, false, false, false, false, false, false, false] rfl rfl (any_of HT_.out (by kernel_rfl)) (fun _ _ _ h => h) (Or.inl ⟨by rfl, ?_⟩) ?_ ?_
              rotate_left
              · intro w'
                go_simp
                with_reducible rfl
              rotate_left
              · simp only [Act.put, List.setIfInBounds_toArray, List.set_cons_zero, List.set_cons_succ, i64_w, i32_w]
                rfl
              refine pure_ (i := 1) (N := some 40) (v := ?_) (a' := ?_) #[true, true, false, false, false, false, false, false, false, false, false] rfl rfl (any_of HT_.out (by kernel_rfl)) (fun _ _ _ h => h) (Or.inl ⟨by rfl, ?_⟩) ?_ ?_
              rotate_left
              · intro w'
                go_simp
                with_reducible rfl
              rotate_left
              · simp only [Act.put, List.setIfInBounds_toArray, List.set_cons_zero, List.set_cons_succ, i64_w, i32_w]
                rfl
              refine pure_ (i := 2) (N := some 41) (v := ?_) (a' := ?_) #[true, true, true, false, false, false, false, false, false, false, false] rfl rfl (any_of HT_.out (by kernel_rfl)) (fun _ _ _ h => h) (Or.inl ⟨by rfl, ?_⟩) ?_ ?_
              rotate_left
              · intro w'
                go_simp
                with_reducible rfl
              rotate_left
              · simp only [Act.put, List.setIfInBounds_toArray, List.set_cons_zero, List.set_cons_succ, i64_w, i32_w]
                rfl
              refine pure_ (i := 3) (N := some 42) (v := ?_) (a' := ?_) #[true, true, true, true, false, false, false, false, false, false, false] rfl rfl (any_of HT_.out (by kernel_rfl)) (fun _ _ _ h => h) (Or.inl ⟨by rfl, ?_⟩) ?_ ?_
              rotate_left
              · intro w'
                go_simp
                with_reducible rfl
              rotate_left
              · simp only [Act.put, List.setIfInBounds_toArray, List.set_cons_zero, List.set_cons_succ, i64_w, i32_w]
                rfl
              refine pure_ (i := 4) (N := some 43) (v := ?_) (a' := ?_) #[true, true, true, true, true, false, false, false, false, false, false] rfl rfl (any_of HT_.out (by kernel_rfl)) (fun _ _ _ h => h) (Or.inl ⟨by rfl, ?_⟩) ?_ ?_
              rotate_left
              · intro w'
                go_simp
                with_reducible rfl
              rotate_left
              · simp only [Act.put, List.setIfInBounds_toArray, List.set_cons_zero, List.set_cons_succ, i64_w, i32_w]
                rfl
              refine pure_ (i := 6) (N := some 45) (v := ?_) (a' := ?_) #[true, true, true, true, true, false, true, false, false, false, false] rfl rfl (any_of HT_.out (by kernel_rfl)) (fun _ _ _ h => h) (Or.inl ⟨by rfl, ?_⟩) ?_ ?_
              rotate_left
              · intro w'
                go_simp
                with_reducible rfl
              rotate_left
              · simp only [Act.put, List.setIfInBounds_toArray, List.set_cons_zero, List.set_cons_succ, i64_w, i32_w]
                rfl
              refine pure_ (i := 7) (N := some 46) (v := ?_) (a' := ?_) #[true, true, true, true, true, false, true, true, false, false, false] rfl rfl (any_of HT_.out (by kernel_rfl)) (fun _ _ _ h => h) (Or.inl ⟨by rfl, ?_⟩) ?_ ?_
              rotate_left
              · intro w'
                go_simp
                with_reducible rfl
              rotate_left
              · simp only [Act.put, List.setIfInBounds_toArray, List.set_cons_zero, List.set_cons_succ, i64_w, i32_w]
                rfl
              refine take_ (i := 5) (N := some 44) (v := ?_) (a' := ?_) #[true, true, true, true, true, true, true, true, false, false, false] rfl rfl (take_ofW HT_.out HW_.out (by kernel_rfl)) (fun _ _ _ h => h) (Or.inl ⟨by rfl, ?_⟩) hHeld ?_ ?_
              rotate_left
              · intro w' s0
                obtain ⟨⟨u0, u1, u2, u3, u4, u5⟩, v0, v1, v2, v3, v4, v5⟩ := s0
                go_simp
                with_reducible rfl
              rotate_left
              · simp only [Act.put, List.setIfInBounds_toArray, List.set_cons_zero, List.set_cons_succ, i64_w, i32_w]
                rfl
              refine take_ (i := 8) (N := some 47) (v := ?_) (a' := ?_) #[true, true, true, true, true, true, true, true, true, false, false] rfl rfl (take_ofW HT_.out HW_.out (by kernel_rfl)) (fun _ _ _ h => h) (Or.inl ⟨by rfl, ?_⟩) hHeld ?_ ?_
              rotate_left
              · intro w' s0
                obtain ⟨⟨u0, u1, u2, u3, u4, u5⟩, v0, v1, v2, v3, v4, v5⟩ := s0
                go_simp
                with_reducible rfl
              rotate_left
              · simp only [Act.put, List.setIfInBounds_toArray, List.set_cons_zero, List.set_cons_succ, i64_w, i32_w]
                rfl
              refine last_ (i := 9) (N := some 48) #[true, true, true, true, true, true, true, true, true, true, false] rfl rfl (one_of HT_.out (by kernel_rfl)) (by decide) (fun K hK => ?_)
              refine goes_ Try.func14 (by kernel_rfl) rfl #[.agg #[.bool (rd_T23 l (b : Int)).f0, .int .i64 (rd_T23 l (b : Int)).f1, .int .i64 (rd_T23 l (b : Int)).f2, .int .i64 (rd_T23 l (b : Int)).f3, .int .i64 (rd_T23 l (b : Int)).f4, .int .i64 (rd_T23 l (b : Int)).f5], .agg #[.bool y.f0, .int .i64 y.f1, .int .i64 y.f2, .int .i64 y.f3, .int .i64 y.f4, .int .i64 y.f5]] (by rfl) rfl rfl (by simp only [List.map_toArray, List.map_cons, List.map_nil]; rfl) ?_
              with_reducible refine (less_b (rd_T23 l (b : Int)) y true _ C2.out).mono ?_
              rintro e w11 ⟨rfl, hb⟩
              refine ⟨_, rfl, ?_⟩
              have S11 := Aside0.mk (S8.out.drew.below hb)
              have X11 := Aside0.mk (El.below (El.drew X8.out) hb)
              clear hb
              refine hK.out _ _ ?_
              clear hK K
              refine norm_ (a' := ?_) ?_ ?_
              rotate_left
              · show Act.put _ (some 48) _ = _
                simp only [Act.put, List.setIfInBounds_toArray, List.set_cons_zero, List.set_cons_succ, i64_w, i32_w]
                rfl
              refine pure_ (i := 10) (N := some 49) (v := ?_) (a' := ?_) #[true, true, true, true, true, true, true, true, true, true, true] rfl rfl (any_of HT_.out (by kernel_rfl)) (fun _ _ _ h => h) (Or.inl ⟨by rfl, ?_⟩) ?_ ?_
              rotate_left
              · intro w'
                go_simp
                with_reducible rfl
              rotate_left
              · simp only [Act.put, List.setIfInBounds_toArray, List.set_cons_zero, List.set_cons_succ, i64_w, i32_w]
                rfl
              refine done_ (done_of HT_.out (by kernel_rfl)) ?_
              clear HT_ HW_ B9
              go_wp2_with (go_at_call 38; (with_reducible refine (en_store g6 _ _ (ad.add (x.toNat * 6)) _ ((blk_cell S11.out.b6 0).trans rfl) (blk_frozen S11.out.b6 0) X11.out.c0).mono ?_); rintro _ w12 ⟨rfl, hw_⟩; have h1_ := S11.out.setHi (ad.add (x.toNat * 6)); have h2_ := X11.out.far (q := ⟨g6, 0, none⟩) (by have h1 := HXB.out; have h2 := S11.out.n6; rw [add_blk]; show ad.block ≠ g6; omega) (.pointer (some (ad.add (x.toNat * 6)))); rw [hw_] at h1_ h2_; have S12 := Aside0.mk h1_; have X12 := Aside0.mk h2_; clear hw_ h1_ h2_)
              go_roundg k1
              case measure => have := HI.out; omega
              case rel => exact ⟨x + 1, by first | rfl | simp [hw], ⟨by have := H0.out; omega⟩, ⟨by have := HI.out; omega⟩, ⟨by
                rw [show (x + 1).toNat = x.toNat + 1 by have := H0.out; omega, show eGo l (x.toNat + 1) = some (a, x.toNat) from by show eStep l x.toNat (eGo l x.toNat) = _; unfold eStep; rw [HE.out, ← HY.out, HK.out]; show some (if lessS y (rd_T23 l (a : Int)) = true then x.toNat else a, if lessS (rd_T23 l (b : Int)) y = true then x.toNat else b) = _; rw [C1.out, C2.out]; rfl]
                exact S12.out⟩⟩
            | false =>
              have C2 := Aside0.mk hc2
              clear hc2
              go_upto_region 8 with (first
                | (go_at_call 31; (with_reducible refine (known_b y true _ HK.out).mono ?_); rintro _ w6 ⟨rfl, hb⟩; have S6 := Aside0.mk (SS.out.below hb); have X6 := Aside0.mk (HXr.out.below hb); clear hb)
                | (go_at_call 37; (with_reducible refine (en_load g5 (some (eA (some ad) a)) _ ((blk_cell S6.out.b5 0).trans rfl) (fun _ h_ => by cases h_; exact HHA.out.below HAB.out S6.out.bl)).mono ?_); rintro _ _ ⟨rfl, rfl⟩))
              have A6 := Aside0.mk (HA.out.below S6.out.bl)
              refine start_ (n := 11) (S := fun w' => El w' (ad.add (x.toNat * 6)) y ∧ El w' (eA (some ad) a) (rd_T23 l (a : Int))) (ds := [9]) #[false, false, false, false, false, false, false, false, false, false, false] (by kernel_rfl) rfl rfl (⟨X6.out, A6.out⟩) (fun hHeld => ?_); refine with_tabW ens.tab8 ens.bits8 (fun HT_ HW_ => ?_)
              refine pure_ (i := 0) (N := some 25) (v := ?_) (a' := ?_) #[true, false, false, false, false, false, false, false, false, false, false] rfl rfl (any_of HT_.out (by kernel_rfl)) (fun _ _ _ h => h) (Or.inl ⟨by rfl, ?_⟩) ?_ ?_
              rotate_left
              · intro w'
                go_simp
                with_reducible rfl
              rotate_left
              · simp only [Act.put, List.setIfInBounds_toArray, List.set_cons_zero, List.set_cons_succ, i64_w, i32_w]
                rfl
              refine pure_ (i := 1) (N := some 26) (v := ?_) (a' := ?_) #[true, true, false, false, false, false, false, false, false, false, false] rfl rfl (any_of HT_.out (by kernel_rfl)) (fun _ _ _ h => h) (Or.inl ⟨by rfl, ?_⟩) ?_ ?_
              rotate_left
              · intro w'
                go_simp
                with_reducible rfl
              rotate_left
              · simp only [Act.put, List.setIfInBounds_toArray, List.set_cons_zero, List.set_cons_succ, i64_w, i32_w]
                rfl
              refine pure_ (i := 2) (N := some 27) (v := ?_) (a' := ?_) #[true, true, true, false, false, false, false, false, false, false, false] rfl rfl (any_of HT_.out (by kernel_rfl)) (fun _ _ _ h => h) (Or.inl ⟨by rfl, ?_⟩) ?_ ?_
              rotate_left
              · intro w'
                go_simp
                with_reducible rfl
              rotate_left
              · simp only [Act.put, List.setIfInBounds_toArray, List.set_cons_zero, List.set_cons_succ, i64_w, i32_w]
                rfl
              refine pure_ (i := 3) (N := some 28) (v := ?_) (a' := ?_) #[true, true, true, true, false, false, false, false, false, false, false] rfl rfl (any_of HT_.out (by kernel_rfl)) (fun _ _ _ h => h) (Or.inl ⟨by rfl, ?_⟩) ?_ ?_
              rotate_left
              · intro w'
                go_simp
                with_reducible rfl
              rotate_left
              · simp only [Act.put, List.setIfInBounds_toArray, List.set_cons_zero, List.set_cons_succ, i64_w, i32_w]
                rfl
              refine pure_ (i := 4) (N := some 29) (v := ?_) (a' := ?_) #[true, true, true, true, true, false, false, false, false, false, false] rfl rfl (any_of HT_.out (by kernel_rfl)) (fun _ _ _ h => h) (Or.inl ⟨by rfl, ?_⟩) ?_ ?_
              rotate_left
              · intro w'
                go_simp
                with_reducible rfl
              rotate_left
              · simp only [Act.put, List.setIfInBounds_toArray, List.set_cons_zero, List.set_cons_succ, i64_w, i32_w]
                rfl
              refine pure_ (i := 6) (N := some 31) (v := ?_) (a' := ?_) #[true, true, true, true, true, false, true, false, false, false, false] rfl rfl (any_of HT_.out (by kernel_rfl)) (fun _ _ _ h => h) (Or.inl ⟨by rfl, ?_⟩) ?_ ?_
              rotate_left
              · intro w'
                go_simp
                with_reducible rfl
              rotate_left
              · simp only [Act.put, List.setIfInBounds_toArray, List.set_cons_zero, List.set_cons_succ, i64_w, i32_w]
                rfl
              refine pure_ (i := 7) (N := some 32) (v := ?_) (a' := ?_) #[true, true, true, true, true, false, true, true, false, false, false] rfl rfl (any_of HT_.out (by kernel_rfl)) (fun _ _ _ h => h) (Or.inl ⟨by rfl, ?_⟩) ?_ ?_
              rotate_left
              · intro w'
                go_simp
                with_reducible rfl
              rotate_left
              · simp only [Act.put, List.setIfInBounds_toArray, List.set_cons_zero, List.set_cons_succ, i64_w, i32_w]
                rfl
              refine take_ (i := 5) (N := some 30) (v := ?_) (a' := ?_) #[true, true, true, true, true, true, true, true, false, false, false] rfl rfl (take_ofW HT_.out HW_.out (by kernel_rfl)) (fun _ _ _ h => h) (Or.inl ⟨by rfl, ?_⟩) hHeld ?_ ?_
              rotate_left
              · intro w' s0
                obtain ⟨⟨u0, u1, u2, u3, u4, u5⟩, v0, v1, v2, v3, v4, v5⟩ := s0
                go_simp
                with_reducible rfl
              rotate_left
              · simp only [Act.put, List.setIfInBounds_toArray, List.set_cons_zero, List.set_cons_succ, i64_w, i32_w]
                rfl
              refine take_ (i := 8) (N := some 33) (v := ?_) (a' := ?_) #[true, true, true, true, true, true, true, true, true, false, false] rfl rfl (take_ofW HT_.out HW_.out (by kernel_rfl)) (fun _ _ _ h => h) (Or.inl ⟨by rfl, ?_⟩) hHeld ?_ ?_
              rotate_left
              · intro w' s0
                obtain ⟨⟨u0, u1, u2, u3, u4, u5⟩, v0, v1, v2, v3, v4, v5⟩ := s0
                go_simp
                with_reducible rfl
              rotate_left
              · simp only [Act.put, List.setIfInBounds_toArray, List.set_cons_zero, List.set_cons_succ, i64_w, i32_w]
                rfl
              refine last_ (i := 9) (N := some 34) #[true, true, true, true, true, true, true, true, true, true, false] rfl rfl (one_of HT_.out (by kernel_rfl)) (by decide) (fun K hK => ?_)
              refine goes_ Try.func14 (by kernel_rfl) rfl #[.agg #[.bool y.f0, .int .i64 y.f1, .int .i64 y.f2, .int .i64 y.f3, .int .i64 y.f4, .int .i64 y.f5], .agg #[.bool (rd_T23 l (a : Int)).f0, .int .i64 (rd_T23 l (a : Int)).f1, .int .i64 (rd_T23 l (a : Int)).f2, .int .i64 (rd_T23 l (a : Int)).f3, .int .i64 (rd_T23 l (a : Int)).f4, .int .i64 (rd_T23 l (a : Int)).f5]] (by rfl) rfl rfl (by simp only [List.map_toArray, List.map_cons, List.map_nil]; rfl) ?_
              with_reducible refine (less_b y (rd_T23 l (a : Int)) false _ C1.out).mono ?_
              rintro e w8 ⟨rfl, hb⟩
              refine ⟨_, rfl, ?_⟩
              have S8 := Aside0.mk (S6.out.drew.below hb)
              have X8 := Aside0.mk (El.below (El.drew X6.out) hb)
              clear hb
              refine hK.out _ _ ?_
              clear hK K
              refine norm_ (a' := ?_) ?_ ?_
              rotate_left
              · show Act.put _ (some 34) _ = _
                simp only [Act.put, List.setIfInBounds_toArray, List.set_cons_zero, List.set_cons_succ, i64_w, i32_w]
                rfl
              refine pure_ (i := 10) (N := some 35) (v := ?_) (a' := ?_) #[true, true, true, true, true, true, true, true, true, true, true] rfl rfl (any_of HT_.out (by kernel_rfl)) (fun _ _ _ h => h) (Or.inl ⟨by rfl, ?_⟩) ?_ ?_
              rotate_left
              · intro w'
                go_simp
                with_reducible rfl
              rotate_left
              · simp only [Act.put, List.setIfInBounds_toArray, List.set_cons_zero, List.set_cons_succ, i64_w, i32_w]
                rfl
              refine done_ (done_of HT_.out (by kernel_rfl)) ?_
              clear HT_ HW_ A6
              go_upto_region 11 with (go_at_call 37; (with_reducible refine (en_load g6 (some (eA (some ad) b)) _ ((blk_cell S8.out.b6 0).trans rfl) (fun _ h_ => by cases h_; exact HHB.out.below HBB.out S8.out.bl)).mono ?_); rintro _ _ ⟨rfl, rfl⟩)
              have B9 := Aside0.mk (HB.out.below S8.out.bl)
              refine start_ (n := 11) (S := fun w' => El w' (ad.add (x.toNat * 6)) y ∧ El w' (eA (some ad) b) (rd_T23 l (b : Int))) (ds := [9]) #[false, false, false, false, false, false, false, false, false, false, false] (by kernel_rfl) rfl rfl (⟨X8.out, B9.out⟩) (fun hHeld => ?_); refine with_tabW ens.tab11 ens.bits11 (fun HT_ HW_ => ?_)
              refine pure_ (i := 0) (N := some 39) (v := ?_) (a' := ?_) #[true, false, false, false, false, false, false, false, false, false, false] rfl rfl (any_of HT_.out (by kernel_rfl)) (fun _ _ _ h => h) (Or.inl ⟨by rfl, ?_⟩) ?_ ?_
              rotate_left
              · intro w'
                go_simp
                with_reducible rfl
              rotate_left
              · simp only [Act.put, List.setIfInBounds_toArray, List.set_cons_zero, List.set_cons_succ, i64_w, i32_w]
                rfl
              refine pure_ (i := 1) (N := some 40) (v := ?_) (a' := ?_) #[true, true, false, false, false, false, false, false, false, false, false] rfl rfl (any_of HT_.out (by kernel_rfl)) (fun _ _ _ h => h) (Or.inl ⟨by rfl, ?_⟩) ?_ ?_
              rotate_left
              · intro w'
                go_simp
                with_reducible rfl
              rotate_left
              · simp only [Act.put, List.setIfInBounds_toArray, List.set_cons_zero, List.set_cons_succ, i64_w, i32_w]
                rfl
              refine pure_ (i := 2) (N := some 41) (v := ?_) (a' := ?_) #[true, true, true, false, false, false, false, false, false, false, false] rfl rfl (any_of HT_.out (by kernel_rfl)) (fun _ _ _ h => h) (Or.inl ⟨by rfl, ?_⟩) ?_ ?_
              rotate_left
              · intro w'
                go_simp
                with_reducible rfl
              rotate_left
              · simp only [Act.put, List.setIfInBounds_toArray, List.set_cons_zero, List.set_cons_succ, i64_w, i32_w]
                rfl
              refine pure_ (i := 3) (N := some 42) (v := ?_) (a' := ?_) #[true, true, true, true, false, false, false, false, false, false, false] rfl rfl (any_of HT_.out (by kernel_rfl)) (fun _ _ _ h => h) (Or.inl ⟨by rfl, ?_⟩) ?_ ?_
              rotate_left
              · intro w'
                go_simp
                with_reducible rfl
              rotate_left
              · simp only [Act.put, List.setIfInBounds_toArray, List.set_cons_zero, List.set_cons_succ, i64_w, i32_w]
                rfl
              refine pure_ (i := 4) (N := some 43) (v := ?_) (a' := ?_) #[true, true, true, true, true, false, false, false, false, false, false] rfl rfl (any_of HT_.out (by kernel_rfl)) (fun _ _ _ h => h) (Or.inl ⟨by rfl, ?_⟩) ?_ ?_
              rotate_left
              · intro w'
                go_simp
                with_reducible rfl
              rotate_left
              · simp only [Act.put, List.setIfInBounds_toArray, List.set_cons_zero, List.set_cons_succ, i64_w, i32_w]
                rfl
              refine pure_ (i := 6) (N := some 45) (v := ?_) (a' := ?_) #[true, true, true, true, true, false, true, false, false, false, false] rfl rfl (any_of HT_.out (by kernel_rfl)) (fun _ _ _ h => h) (Or.inl ⟨by rfl, ?_⟩) ?_ ?_
              rotate_left
              · intro w'
                go_simp
                with_reducible rfl
              rotate_left
              · simp only [Act.put, List.setIfInBounds_toArray, List.set_cons_zero, List.set_cons_succ, i64_w, i32_w]
                rfl
              refine pure_ (i := 7) (N := some 46) (v := ?_) (a' := ?_) #[true, true, true, true, true, false, true, true, false, false, false] rfl rfl (any_of HT_.out (by kernel_rfl)) (fun _ _ _ h => h) (Or.inl ⟨by rfl, ?_⟩) ?_ ?_
              rotate_left
              · intro w'
                go_simp
                with_reducible rfl
              rotate_left
              · simp only [Act.put, List.setIfInBounds_toArray, List.set_cons_zero, List.set_cons_succ, i64_w, i32_w]
                rfl
              refine take_ (i := 5) (N := some 44) (v := ?_) (a' := ?_) #[true, true, true, true, true, true, true, true, false, false, false] rfl rfl (take_ofW HT_.out HW_.out (by kernel_rfl)) (fun _ _ _ h => h) (Or.inl ⟨by rfl, ?_⟩) hHeld ?_ ?_
              rotate_left
              · intro w' s0
                obtain ⟨⟨u0, u1, u2, u3, u4, u5⟩, v0, v1, v2, v3, v4, v5⟩ := s0
                go_simp
                with_reducible rfl
              rotate_left
              · simp only [Act.put, List.setIfInBounds_toArray, List.set_cons_zero, List.set_cons_succ, i64_w, i32_w]
                rfl
              refine take_ (i := 8) (N := some 47) (v := ?_) (a' := ?_) #[true, true, true, true, true, true, true, true, true, false, false] rfl rfl (take_ofW HT_.out HW_.out (by kernel_rfl)) (fun _ _ _ h => h) (Or.inl ⟨by rfl, ?_⟩) hHeld ?_ ?_
              rotate_left
              · intro w' s0
                obtain ⟨⟨u0, u1, u2, u3, u4, u5⟩, v0, v1, v2, v3, v4, v5⟩ := s0
                go_simp
                with_reducible rfl
              rotate_left
              · simp only [Act.put, List.setIfInBounds_toArray, List.set_cons_zero, List.set_cons_succ, i64_w, i32_w]
                rfl
              refine last_ (i := 9) (N := some 48) #[true, true, true, true, true, true, true, true, true, true, false] rfl rfl (one_of HT_.out (by kernel_rfl)) (by decide) (fun K hK => ?_)
              refine goes_ Try.func14 (by kernel_rfl) rfl #[.agg #[.bool (rd_T23 l (b : Int)).f0, .int .i64 (rd_T23 l (b : Int)).f1, .int .i64 (rd_T23 l (b : Int)).f2, .int .i64 (rd_T23 l (b : Int)).f3, .int .i64 (rd_T23 l (b : Int)).f4, .int .i64 (rd_T23 l (b : Int)).f5], .agg #[.bool y.f0, .int .i64 y.f1, .int .i64 y.f2, .int .i64 y.f3, .int .i64 y.f4, .int .i64 y.f5]] (by rfl) rfl rfl (by simp only [List.map_toArray, List.map_cons, List.map_nil]; rfl) ?_
              with_reducible refine (less_b (rd_T23 l (b : Int)) y false _ C2.out).mono ?_
              rintro e w11 ⟨rfl, hb⟩
              refine ⟨_, rfl, ?_⟩
              have S11 := Aside0.mk (S8.out.drew.below hb)
              have X11 := Aside0.mk (El.below (El.drew X8.out) hb)
              clear hb
              refine hK.out _ _ ?_
              clear hK K
              refine norm_ (a' := ?_) ?_ ?_
              rotate_left
              · show Act.put _ (some 48) _ = _
                simp only [Act.put, List.setIfInBounds_toArray, List.set_cons_zero, List.set_cons_succ, i64_w, i32_w]
                rfl
              refine pure_ (i := 10) (N := some 49) (v := ?_) (a' := ?_) #[true, true, true, true, true, true, true, true, true, true, true] rfl rfl (any_of HT_.out (by kernel_rfl)) (fun _ _ _ h => h) (Or.inl ⟨by rfl, ?_⟩) ?_ ?_
              rotate_left
              · intro w'
                go_simp
                with_reducible rfl
              rotate_left
              · simp only [Act.put, List.setIfInBounds_toArray, List.set_cons_zero, List.set_cons_succ, i64_w, i32_w]
                rfl
              refine done_ (done_of HT_.out (by kernel_rfl)) ?_
              clear HT_ HW_ B9
              go_wp2
              go_roundg k1
              case measure => have := HI.out; omega
              case rel => exact ⟨x + 1, by first | rfl | simp [hw], ⟨by have := H0.out; omega⟩, ⟨by have := HI.out; omega⟩, ⟨by
                rw [show (x + 1).toNat = x.toNat + 1 by have := H0.out; omega, show eGo l (x.toNat + 1) = some (a, b) from by show eStep l x.toNat (eGo l x.toNat) = _; unfold eStep; rw [HE.out, ← HY.out, HK.out]; show some (if lessS y (rd_T23 l (a : Int)) = true then x.toNat else a, if lessS (rd_T23 l (b : Int)) y = true then x.toNat else b) = _; rw [C1.out, C2.out]; rfl]
                exact S11.out⟩⟩
end Go.Proofs.Ytjeahmlahkngaaa.P
