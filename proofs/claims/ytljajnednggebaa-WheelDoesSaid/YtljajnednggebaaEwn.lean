/- Layer 11: the document's wheel: Set. -/
import Derived.Test.YtljajnednggebaaEwq
namespace Go.Proofs.Ytljajnednggebaa.P
set_option linter.unusedSimpArgs false
set_option linter.unusedVariables false
open Go.RowKit Go.Maps Go.Proofs.YtljajnednggebaaW.PrintWords Go.Proofs.YtljajnednggebaaW.PrintLast Go.Proofs.YtljajnednggebaaW.PrintMore
theorem putL_all {T : S35} : ∀ (X : List S35), (∀ o ∈ X, tlt o T) → putL X T = X ++ [T] := by
  intro X
  induction X with
  | nil => intro _; rfl
  | cons o r ih =>
    intro h
    simp only [putL]
    rw [if_pos (h o (List.mem_cons_self ..)), ih (fun p hp => h p (List.mem_cons_of_mem _ hp))]
    rfl
theorem putL_first {T : S35} {o' : S35} (ho : ¬ tlt o' T) : ∀ (X : List S35), (∀ o ∈ X, tlt o T) → putL (X ++ [o']) T = (X ++ [T]) ++ [o'] := by
  intro X
  induction X with
  | nil => intro _; simp only [List.nil_append, putL]; rw [if_neg ho]; rfl
  | cons o r ih =>
    intro h
    simp only [List.cons_append, putL]
    rw [if_pos (h o (List.mem_cons_self ..)), ih (fun p hp => h p (List.mem_cons_of_mem _ hp))]
theorem putL_in {T : S35} {o' : S35} : ∀ (X : List S35), (∃ o ∈ X, ¬ tlt o T) → putL (X ++ [o']) T = putL X T ++ [o'] := by
  intro X
  induction X with
  | nil => intro h; obtain ⟨o, ho, _⟩ := h; cases ho
  | cons o r ih =>
    intro h
    simp only [List.cons_append, putL]
    by_cases h1 : tlt o T
    · rw [if_pos h1, if_pos h1, ih (by
        obtain ⟨p, hp, hn⟩ := h
        rcases List.mem_cons.1 hp with rfl | hp
        · exact absurd h1 hn
        · exact ⟨p, hp, hn⟩)]
      rfl
    · rw [if_neg h1, if_neg h1]
      rfl
/-- what the loop holds: X is what was laid of Y, b whether T was -/
def Lay (T : S35) (Y : List S35) (b : Bool) (X : List S35) : Prop := if b then (∃ o ∈ Y, ¬ tlt o T) ∧ X = putL Y T else (∀ o ∈ Y, tlt o T) ∧ X = Y
section
variable {T o : S35} {Y X : List S35}
theorem Lay.done (h : Lay T Y true X) : Lay T (Y ++ [o]) true (X ++ [o]) := by
  obtain ⟨h1, rfl⟩ : (∃ o ∈ Y, ¬ tlt o T) ∧ X = putL Y T := h
  refine (⟨?_, (putL_in Y h1).symm⟩ : (∃ p ∈ Y ++ [o], ¬ tlt p T) ∧ putL Y T ++ [o] = putL (Y ++ [o]) T)
  obtain ⟨p, hp, hn⟩ := h1
  exact ⟨p, List.mem_append_left _ hp, hn⟩
theorem Lay.here (h : Lay T Y false X) (ho : ¬ tlt o T) : Lay T (Y ++ [o]) true ((X ++ [T]) ++ [o]) := by
  obtain ⟨h1, rfl⟩ : (∀ o ∈ Y, tlt o T) ∧ X = Y := h
  exact (⟨⟨o, List.mem_append_right _ (List.mem_cons_self ..), ho⟩, (putL_first ho X h1).symm⟩ : (∃ p ∈ X ++ [o], ¬ tlt p T) ∧ (X ++ [T]) ++ [o] = putL (X ++ [o]) T)
theorem Lay.on (h : Lay T Y false X) (ho : tlt o T) : Lay T (Y ++ [o]) false (X ++ [o]) := by
  obtain ⟨h1, rfl⟩ : (∀ o ∈ Y, tlt o T) ∧ X = Y := h
  refine (⟨fun p hp => ?_, rfl⟩ : (∀ p ∈ X ++ [o], tlt p T) ∧ X ++ [o] = X ++ [o])
  rcases List.mem_append.1 hp with hp | hp
  · exact h1 p hp
  · rw [List.mem_singleton.1 hp]; exact ho
theorem Lay.len {b : Bool} (h : Lay T Y b X) : X.length ≤ Y.length + 1 := by
  cases b with
  | true =>
    obtain ⟨_, rfl⟩ : (∃ o ∈ Y, ¬ tlt o T) ∧ X = putL Y T := h
    rw [putL_length]
    omega
  | false =>
    obtain ⟨_, rfl⟩ : (∀ o ∈ Y, tlt o T) ∧ X = Y := h
    omega
theorem Lay.end_ (h : Lay T Y true X) : X = putL Y T := (show (∃ o ∈ Y, ¬ tlt o T) ∧ X = putL Y T from h).2
theorem Lay.last (h : Lay T Y false X) : X ++ [T] = putL Y T := by
  obtain ⟨h1, rfl⟩ : (∀ o ∈ Y, tlt o T) ∧ X = Y := h
  exact (putL_all X h1).symm
end
def Rd (w w' : World) (x : Nat) (G : Nat → Prop) (L : List S35) : Prop := KB w w' x ∧ ∃ G', Xw w' x G' L ∧ ∀ k, G' k → G k ∨ w.heap.size ≤ k
theorem Rn.rd {w w' : World} {x : Nat} {G : Nat → Prop} {L : List S35} (h : Rn w w' x L) : Rd w w' x G L := by
  obtain ⟨h1, G', h2, h3⟩ := h
  exact ⟨h1, G', h2, fun k hk => .inr (h3 k hk)⟩
theorem Rn.trans {w w1 w2 : World} {x : Nat} {L1 L2 : List S35} (h : Rn w w1 x L1) (k : Rn w1 w2 x L2) : Rn w w2 x L2 := by
  obtain ⟨h1, _⟩ := h
  obtain ⟨k1, G', k2, k3⟩ := k
  exact ⟨h1.trans k1, G', k2, fun j hj => Nat.le_trans h1.1.1 (k3 j hj)⟩
set_option maxHeartbeats 8000000 in
set_option maxRecDepth 100000 in
theorem rSet_bad {w : World} (x : Nat) (key t : Int) (h : t < 0 ∨ (¬ t < 0 ∧ t > 1000000000000) ∨ (¬ t < 0 ∧ ¬ t > 1000000000000 ∧ key < 0)) :
    Calls Try.prog 16 #[.pointer (some ⟨x, 0, none⟩), .int .i64 key, .int .i64 t] w fun e w' => e = .returned (.int .i64 1) ∧ w = w' := by
  rcases h with h1 | ⟨h1, h2⟩ | ⟨h1, h2, h3⟩
  · have q1 : decide (t < 0) = true := decide_eq_true h1
    clear h1
    go_enter Try.func16, Try.ntmps16
    go_wp2
    go_ret
    exact ⟨rfl, rfl⟩
  · have q1 : decide (t < 0) = false := decide_eq_false h1
    have q2 : decide (t > 1000000000000) = true := decide_eq_true h2
    clear h1 h2
    go_enter Try.func16, Try.ntmps16
    go_wp2
    go_ret
    exact ⟨rfl, rfl⟩
  · have q1 : decide (t < 0) = false := decide_eq_false h1
    have q2 : decide (t > 1000000000000) = false := decide_eq_false h2
    have q3 : decide (key < 0) = true := decide_eq_true h3
    clear h1 h2 h3
    go_enter Try.func16, Try.ntmps16
    go_wp2
    go_ret
    exact ⟨rfl, rfl⟩
set_option maxHeartbeats 8000000 in
set_option maxRecDepth 100000 in
theorem rSet_full {w : World} {x : Nat} {G : Nat → Prop} {L : List S35} (h : Xw w x G L) (hl : L.length ≤ 1024) (key t : Int) (h1 : ¬ t < 0) (h2 : ¬ t > 1000000000000) (h3 : ¬ key < 0) (hn : tm L key = none) (hf : L.length ≥ 1024) :
    Calls Try.prog 16 #[.pointer (some ⟨x, 0, none⟩), .int .i64 key, .int .i64 t] w fun e w' => e = .returned (.int .i64 8) ∧ w = w' := by
  have q1 : decide (t < 0) = false := decide_eq_false h1
  have q2 : decide (t > 1000000000000) = false := decide_eq_false h2
  have q3 : decide (key < 0) = false := decide_eq_false h3
  have hnot : ∀ (x : Bool) (w : World), (Op.unary .not (.bool x)).run Try.prog w = .ok (.bool (!x)) w := fun _ _ => rfl
  have HXW := Aside0.mk h
  have HL := Aside0.mk hl
  have HSB := Aside0.mk (show (tm L key).isSome = false by rw [hn]; rfl)
  obtain ⟨A, c, hb, _, _, _⟩ := h
  have hx : w.cell? ⟨x, 0, none⟩ = some (.slice A L.length c) := (blk_cell hb 0).trans rfl
  have q4 : decide ((L.length : Int) ≥ 1024) = true := decide_eq_true (by omega)
  clear h1 h2 h3 hn hf hl hb
  go_enter Try.func16, Try.ntmps16
  go_wp2_with (go_at_call 27; (with_reducible refine (rset_w HXW.out HL.out key).mono ?_); rintro x_ w_ ⟨he, rfl⟩; rw [HSB.out] at he; subst he)
  go_ret
  exact ⟨rfl, rfl⟩
set_option maxHeartbeats 8000000 in
set_option maxRecDepth 100000 in
theorem rSet_go {w : World} {x : Nat} {G : Nat → Prop} {L : List S35} (h : Xw w x G L) (hl : L.length ≤ 1024) (key t : Int) (h1 : ¬ t < 0) (h2 : ¬ t > 1000000000000) (h3 : ¬ key < 0) (b0 : Bool) (hs : (tm L key).isSome = b0) (hf : b0 = false → L.length < 1024) :
    Calls Try.prog 16 #[.pointer (some ⟨x, 0, none⟩), .int .i64 key, .int .i64 t] w fun e w' => e = .returned (.int .i64 0) ∧ Rn w w' x (setL L key t) := by
  have q1 : decide (t < 0) = false := decide_eq_false h1
  have q2 : decide (t > 1000000000000) = false := decide_eq_false h2
  have q3 : decide (key < 0) = false := decide_eq_false h3
  have hnot : ∀ (x : Bool) (w : World), (Op.unary .not (.bool x)).run Try.prog w = .ok (.bool (!x)) w := fun _ _ => rfl
  have HXW := Aside0.mk h
  have HL := Aside0.mk hl
  have HSB := Aside0.mk hs
  obtain ⟨A, c, hb, _, _, _⟩ := h
  have hx : w.cell? ⟨x, 0, none⟩ = some (.slice A L.length c) := (blk_cell hb 0).trans rfl
  obtain ⟨M, hM⟩ : ∃ M, M = dropL L key := ⟨_, rfl⟩
  have HM := Aside0.mk hM
  have HLM := Aside0.mk (show M.length ≤ 1024 by rw [hM]; have := dropL_len L key; omega)
  have HKM := Aside0.mk (show ∀ o ∈ M, o.f1 ≠ key by rw [hM]; exact fun o ho => (mem_dropL.1 ho).2)
  have hq4 : b0 = false → decide ((L.length : Int) ≥ 1024) = false := fun e => decide_eq_false (by have := hf e; omega)
  clear h1 h2 h3 hs hf hl hb hM
  cases b0 with
  | true =>
    go_enter Try.func16, Try.ntmps16
    go_wp2_with (first
    | (go_at_call 27; (with_reducible refine (rset_w HXW.out HL.out key).mono ?_); rintro x_ w_ ⟨he, rfl⟩; rw [HSB.out] at he; subst he)
    | (go_at_call 28; (with_reducible refine (rstop_w HXW.out HL.out key).mono ?_); rintro x_ w1 ⟨he, hn⟩; rw [HSB.out] at he; subst he; have R1 := Aside0.mk hn; clear hn))
    have R2 := Aside0.mk (HM.out ▸ R1.out)
    clear hx hq4
    obtain ⟨_, G1, ⟨A1, c1, hb1, _, hF1, _⟩, _⟩ := R2.out
    have HF1 := Aside0.mk hF1
    have HX1 := Aside0.mk hb1
    have hx1 : w1.cell? ⟨x, 0, none⟩ = some (.slice A1 M.length c1) := (blk_cell hb1 0).trans rfl
    clear hF1 hb1
    go_loopg [7, 8, 9, 10] M.length (fun kq v7' v8 v9 v10 wq => ∃ (y : Int) (b : Bool) (v7 : Value) (X : List S35), v9 = .int .i64 y ∧ v8 = .bool b ∧ v7 = v7' ∧ Aside0 (0 ≤ y) ∧ Aside0 (y + kq = M.length) ∧ Aside0 (Lay ⟨t, key⟩ (M.take y.toNat) b X) ∧ Aside0 (Below w1.heap.size w1 wq) ∧ Aside0 (k35.R 35 wq w1.heap.size (fun _ => True) v7 X))
    case atStart => exact ⟨0, false, _, [], rfl, rfl, rfl, ⟨by omega⟩, ⟨by omega⟩, ⟨⟨fun o ho => by simp at ho, rfl⟩⟩, ⟨Below.refl _ _⟩, ⟨Kd.R_nil _ _ _ _ _⟩⟩
    case round =>
    clear hx1
    obtain ⟨y, b, v7, X, rfl, rfl, rfl, G0, GI, HLY, HBB, HRR⟩ := hrel
    have HLA := Aside0.mk (show X.length ≤ 1025 by have := HLY.out.len; rw [List.length_take] at this; have := HLM.out; omega)
    have HXR := Aside0.mk ((HBB.out.block x (blk_lt HX1.out)).trans HX1.out)
    have hx : wr.cell? ⟨x, 0, none⟩ = some (.slice A1 M.length c1) := (blk_cell HXR.out 0).trans rfl
    have hxf := blk_frozen HXR.out 0
    cases gk with
    | zero =>
      have hm : decide (y < (M.length : Int)) = false := decide_eq_false (by have := GI.out; omega)
      have hy : y.toNat = M.length := by have := GI.out; have := G0.out; omega
      have hly := HLY.out
      rw [hy, List.take_length] at hly
      have HLZ := Aside0.mk hly
      clear hly hy
      cases b with
      | true =>
        obtain ⟨A9, m9, c9, rfl⟩ := R_some HRR.out
        go_wp2
        go_ret
        have hr := HRR.out
        rw [HLZ.out.end_] at hr
        exact ⟨rfl, R2.out.trans (by unfold setL; rw [← HM.out]; exact Rn.mk HBB.out HX1.out hr)⟩
      | false =>
        go_wp2_with (first
        | ((with_reducible refine gate_dst (N := 88) rfl ?_); refine lit1_event ?hg (N := 88) ?hd (cs := #[.int .i64 t, .int .i64 key]) (t := 35) (n := 1) ?hr ?_; (case hd => rfl); (case hg => rfl); (case hr => first | (go_simp; done) | (go_simp; rfl)); intro glc hg w5c hbox hb; have HB5c := Aside0.mk (below_step HBB.out hb); have HR5c := Aside0.mk (Kd.R_below HRR.out hb); have BLc := Aside0.mk hbox; clear hb hbox hg)
        | ((with_reducible refine gate_builtin (b := .append) (xs := #[.tmp 84, .tmp 88]) rfl ?_); at_builtin; refine Kd.R_append_rows k35 (w0 := w1) w1.heap.size rfl (.tmp 84) (.tmp 88) 30 35 (.agg #[(.int .i64 0), (.int .i64 0)]) 16 rfl Try.underlying30 info35 rfl (by decide) (by omega) v7 X [⟨t, key⟩] _ _ _ (fun _ => True) (fun _ => False) rfl rfl ?aO ?aR (fun _ _ h => h) (fun _ h => h.elim) ?aF ?aB ?aS ?aL ?_; (case aR => exact oneE_C (x := ⟨t, key⟩) BLc.out); (case aB => exact HB5c.out); (case aF => exact fun _ _ => trivial); (case aO => exact HR5c.out); (case aS => exact below_size HB5c.out); (case aL => have := HLA.out; (try simp only [List.length_append, List.length_cons, List.length_nil]); omega); intro v3' w8 ho hb hg hat; obtain ⟨A9, m9, c9, rfl⟩ := R_some ho; have HR8 := Aside0.mk ho; have HB8 := Aside0.mk hb; have HX8 := Aside0.mk ((hb.block x (blk_lt HX1.out)).trans HX1.out); have hx8 : w8.cell? ⟨x, 0, none⟩ = some (.slice A1 M.length c1) := (blk_cell HX8.out 0).trans rfl; have hxf8 := blk_frozen HX8.out 0; clear ho hb hg hat))
        go_ret
        have hr := HR8.out
        rw [HLZ.out.last] at hr
        exact ⟨rfl, R2.out.trans (by unfold setL; rw [← HM.out]; exact Rn.mk HB8.out HX1.out hr)⟩
    | succ k1 =>
      have hlt := (show y < (M.length : Int) by have := GI.out; omega)
      have h0 := G0.out
      have hd : decide (y < (M.length : Int)) = true := decide_eq_true hlt
      have hw : wrap64 (y + 1) = y + 1 := w64 (by omega) (by have := HLM.out; omega)
      obtain ⟨ad, e_, y0, y1⟩ := at_T35 (Kd.F_now (Kd.F_below HF1.out HBB.out)) y h0 hlt
      cases e_
      have h0t := eq_true h0
      have hltt := eq_true hlt
      have hkm : (rd_T35 M y).f1 ≠ key := HKM.out _ (by rw [rd35_at h0 hlt]; exact List.getElem_mem _)
      cases b with
      | true =>
        have HNX := Aside0.mk (HLY.out.done (o := rd_T35 M y))
        clear hkm
        go_wp2_with (first
          | ((with_reducible refine gate_dst (N := 10) rfl ?_); refine box_event ?hg (N := 10) ?hd (cs := #[.int .i64 0, .int .i64 0]) (t := 35) ?hr ?_; (case hd => rfl); (case hg => rfl); (case hr => first | (go_simp; done) | (go_simp; rfl)); intro gt hg w3 hbox hb; have HB3 := Aside0.mk (below_step HBB.out (show Below wr.heap.size wr ((w3.setCell ⟨gt, 0, none⟩ (.int .i64 (rd_T35 M y).f0)).setCell ⟨gt, 1, none⟩ (.int .i64 (rd_T35 M y).f1)) from below_set (below_set hb (Nat.le_of_eq hg.symm)) (Nat.le_of_eq hg.symm))); have HR3 := Aside0.mk (Kd.R_below HRR.out (show Below wr.heap.size wr ((w3.setCell ⟨gt, 0, none⟩ (.int .i64 (rd_T35 M y).f0)).setCell ⟨gt, 1, none⟩ (.int .i64 (rd_T35 M y).f1)) from below_set (below_set hb (Nat.le_of_eq hg.symm)) (Nat.le_of_eq hg.symm))); have BT3 := Aside0.mk (blk_put (blk_put hbox 0 (.int .i64 (rd_T35 M y).f0) (cs' := #[.int .i64 (rd_T35 M y).f0, .int .i64 0]) rfl) 1 (.int .i64 (rd_T35 M y).f1) (cs' := #[.int .i64 (rd_T35 M y).f0, .int .i64 (rd_T35 M y).f1]) rfl); have NG := Aside0.mk (show some gt ≠ v7.ownBlock by rw [hg]; exact Kd.R_ne_new (w := wr) HRR.out 0); have a0 := (blk_cell hbox 0).trans rfl; have a1 := (blk_cell hbox 1).trans rfl; have af0 := blk_frozen hbox 0; have af1 := blk_frozen hbox 1; have b0 := (blk_cell BT3.out 0).trans rfl; have b1 := (blk_cell BT3.out 1).trans rfl; clear hb hbox hg)
          | ((with_reducible refine gate_dst (N := 80) rfl ?_); refine lit1_event ?hg (N := 80) ?hd (cs := #[.int .i64 (rd_T35 M y).f0, .int .i64 (rd_T35 M y).f1]) (t := 35) (n := 1) ?hr ?_; (case hd => rfl); (case hg => rfl); (case hr => first | (go_simp; done) | (go_simp; rfl)); intro glb hg w5b hbox hb; have HB5b := Aside0.mk (below_step HB3.out hb); have HR5b := Aside0.mk (Kd.R_below HR3.out hb); have BLb := Aside0.mk hbox; clear hb hbox hg)
          | ((with_reducible refine gate_builtin (b := .append) (xs := #[.tmp 78, .tmp 80]) rfl ?_); at_builtin; refine Kd.R_append_rows k35 (w0 := w1) w1.heap.size rfl (.tmp 78) (.tmp 80) 30 35 (.agg #[(.int .i64 0), (.int .i64 0)]) 16 rfl Try.underlying30 info35 rfl (by decide) (by omega) v7 X [(rd_T35 M y)] _ _ _ (fun _ => True) (fun _ => False) rfl rfl ?aO ?aR (fun _ _ h => h) (fun _ h => h.elim) ?aF ?aB ?aS ?aL ?_; (case aR => exact oneE_C (x := (rd_T35 M y)) BLb.out); (case aB => exact HB5b.out); (case aF => exact fun _ _ => trivial); (case aO => exact HR5b.out); (case aS => exact below_size HB5b.out); (case aL => have := HLA.out; (try simp only [List.length_append, List.length_cons, List.length_nil]); omega); intro v3 w8 ho hb hg hat; have HR8 := Aside0.mk ho; have HB8 := Aside0.mk hb; clear ho hb hg hat))
        go_roundg k1
        case measure => have := GI.out; omega
        case rel => exact ⟨y + 1, true, _, _, by first | rfl | simp [hw], rfl, rfl, ⟨by omega⟩, ⟨by have := GI.out; omega⟩, ⟨by rw [show (y + 1).toNat = y.toNat + 1 by omega, take_snoc h0 hlt]; exact HNX.out⟩, HB8, HR8⟩
      | false =>
        by_cases hgt : (rd_T35 M y).f0 > t
        · have r1 : decide ((rd_T35 M y).f0 > t) = true := decide_eq_true hgt
          have HNX := Aside0.mk (HLY.out.here (o := rd_T35 M y) (by unfold tlt; simp only; omega))
          clear hgt hkm
          go_wp2_with (first
            | ((with_reducible refine gate_dst (N := 10) rfl ?_); refine box_event ?hg (N := 10) ?hd (cs := #[.int .i64 0, .int .i64 0]) (t := 35) ?hr ?_; (case hd => rfl); (case hg => rfl); (case hr => first | (go_simp; done) | (go_simp; rfl)); intro gt hg w3 hbox hb; have HB3 := Aside0.mk (below_step HBB.out (show Below wr.heap.size wr ((w3.setCell ⟨gt, 0, none⟩ (.int .i64 (rd_T35 M y).f0)).setCell ⟨gt, 1, none⟩ (.int .i64 (rd_T35 M y).f1)) from below_set (below_set hb (Nat.le_of_eq hg.symm)) (Nat.le_of_eq hg.symm))); have HR3 := Aside0.mk (Kd.R_below HRR.out (show Below wr.heap.size wr ((w3.setCell ⟨gt, 0, none⟩ (.int .i64 (rd_T35 M y).f0)).setCell ⟨gt, 1, none⟩ (.int .i64 (rd_T35 M y).f1)) from below_set (below_set hb (Nat.le_of_eq hg.symm)) (Nat.le_of_eq hg.symm))); have BT3 := Aside0.mk (blk_put (blk_put hbox 0 (.int .i64 (rd_T35 M y).f0) (cs' := #[.int .i64 (rd_T35 M y).f0, .int .i64 0]) rfl) 1 (.int .i64 (rd_T35 M y).f1) (cs' := #[.int .i64 (rd_T35 M y).f0, .int .i64 (rd_T35 M y).f1]) rfl); have NG := Aside0.mk (show some gt ≠ v7.ownBlock by rw [hg]; exact Kd.R_ne_new (w := wr) HRR.out 0); have a0 := (blk_cell hbox 0).trans rfl; have a1 := (blk_cell hbox 1).trans rfl; have af0 := blk_frozen hbox 0; have af1 := blk_frozen hbox 1; have b0 := (blk_cell BT3.out 0).trans rfl; have b1 := (blk_cell BT3.out 1).trans rfl; clear hb hbox hg)
            | ((with_reducible refine gate_dst (N := 76) rfl ?_); refine lit1_event ?hg (N := 76) ?hd (cs := #[.int .i64 t, .int .i64 key]) (t := 35) (n := 1) ?hr ?_; (case hd => rfl); (case hg => rfl); (case hr => first | (go_simp; done) | (go_simp; rfl)); intro gla hg w5a hbox hb; have HB5a := Aside0.mk (below_step HB3.out hb); have HR5a := Aside0.mk (Kd.R_below HR3.out hb); have BLa := Aside0.mk hbox; have BT5a := Aside0.mk (blk_below BT3.out hb); clear hb hbox hg)
            | ((with_reducible refine gate_builtin (b := .append) (xs := #[.tmp 72, .tmp 76]) rfl ?_); at_builtin; refine Kd.R_append_rows k35 (w0 := w1) w1.heap.size rfl (.tmp 72) (.tmp 76) 30 35 (.agg #[(.int .i64 0), (.int .i64 0)]) 16 rfl Try.underlying30 info35 rfl (by decide) (by omega) v7 X [⟨t, key⟩] _ _ _ (fun _ => True) (fun _ => False) rfl rfl ?aO ?aR (fun _ _ h => h) (fun _ h => h.elim) ?aF ?aB ?aS ?aL ?_; (case aR => exact oneE_C (x := ⟨t, key⟩) BLa.out); (case aB => exact HB5a.out); (case aF => exact fun _ _ => trivial); (case aO => exact HR5a.out); (case aS => exact below_size HB5a.out); (case aL => have := HLA.out; (try simp only [List.length_append, List.length_cons, List.length_nil]); omega); intro v2 w6 ho hb hg hat; have HR6 := Aside0.mk ho; have HB6 := Aside0.mk hb; have BT6 := Aside0.mk ((hg.block gt (blk_lt BT5a.out) NG.out).trans BT5a.out); have c0 := (blk_cell BT6.out 0).trans rfl; have c1 := (blk_cell BT6.out 1).trans rfl; clear ho hb hg hat)
            | ((with_reducible refine gate_dst (N := 80) rfl ?_); refine lit1_event ?hg (N := 80) ?hd (cs := #[.int .i64 (rd_T35 M y).f0, .int .i64 (rd_T35 M y).f1]) (t := 35) (n := 1) ?hr ?_; (case hd => rfl); (case hg => rfl); (case hr => first | (go_simp; done) | (go_simp; rfl)); intro glb hg w5b hbox hb; have HB5b := Aside0.mk (below_step HB6.out hb); have HR5b := Aside0.mk (Kd.R_below HR6.out hb); have BLb := Aside0.mk hbox; clear hb hbox hg)
            | ((with_reducible refine gate_builtin (b := .append) (xs := #[.tmp 78, .tmp 80]) rfl ?_); at_builtin; refine Kd.R_append_rows k35 (w0 := w1) w1.heap.size rfl (.tmp 78) (.tmp 80) 30 35 (.agg #[(.int .i64 0), (.int .i64 0)]) 16 rfl Try.underlying30 info35 rfl (by decide) (by omega) v2 (X ++ [⟨t, key⟩]) [(rd_T35 M y)] _ _ _ (fun _ => True) (fun _ => False) rfl rfl ?aO ?aR (fun _ _ h => h) (fun _ h => h.elim) ?aF ?aB ?aS ?aL ?_; (case aR => exact oneE_C (x := (rd_T35 M y)) BLb.out); (case aB => exact HB5b.out); (case aF => exact fun _ _ => trivial); (case aO => exact HR5b.out); (case aS => exact below_size HB5b.out); (case aL => have := HLA.out; (try simp only [List.length_append, List.length_cons, List.length_nil]); omega); intro v3 w8 ho hb hg hat; have HR8 := Aside0.mk ho; have HB8 := Aside0.mk hb; clear ho hb hg hat))
          go_roundg k1
          case measure => have := GI.out; omega
          case rel => exact ⟨y + 1, true, _, _, by first | rfl | simp [hw], rfl, rfl, ⟨by omega⟩, ⟨by have := GI.out; omega⟩, ⟨by rw [show (y + 1).toNat = y.toNat + 1 by omega, take_snoc h0 hlt]; exact HNX.out⟩, HB8, HR8⟩
        · have r1 : decide ((rd_T35 M y).f0 > t) = false := decide_eq_false hgt
          by_cases heq : (rd_T35 M y).f0 = t
          · have r2 : ((rd_T35 M y).f0 == t) = true := beq_iff_eq.mpr heq
            by_cases hk : (rd_T35 M y).f1 > key
            · have r3 : decide ((rd_T35 M y).f1 > key) = true := decide_eq_true hk
              have HNX := Aside0.mk (HLY.out.here (o := rd_T35 M y) (by unfold tlt; simp only; omega))
              clear hgt heq hk hkm
              go_wp2_with (first
                | ((with_reducible refine gate_dst (N := 10) rfl ?_); refine box_event ?hg (N := 10) ?hd (cs := #[.int .i64 0, .int .i64 0]) (t := 35) ?hr ?_; (case hd => rfl); (case hg => rfl); (case hr => first | (go_simp; done) | (go_simp; rfl)); intro gt hg w3 hbox hb; have HB3 := Aside0.mk (below_step HBB.out (show Below wr.heap.size wr ((w3.setCell ⟨gt, 0, none⟩ (.int .i64 (rd_T35 M y).f0)).setCell ⟨gt, 1, none⟩ (.int .i64 (rd_T35 M y).f1)) from below_set (below_set hb (Nat.le_of_eq hg.symm)) (Nat.le_of_eq hg.symm))); have HR3 := Aside0.mk (Kd.R_below HRR.out (show Below wr.heap.size wr ((w3.setCell ⟨gt, 0, none⟩ (.int .i64 (rd_T35 M y).f0)).setCell ⟨gt, 1, none⟩ (.int .i64 (rd_T35 M y).f1)) from below_set (below_set hb (Nat.le_of_eq hg.symm)) (Nat.le_of_eq hg.symm))); have BT3 := Aside0.mk (blk_put (blk_put hbox 0 (.int .i64 (rd_T35 M y).f0) (cs' := #[.int .i64 (rd_T35 M y).f0, .int .i64 0]) rfl) 1 (.int .i64 (rd_T35 M y).f1) (cs' := #[.int .i64 (rd_T35 M y).f0, .int .i64 (rd_T35 M y).f1]) rfl); have NG := Aside0.mk (show some gt ≠ v7.ownBlock by rw [hg]; exact Kd.R_ne_new (w := wr) HRR.out 0); have a0 := (blk_cell hbox 0).trans rfl; have a1 := (blk_cell hbox 1).trans rfl; have af0 := blk_frozen hbox 0; have af1 := blk_frozen hbox 1; have b0 := (blk_cell BT3.out 0).trans rfl; have b1 := (blk_cell BT3.out 1).trans rfl; clear hb hbox hg)
                | ((with_reducible refine gate_dst (N := 76) rfl ?_); refine lit1_event ?hg (N := 76) ?hd (cs := #[.int .i64 t, .int .i64 key]) (t := 35) (n := 1) ?hr ?_; (case hd => rfl); (case hg => rfl); (case hr => first | (go_simp; done) | (go_simp; rfl)); intro gla hg w5a hbox hb; have HB5a := Aside0.mk (below_step HB3.out hb); have HR5a := Aside0.mk (Kd.R_below HR3.out hb); have BLa := Aside0.mk hbox; have BT5a := Aside0.mk (blk_below BT3.out hb); clear hb hbox hg)
                | ((with_reducible refine gate_builtin (b := .append) (xs := #[.tmp 72, .tmp 76]) rfl ?_); at_builtin; refine Kd.R_append_rows k35 (w0 := w1) w1.heap.size rfl (.tmp 72) (.tmp 76) 30 35 (.agg #[(.int .i64 0), (.int .i64 0)]) 16 rfl Try.underlying30 info35 rfl (by decide) (by omega) v7 X [⟨t, key⟩] _ _ _ (fun _ => True) (fun _ => False) rfl rfl ?aO ?aR (fun _ _ h => h) (fun _ h => h.elim) ?aF ?aB ?aS ?aL ?_; (case aR => exact oneE_C (x := ⟨t, key⟩) BLa.out); (case aB => exact HB5a.out); (case aF => exact fun _ _ => trivial); (case aO => exact HR5a.out); (case aS => exact below_size HB5a.out); (case aL => have := HLA.out; (try simp only [List.length_append, List.length_cons, List.length_nil]); omega); intro v2 w6 ho hb hg hat; have HR6 := Aside0.mk ho; have HB6 := Aside0.mk hb; have BT6 := Aside0.mk ((hg.block gt (blk_lt BT5a.out) NG.out).trans BT5a.out); have c0 := (blk_cell BT6.out 0).trans rfl; have c1 := (blk_cell BT6.out 1).trans rfl; clear ho hb hg hat)
                | ((with_reducible refine gate_dst (N := 80) rfl ?_); refine lit1_event ?hg (N := 80) ?hd (cs := #[.int .i64 (rd_T35 M y).f0, .int .i64 (rd_T35 M y).f1]) (t := 35) (n := 1) ?hr ?_; (case hd => rfl); (case hg => rfl); (case hr => first | (go_simp; done) | (go_simp; rfl)); intro glb hg w5b hbox hb; have HB5b := Aside0.mk (below_step HB6.out hb); have HR5b := Aside0.mk (Kd.R_below HR6.out hb); have BLb := Aside0.mk hbox; clear hb hbox hg)
                | ((with_reducible refine gate_builtin (b := .append) (xs := #[.tmp 78, .tmp 80]) rfl ?_); at_builtin; refine Kd.R_append_rows k35 (w0 := w1) w1.heap.size rfl (.tmp 78) (.tmp 80) 30 35 (.agg #[(.int .i64 0), (.int .i64 0)]) 16 rfl Try.underlying30 info35 rfl (by decide) (by omega) v2 (X ++ [⟨t, key⟩]) [(rd_T35 M y)] _ _ _ (fun _ => True) (fun _ => False) rfl rfl ?aO ?aR (fun _ _ h => h) (fun _ h => h.elim) ?aF ?aB ?aS ?aL ?_; (case aR => exact oneE_C (x := (rd_T35 M y)) BLb.out); (case aB => exact HB5b.out); (case aF => exact fun _ _ => trivial); (case aO => exact HR5b.out); (case aS => exact below_size HB5b.out); (case aL => have := HLA.out; (try simp only [List.length_append, List.length_cons, List.length_nil]); omega); intro v3 w8 ho hb hg hat; have HR8 := Aside0.mk ho; have HB8 := Aside0.mk hb; clear ho hb hg hat))
              go_roundg k1
              case measure => have := GI.out; omega
              case rel => exact ⟨y + 1, true, _, _, by first | rfl | simp [hw], rfl, rfl, ⟨by omega⟩, ⟨by have := GI.out; omega⟩, ⟨by rw [show (y + 1).toNat = y.toNat + 1 by omega, take_snoc h0 hlt]; exact HNX.out⟩, HB8, HR8⟩
            · have r3 : decide ((rd_T35 M y).f1 > key) = false := decide_eq_false hk
              have HNX := Aside0.mk (HLY.out.on (o := rd_T35 M y) (by unfold tlt; simp only; omega))
              clear hgt heq hk hkm
              go_wp2_with (first
                | ((with_reducible refine gate_dst (N := 10) rfl ?_); refine box_event ?hg (N := 10) ?hd (cs := #[.int .i64 0, .int .i64 0]) (t := 35) ?hr ?_; (case hd => rfl); (case hg => rfl); (case hr => first | (go_simp; done) | (go_simp; rfl)); intro gt hg w3 hbox hb; have HB3 := Aside0.mk (below_step HBB.out (show Below wr.heap.size wr ((w3.setCell ⟨gt, 0, none⟩ (.int .i64 (rd_T35 M y).f0)).setCell ⟨gt, 1, none⟩ (.int .i64 (rd_T35 M y).f1)) from below_set (below_set hb (Nat.le_of_eq hg.symm)) (Nat.le_of_eq hg.symm))); have HR3 := Aside0.mk (Kd.R_below HRR.out (show Below wr.heap.size wr ((w3.setCell ⟨gt, 0, none⟩ (.int .i64 (rd_T35 M y).f0)).setCell ⟨gt, 1, none⟩ (.int .i64 (rd_T35 M y).f1)) from below_set (below_set hb (Nat.le_of_eq hg.symm)) (Nat.le_of_eq hg.symm))); have BT3 := Aside0.mk (blk_put (blk_put hbox 0 (.int .i64 (rd_T35 M y).f0) (cs' := #[.int .i64 (rd_T35 M y).f0, .int .i64 0]) rfl) 1 (.int .i64 (rd_T35 M y).f1) (cs' := #[.int .i64 (rd_T35 M y).f0, .int .i64 (rd_T35 M y).f1]) rfl); have NG := Aside0.mk (show some gt ≠ v7.ownBlock by rw [hg]; exact Kd.R_ne_new (w := wr) HRR.out 0); have a0 := (blk_cell hbox 0).trans rfl; have a1 := (blk_cell hbox 1).trans rfl; have af0 := blk_frozen hbox 0; have af1 := blk_frozen hbox 1; have b0 := (blk_cell BT3.out 0).trans rfl; have b1 := (blk_cell BT3.out 1).trans rfl; clear hb hbox hg)
                | ((with_reducible refine gate_dst (N := 80) rfl ?_); refine lit1_event ?hg (N := 80) ?hd (cs := #[.int .i64 (rd_T35 M y).f0, .int .i64 (rd_T35 M y).f1]) (t := 35) (n := 1) ?hr ?_; (case hd => rfl); (case hg => rfl); (case hr => first | (go_simp; done) | (go_simp; rfl)); intro glb hg w5b hbox hb; have HB5b := Aside0.mk (below_step HB3.out hb); have HR5b := Aside0.mk (Kd.R_below HR3.out hb); have BLb := Aside0.mk hbox; clear hb hbox hg)
                | ((with_reducible refine gate_builtin (b := .append) (xs := #[.tmp 78, .tmp 80]) rfl ?_); at_builtin; refine Kd.R_append_rows k35 (w0 := w1) w1.heap.size rfl (.tmp 78) (.tmp 80) 30 35 (.agg #[(.int .i64 0), (.int .i64 0)]) 16 rfl Try.underlying30 info35 rfl (by decide) (by omega) v7 X [(rd_T35 M y)] _ _ _ (fun _ => True) (fun _ => False) rfl rfl ?aO ?aR (fun _ _ h => h) (fun _ h => h.elim) ?aF ?aB ?aS ?aL ?_; (case aR => exact oneE_C (x := (rd_T35 M y)) BLb.out); (case aB => exact HB5b.out); (case aF => exact fun _ _ => trivial); (case aO => exact HR5b.out); (case aS => exact below_size HB5b.out); (case aL => have := HLA.out; (try simp only [List.length_append, List.length_cons, List.length_nil]); omega); intro v3 w8 ho hb hg hat; have HR8 := Aside0.mk ho; have HB8 := Aside0.mk hb; clear ho hb hg hat))
              go_roundg k1
              case measure => have := GI.out; omega
              case rel => exact ⟨y + 1, false, _, _, by first | rfl | simp [hw], rfl, rfl, ⟨by omega⟩, ⟨by have := GI.out; omega⟩, ⟨by rw [show (y + 1).toNat = y.toNat + 1 by omega, take_snoc h0 hlt]; exact HNX.out⟩, HB8, HR8⟩
          · have r2 : ((rd_T35 M y).f0 == t) = false := beq_eq_false_iff_ne.mpr heq
            have HNX := Aside0.mk (HLY.out.on (o := rd_T35 M y) (by unfold tlt; simp only; omega))
            clear hgt heq hkm
            go_wp2_with (first
              | ((with_reducible refine gate_dst (N := 10) rfl ?_); refine box_event ?hg (N := 10) ?hd (cs := #[.int .i64 0, .int .i64 0]) (t := 35) ?hr ?_; (case hd => rfl); (case hg => rfl); (case hr => first | (go_simp; done) | (go_simp; rfl)); intro gt hg w3 hbox hb; have HB3 := Aside0.mk (below_step HBB.out (show Below wr.heap.size wr ((w3.setCell ⟨gt, 0, none⟩ (.int .i64 (rd_T35 M y).f0)).setCell ⟨gt, 1, none⟩ (.int .i64 (rd_T35 M y).f1)) from below_set (below_set hb (Nat.le_of_eq hg.symm)) (Nat.le_of_eq hg.symm))); have HR3 := Aside0.mk (Kd.R_below HRR.out (show Below wr.heap.size wr ((w3.setCell ⟨gt, 0, none⟩ (.int .i64 (rd_T35 M y).f0)).setCell ⟨gt, 1, none⟩ (.int .i64 (rd_T35 M y).f1)) from below_set (below_set hb (Nat.le_of_eq hg.symm)) (Nat.le_of_eq hg.symm))); have BT3 := Aside0.mk (blk_put (blk_put hbox 0 (.int .i64 (rd_T35 M y).f0) (cs' := #[.int .i64 (rd_T35 M y).f0, .int .i64 0]) rfl) 1 (.int .i64 (rd_T35 M y).f1) (cs' := #[.int .i64 (rd_T35 M y).f0, .int .i64 (rd_T35 M y).f1]) rfl); have NG := Aside0.mk (show some gt ≠ v7.ownBlock by rw [hg]; exact Kd.R_ne_new (w := wr) HRR.out 0); have a0 := (blk_cell hbox 0).trans rfl; have a1 := (blk_cell hbox 1).trans rfl; have af0 := blk_frozen hbox 0; have af1 := blk_frozen hbox 1; have b0 := (blk_cell BT3.out 0).trans rfl; have b1 := (blk_cell BT3.out 1).trans rfl; clear hb hbox hg)
              | ((with_reducible refine gate_dst (N := 80) rfl ?_); refine lit1_event ?hg (N := 80) ?hd (cs := #[.int .i64 (rd_T35 M y).f0, .int .i64 (rd_T35 M y).f1]) (t := 35) (n := 1) ?hr ?_; (case hd => rfl); (case hg => rfl); (case hr => first | (go_simp; done) | (go_simp; rfl)); intro glb hg w5b hbox hb; have HB5b := Aside0.mk (below_step HB3.out hb); have HR5b := Aside0.mk (Kd.R_below HR3.out hb); have BLb := Aside0.mk hbox; clear hb hbox hg)
              | ((with_reducible refine gate_builtin (b := .append) (xs := #[.tmp 78, .tmp 80]) rfl ?_); at_builtin; refine Kd.R_append_rows k35 (w0 := w1) w1.heap.size rfl (.tmp 78) (.tmp 80) 30 35 (.agg #[(.int .i64 0), (.int .i64 0)]) 16 rfl Try.underlying30 info35 rfl (by decide) (by omega) v7 X [(rd_T35 M y)] _ _ _ (fun _ => True) (fun _ => False) rfl rfl ?aO ?aR (fun _ _ h => h) (fun _ h => h.elim) ?aF ?aB ?aS ?aL ?_; (case aR => exact oneE_C (x := (rd_T35 M y)) BLb.out); (case aB => exact HB5b.out); (case aF => exact fun _ _ => trivial); (case aO => exact HR5b.out); (case aS => exact below_size HB5b.out); (case aL => have := HLA.out; (try simp only [List.length_append, List.length_cons, List.length_nil]); omega); intro v3 w8 ho hb hg hat; have HR8 := Aside0.mk ho; have HB8 := Aside0.mk hb; clear ho hb hg hat))
            go_roundg k1
            case measure => have := GI.out; omega
            case rel => exact ⟨y + 1, false, _, _, by first | rfl | simp [hw], rfl, rfl, ⟨by omega⟩, ⟨by have := GI.out; omega⟩, ⟨by rw [show (y + 1).toNat = y.toNat + 1 by omega, take_snoc h0 hlt]; exact HNX.out⟩, HB8, HR8⟩
  | false =>
    have q4 := hq4 rfl
    go_enter Try.func16, Try.ntmps16
    go_wp2_with (first
    | (go_at_call 27; (with_reducible refine (rset_w HXW.out HL.out key).mono ?_); rintro x_ w_ ⟨he, rfl⟩; rw [HSB.out] at he; subst he)
    | (go_at_call 28; (with_reducible refine (rstop_w HXW.out HL.out key).mono ?_); rintro x_ w1 ⟨he, hn⟩; rw [HSB.out] at he; subst he; have R1 := Aside0.mk hn; clear hn))
    have R2 := Aside0.mk (HM.out ▸ R1.out)
    clear hx hq4
    obtain ⟨_, G1, ⟨A1, c1, hb1, _, hF1, _⟩, _⟩ := R2.out
    have HF1 := Aside0.mk hF1
    have HX1 := Aside0.mk hb1
    have hx1 : w1.cell? ⟨x, 0, none⟩ = some (.slice A1 M.length c1) := (blk_cell hb1 0).trans rfl
    clear hF1 hb1
    go_loopg [7, 8, 9, 10] M.length (fun kq v7' v8 v9 v10 wq => ∃ (y : Int) (b : Bool) (v7 : Value) (X : List S35), v9 = .int .i64 y ∧ v8 = .bool b ∧ v7 = v7' ∧ Aside0 (0 ≤ y) ∧ Aside0 (y + kq = M.length) ∧ Aside0 (Lay ⟨t, key⟩ (M.take y.toNat) b X) ∧ Aside0 (Below w1.heap.size w1 wq) ∧ Aside0 (k35.R 35 wq w1.heap.size (fun _ => True) v7 X))
    case atStart => exact ⟨0, false, _, [], rfl, rfl, rfl, ⟨by omega⟩, ⟨by omega⟩, ⟨⟨fun o ho => by simp at ho, rfl⟩⟩, ⟨Below.refl _ _⟩, ⟨Kd.R_nil _ _ _ _ _⟩⟩
    case round =>
    clear hx1
    obtain ⟨y, b, v7, X, rfl, rfl, rfl, G0, GI, HLY, HBB, HRR⟩ := hrel
    have HLA := Aside0.mk (show X.length ≤ 1025 by have := HLY.out.len; rw [List.length_take] at this; have := HLM.out; omega)
    have HXR := Aside0.mk ((HBB.out.block x (blk_lt HX1.out)).trans HX1.out)
    have hx : wr.cell? ⟨x, 0, none⟩ = some (.slice A1 M.length c1) := (blk_cell HXR.out 0).trans rfl
    have hxf := blk_frozen HXR.out 0
    cases gk with
    | zero =>
      have hm : decide (y < (M.length : Int)) = false := decide_eq_false (by have := GI.out; omega)
      have hy : y.toNat = M.length := by have := GI.out; have := G0.out; omega
      have hly := HLY.out
      rw [hy, List.take_length] at hly
      have HLZ := Aside0.mk hly
      clear hly hy
      cases b with
      | true =>
        obtain ⟨A9, m9, c9, rfl⟩ := R_some HRR.out
        go_wp2
        go_ret
        have hr := HRR.out
        rw [HLZ.out.end_] at hr
        exact ⟨rfl, R2.out.trans (by unfold setL; rw [← HM.out]; exact Rn.mk HBB.out HX1.out hr)⟩
      | false =>
        go_wp2_with (first
        | ((with_reducible refine gate_dst (N := 88) rfl ?_); refine lit1_event ?hg (N := 88) ?hd (cs := #[.int .i64 t, .int .i64 key]) (t := 35) (n := 1) ?hr ?_; (case hd => rfl); (case hg => rfl); (case hr => first | (go_simp; done) | (go_simp; rfl)); intro glc hg w5c hbox hb; have HB5c := Aside0.mk (below_step HBB.out hb); have HR5c := Aside0.mk (Kd.R_below HRR.out hb); have BLc := Aside0.mk hbox; clear hb hbox hg)
        | ((with_reducible refine gate_builtin (b := .append) (xs := #[.tmp 84, .tmp 88]) rfl ?_); at_builtin; refine Kd.R_append_rows k35 (w0 := w1) w1.heap.size rfl (.tmp 84) (.tmp 88) 30 35 (.agg #[(.int .i64 0), (.int .i64 0)]) 16 rfl Try.underlying30 info35 rfl (by decide) (by omega) v7 X [⟨t, key⟩] _ _ _ (fun _ => True) (fun _ => False) rfl rfl ?aO ?aR (fun _ _ h => h) (fun _ h => h.elim) ?aF ?aB ?aS ?aL ?_; (case aR => exact oneE_C (x := ⟨t, key⟩) BLc.out); (case aB => exact HB5c.out); (case aF => exact fun _ _ => trivial); (case aO => exact HR5c.out); (case aS => exact below_size HB5c.out); (case aL => have := HLA.out; (try simp only [List.length_append, List.length_cons, List.length_nil]); omega); intro v3' w8 ho hb hg hat; obtain ⟨A9, m9, c9, rfl⟩ := R_some ho; have HR8 := Aside0.mk ho; have HB8 := Aside0.mk hb; have HX8 := Aside0.mk ((hb.block x (blk_lt HX1.out)).trans HX1.out); have hx8 : w8.cell? ⟨x, 0, none⟩ = some (.slice A1 M.length c1) := (blk_cell HX8.out 0).trans rfl; have hxf8 := blk_frozen HX8.out 0; clear ho hb hg hat))
        go_ret
        have hr := HR8.out
        rw [HLZ.out.last] at hr
        exact ⟨rfl, R2.out.trans (by unfold setL; rw [← HM.out]; exact Rn.mk HB8.out HX1.out hr)⟩
    | succ k1 =>
      have hlt := (show y < (M.length : Int) by have := GI.out; omega)
      have h0 := G0.out
      have hd : decide (y < (M.length : Int)) = true := decide_eq_true hlt
      have hw : wrap64 (y + 1) = y + 1 := w64 (by omega) (by have := HLM.out; omega)
      obtain ⟨ad, e_, y0, y1⟩ := at_T35 (Kd.F_now (Kd.F_below HF1.out HBB.out)) y h0 hlt
      cases e_
      have h0t := eq_true h0
      have hltt := eq_true hlt
      have hkm : (rd_T35 M y).f1 ≠ key := HKM.out _ (by rw [rd35_at h0 hlt]; exact List.getElem_mem _)
      cases b with
      | true =>
        have HNX := Aside0.mk (HLY.out.done (o := rd_T35 M y))
        clear hkm
        go_wp2_with (first
          | ((with_reducible refine gate_dst (N := 10) rfl ?_); refine box_event ?hg (N := 10) ?hd (cs := #[.int .i64 0, .int .i64 0]) (t := 35) ?hr ?_; (case hd => rfl); (case hg => rfl); (case hr => first | (go_simp; done) | (go_simp; rfl)); intro gt hg w3 hbox hb; have HB3 := Aside0.mk (below_step HBB.out (show Below wr.heap.size wr ((w3.setCell ⟨gt, 0, none⟩ (.int .i64 (rd_T35 M y).f0)).setCell ⟨gt, 1, none⟩ (.int .i64 (rd_T35 M y).f1)) from below_set (below_set hb (Nat.le_of_eq hg.symm)) (Nat.le_of_eq hg.symm))); have HR3 := Aside0.mk (Kd.R_below HRR.out (show Below wr.heap.size wr ((w3.setCell ⟨gt, 0, none⟩ (.int .i64 (rd_T35 M y).f0)).setCell ⟨gt, 1, none⟩ (.int .i64 (rd_T35 M y).f1)) from below_set (below_set hb (Nat.le_of_eq hg.symm)) (Nat.le_of_eq hg.symm))); have BT3 := Aside0.mk (blk_put (blk_put hbox 0 (.int .i64 (rd_T35 M y).f0) (cs' := #[.int .i64 (rd_T35 M y).f0, .int .i64 0]) rfl) 1 (.int .i64 (rd_T35 M y).f1) (cs' := #[.int .i64 (rd_T35 M y).f0, .int .i64 (rd_T35 M y).f1]) rfl); have NG := Aside0.mk (show some gt ≠ v7.ownBlock by rw [hg]; exact Kd.R_ne_new (w := wr) HRR.out 0); have a0 := (blk_cell hbox 0).trans rfl; have a1 := (blk_cell hbox 1).trans rfl; have af0 := blk_frozen hbox 0; have af1 := blk_frozen hbox 1; have b0 := (blk_cell BT3.out 0).trans rfl; have b1 := (blk_cell BT3.out 1).trans rfl; clear hb hbox hg)
          | ((with_reducible refine gate_dst (N := 80) rfl ?_); refine lit1_event ?hg (N := 80) ?hd (cs := #[.int .i64 (rd_T35 M y).f0, .int .i64 (rd_T35 M y).f1]) (t := 35) (n := 1) ?hr ?_; (case hd => rfl); (case hg => rfl); (case hr => first | (go_simp; done) | (go_simp; rfl)); intro glb hg w5b hbox hb; have HB5b := Aside0.mk (below_step HB3.out hb); have HR5b := Aside0.mk (Kd.R_below HR3.out hb); have BLb := Aside0.mk hbox; clear hb hbox hg)
          | ((with_reducible refine gate_builtin (b := .append) (xs := #[.tmp 78, .tmp 80]) rfl ?_); at_builtin; refine Kd.R_append_rows k35 (w0 := w1) w1.heap.size rfl (.tmp 78) (.tmp 80) 30 35 (.agg #[(.int .i64 0), (.int .i64 0)]) 16 rfl Try.underlying30 info35 rfl (by decide) (by omega) v7 X [(rd_T35 M y)] _ _ _ (fun _ => True) (fun _ => False) rfl rfl ?aO ?aR (fun _ _ h => h) (fun _ h => h.elim) ?aF ?aB ?aS ?aL ?_; (case aR => exact oneE_C (x := (rd_T35 M y)) BLb.out); (case aB => exact HB5b.out); (case aF => exact fun _ _ => trivial); (case aO => exact HR5b.out); (case aS => exact below_size HB5b.out); (case aL => have := HLA.out; (try simp only [List.length_append, List.length_cons, List.length_nil]); omega); intro v3 w8 ho hb hg hat; have HR8 := Aside0.mk ho; have HB8 := Aside0.mk hb; clear ho hb hg hat))
        go_roundg k1
        case measure => have := GI.out; omega
        case rel => exact ⟨y + 1, true, _, _, by first | rfl | simp [hw], rfl, rfl, ⟨by omega⟩, ⟨by have := GI.out; omega⟩, ⟨by rw [show (y + 1).toNat = y.toNat + 1 by omega, take_snoc h0 hlt]; exact HNX.out⟩, HB8, HR8⟩
      | false =>
        by_cases hgt : (rd_T35 M y).f0 > t
        · have r1 : decide ((rd_T35 M y).f0 > t) = true := decide_eq_true hgt
          have HNX := Aside0.mk (HLY.out.here (o := rd_T35 M y) (by unfold tlt; simp only; omega))
          clear hgt hkm
          go_wp2_with (first
            | ((with_reducible refine gate_dst (N := 10) rfl ?_); refine box_event ?hg (N := 10) ?hd (cs := #[.int .i64 0, .int .i64 0]) (t := 35) ?hr ?_; (case hd => rfl); (case hg => rfl); (case hr => first | (go_simp; done) | (go_simp; rfl)); intro gt hg w3 hbox hb; have HB3 := Aside0.mk (below_step HBB.out (show Below wr.heap.size wr ((w3.setCell ⟨gt, 0, none⟩ (.int .i64 (rd_T35 M y).f0)).setCell ⟨gt, 1, none⟩ (.int .i64 (rd_T35 M y).f1)) from below_set (below_set hb (Nat.le_of_eq hg.symm)) (Nat.le_of_eq hg.symm))); have HR3 := Aside0.mk (Kd.R_below HRR.out (show Below wr.heap.size wr ((w3.setCell ⟨gt, 0, none⟩ (.int .i64 (rd_T35 M y).f0)).setCell ⟨gt, 1, none⟩ (.int .i64 (rd_T35 M y).f1)) from below_set (below_set hb (Nat.le_of_eq hg.symm)) (Nat.le_of_eq hg.symm))); have BT3 := Aside0.mk (blk_put (blk_put hbox 0 (.int .i64 (rd_T35 M y).f0) (cs' := #[.int .i64 (rd_T35 M y).f0, .int .i64 0]) rfl) 1 (.int .i64 (rd_T35 M y).f1) (cs' := #[.int .i64 (rd_T35 M y).f0, .int .i64 (rd_T35 M y).f1]) rfl); have NG := Aside0.mk (show some gt ≠ v7.ownBlock by rw [hg]; exact Kd.R_ne_new (w := wr) HRR.out 0); have a0 := (blk_cell hbox 0).trans rfl; have a1 := (blk_cell hbox 1).trans rfl; have af0 := blk_frozen hbox 0; have af1 := blk_frozen hbox 1; have b0 := (blk_cell BT3.out 0).trans rfl; have b1 := (blk_cell BT3.out 1).trans rfl; clear hb hbox hg)
            | ((with_reducible refine gate_dst (N := 76) rfl ?_); refine lit1_event ?hg (N := 76) ?hd (cs := #[.int .i64 t, .int .i64 key]) (t := 35) (n := 1) ?hr ?_; (case hd => rfl); (case hg => rfl); (case hr => first | (go_simp; done) | (go_simp; rfl)); intro gla hg w5a hbox hb; have HB5a := Aside0.mk (below_step HB3.out hb); have HR5a := Aside0.mk (Kd.R_below HR3.out hb); have BLa := Aside0.mk hbox; have BT5a := Aside0.mk (blk_below BT3.out hb); clear hb hbox hg)
            | ((with_reducible refine gate_builtin (b := .append) (xs := #[.tmp 72, .tmp 76]) rfl ?_); at_builtin; refine Kd.R_append_rows k35 (w0 := w1) w1.heap.size rfl (.tmp 72) (.tmp 76) 30 35 (.agg #[(.int .i64 0), (.int .i64 0)]) 16 rfl Try.underlying30 info35 rfl (by decide) (by omega) v7 X [⟨t, key⟩] _ _ _ (fun _ => True) (fun _ => False) rfl rfl ?aO ?aR (fun _ _ h => h) (fun _ h => h.elim) ?aF ?aB ?aS ?aL ?_; (case aR => exact oneE_C (x := ⟨t, key⟩) BLa.out); (case aB => exact HB5a.out); (case aF => exact fun _ _ => trivial); (case aO => exact HR5a.out); (case aS => exact below_size HB5a.out); (case aL => have := HLA.out; (try simp only [List.length_append, List.length_cons, List.length_nil]); omega); intro v2 w6 ho hb hg hat; have HR6 := Aside0.mk ho; have HB6 := Aside0.mk hb; have BT6 := Aside0.mk ((hg.block gt (blk_lt BT5a.out) NG.out).trans BT5a.out); have c0 := (blk_cell BT6.out 0).trans rfl; have c1 := (blk_cell BT6.out 1).trans rfl; clear ho hb hg hat)
            | ((with_reducible refine gate_dst (N := 80) rfl ?_); refine lit1_event ?hg (N := 80) ?hd (cs := #[.int .i64 (rd_T35 M y).f0, .int .i64 (rd_T35 M y).f1]) (t := 35) (n := 1) ?hr ?_; (case hd => rfl); (case hg => rfl); (case hr => first | (go_simp; done) | (go_simp; rfl)); intro glb hg w5b hbox hb; have HB5b := Aside0.mk (below_step HB6.out hb); have HR5b := Aside0.mk (Kd.R_below HR6.out hb); have BLb := Aside0.mk hbox; clear hb hbox hg)
            | ((with_reducible refine gate_builtin (b := .append) (xs := #[.tmp 78, .tmp 80]) rfl ?_); at_builtin; refine Kd.R_append_rows k35 (w0 := w1) w1.heap.size rfl (.tmp 78) (.tmp 80) 30 35 (.agg #[(.int .i64 0), (.int .i64 0)]) 16 rfl Try.underlying30 info35 rfl (by decide) (by omega) v2 (X ++ [⟨t, key⟩]) [(rd_T35 M y)] _ _ _ (fun _ => True) (fun _ => False) rfl rfl ?aO ?aR (fun _ _ h => h) (fun _ h => h.elim) ?aF ?aB ?aS ?aL ?_; (case aR => exact oneE_C (x := (rd_T35 M y)) BLb.out); (case aB => exact HB5b.out); (case aF => exact fun _ _ => trivial); (case aO => exact HR5b.out); (case aS => exact below_size HB5b.out); (case aL => have := HLA.out; (try simp only [List.length_append, List.length_cons, List.length_nil]); omega); intro v3 w8 ho hb hg hat; have HR8 := Aside0.mk ho; have HB8 := Aside0.mk hb; clear ho hb hg hat))
          go_roundg k1
          case measure => have := GI.out; omega
          case rel => exact ⟨y + 1, true, _, _, by first | rfl | simp [hw], rfl, rfl, ⟨by omega⟩, ⟨by have := GI.out; omega⟩, ⟨by rw [show (y + 1).toNat = y.toNat + 1 by omega, take_snoc h0 hlt]; exact HNX.out⟩, HB8, HR8⟩
        · have r1 : decide ((rd_T35 M y).f0 > t) = false := decide_eq_false hgt
          by_cases heq : (rd_T35 M y).f0 = t
          · have r2 : ((rd_T35 M y).f0 == t) = true := beq_iff_eq.mpr heq
            by_cases hk : (rd_T35 M y).f1 > key
            · have r3 : decide ((rd_T35 M y).f1 > key) = true := decide_eq_true hk
              have HNX := Aside0.mk (HLY.out.here (o := rd_T35 M y) (by unfold tlt; simp only; omega))
              clear hgt heq hk hkm
              go_wp2_with (first
                | ((with_reducible refine gate_dst (N := 10) rfl ?_); refine box_event ?hg (N := 10) ?hd (cs := #[.int .i64 0, .int .i64 0]) (t := 35) ?hr ?_; (case hd => rfl); (case hg => rfl); (case hr => first | (go_simp; done) | (go_simp; rfl)); intro gt hg w3 hbox hb; have HB3 := Aside0.mk (below_step HBB.out (show Below wr.heap.size wr ((w3.setCell ⟨gt, 0, none⟩ (.int .i64 (rd_T35 M y).f0)).setCell ⟨gt, 1, none⟩ (.int .i64 (rd_T35 M y).f1)) from below_set (below_set hb (Nat.le_of_eq hg.symm)) (Nat.le_of_eq hg.symm))); have HR3 := Aside0.mk (Kd.R_below HRR.out (show Below wr.heap.size wr ((w3.setCell ⟨gt, 0, none⟩ (.int .i64 (rd_T35 M y).f0)).setCell ⟨gt, 1, none⟩ (.int .i64 (rd_T35 M y).f1)) from below_set (below_set hb (Nat.le_of_eq hg.symm)) (Nat.le_of_eq hg.symm))); have BT3 := Aside0.mk (blk_put (blk_put hbox 0 (.int .i64 (rd_T35 M y).f0) (cs' := #[.int .i64 (rd_T35 M y).f0, .int .i64 0]) rfl) 1 (.int .i64 (rd_T35 M y).f1) (cs' := #[.int .i64 (rd_T35 M y).f0, .int .i64 (rd_T35 M y).f1]) rfl); have NG := Aside0.mk (show some gt ≠ v7.ownBlock by rw [hg]; exact Kd.R_ne_new (w := wr) HRR.out 0); have a0 := (blk_cell hbox 0).trans rfl; have a1 := (blk_cell hbox 1).trans rfl; have af0 := blk_frozen hbox 0; have af1 := blk_frozen hbox 1; have b0 := (blk_cell BT3.out 0).trans rfl; have b1 := (blk_cell BT3.out 1).trans rfl; clear hb hbox hg)
                | ((with_reducible refine gate_dst (N := 76) rfl ?_); refine lit1_event ?hg (N := 76) ?hd (cs := #[.int .i64 t, .int .i64 key]) (t := 35) (n := 1) ?hr ?_; (case hd => rfl); (case hg => rfl); (case hr => first | (go_simp; done) | (go_simp; rfl)); intro gla hg w5a hbox hb; have HB5a := Aside0.mk (below_step HB3.out hb); have HR5a := Aside0.mk (Kd.R_below HR3.out hb); have BLa := Aside0.mk hbox; have BT5a := Aside0.mk (blk_below BT3.out hb); clear hb hbox hg)
                | ((with_reducible refine gate_builtin (b := .append) (xs := #[.tmp 72, .tmp 76]) rfl ?_); at_builtin; refine Kd.R_append_rows k35 (w0 := w1) w1.heap.size rfl (.tmp 72) (.tmp 76) 30 35 (.agg #[(.int .i64 0), (.int .i64 0)]) 16 rfl Try.underlying30 info35 rfl (by decide) (by omega) v7 X [⟨t, key⟩] _ _ _ (fun _ => True) (fun _ => False) rfl rfl ?aO ?aR (fun _ _ h => h) (fun _ h => h.elim) ?aF ?aB ?aS ?aL ?_; (case aR => exact oneE_C (x := ⟨t, key⟩) BLa.out); (case aB => exact HB5a.out); (case aF => exact fun _ _ => trivial); (case aO => exact HR5a.out); (case aS => exact below_size HB5a.out); (case aL => have := HLA.out; (try simp only [List.length_append, List.length_cons, List.length_nil]); omega); intro v2 w6 ho hb hg hat; have HR6 := Aside0.mk ho; have HB6 := Aside0.mk hb; have BT6 := Aside0.mk ((hg.block gt (blk_lt BT5a.out) NG.out).trans BT5a.out); have c0 := (blk_cell BT6.out 0).trans rfl; have c1 := (blk_cell BT6.out 1).trans rfl; clear ho hb hg hat)
                | ((with_reducible refine gate_dst (N := 80) rfl ?_); refine lit1_event ?hg (N := 80) ?hd (cs := #[.int .i64 (rd_T35 M y).f0, .int .i64 (rd_T35 M y).f1]) (t := 35) (n := 1) ?hr ?_; (case hd => rfl); (case hg => rfl); (case hr => first | (go_simp; done) | (go_simp; rfl)); intro glb hg w5b hbox hb; have HB5b := Aside0.mk (below_step HB6.out hb); have HR5b := Aside0.mk (Kd.R_below HR6.out hb); have BLb := Aside0.mk hbox; clear hb hbox hg)
                | ((with_reducible refine gate_builtin (b := .append) (xs := #[.tmp 78, .tmp 80]) rfl ?_); at_builtin; refine Kd.R_append_rows k35 (w0 := w1) w1.heap.size rfl (.tmp 78) (.tmp 80) 30 35 (.agg #[(.int .i64 0), (.int .i64 0)]) 16 rfl Try.underlying30 info35 rfl (by decide) (by omega) v2 (X ++ [⟨t, key⟩]) [(rd_T35 M y)] _ _ _ (fun _ => True) (fun _ => False) rfl rfl ?aO ?aR (fun _ _ h => h) (fun _ h => h.elim) ?aF ?aB ?aS ?aL ?_; (case aR => exact oneE_C (x := (rd_T35 M y)) BLb.out); (case aB => exact HB5b.out); (case aF => exact fun _ _ => trivial); (case aO => exact HR5b.out); (case aS => exact below_size HB5b.out); (case aL => have := HLA.out; (try simp only [List.length_append, List.length_cons, List.length_nil]); omega); intro v3 w8 ho hb hg hat; have HR8 := Aside0.mk ho; have HB8 := Aside0.mk hb; clear ho hb hg hat))
              go_roundg k1
              case measure => have := GI.out; omega
              case rel => exact ⟨y + 1, true, _, _, by first | rfl | simp [hw], rfl, rfl, ⟨by omega⟩, ⟨by have := GI.out; omega⟩, ⟨by rw [show (y + 1).toNat = y.toNat + 1 by omega, take_snoc h0 hlt]; exact HNX.out⟩, HB8, HR8⟩
            · have r3 : decide ((rd_T35 M y).f1 > key) = false := decide_eq_false hk
              have HNX := Aside0.mk (HLY.out.on (o := rd_T35 M y) (by unfold tlt; simp only; omega))
              clear hgt heq hk hkm
              go_wp2_with (first
                | ((with_reducible refine gate_dst (N := 10) rfl ?_); refine box_event ?hg (N := 10) ?hd (cs := #[.int .i64 0, .int .i64 0]) (t := 35) ?hr ?_; (case hd => rfl); (case hg => rfl); (case hr => first | (go_simp; done) | (go_simp; rfl)); intro gt hg w3 hbox hb; have HB3 := Aside0.mk (below_step HBB.out (show Below wr.heap.size wr ((w3.setCell ⟨gt, 0, none⟩ (.int .i64 (rd_T35 M y).f0)).setCell ⟨gt, 1, none⟩ (.int .i64 (rd_T35 M y).f1)) from below_set (below_set hb (Nat.le_of_eq hg.symm)) (Nat.le_of_eq hg.symm))); have HR3 := Aside0.mk (Kd.R_below HRR.out (show Below wr.heap.size wr ((w3.setCell ⟨gt, 0, none⟩ (.int .i64 (rd_T35 M y).f0)).setCell ⟨gt, 1, none⟩ (.int .i64 (rd_T35 M y).f1)) from below_set (below_set hb (Nat.le_of_eq hg.symm)) (Nat.le_of_eq hg.symm))); have BT3 := Aside0.mk (blk_put (blk_put hbox 0 (.int .i64 (rd_T35 M y).f0) (cs' := #[.int .i64 (rd_T35 M y).f0, .int .i64 0]) rfl) 1 (.int .i64 (rd_T35 M y).f1) (cs' := #[.int .i64 (rd_T35 M y).f0, .int .i64 (rd_T35 M y).f1]) rfl); have NG := Aside0.mk (show some gt ≠ v7.ownBlock by rw [hg]; exact Kd.R_ne_new (w := wr) HRR.out 0); have a0 := (blk_cell hbox 0).trans rfl; have a1 := (blk_cell hbox 1).trans rfl; have af0 := blk_frozen hbox 0; have af1 := blk_frozen hbox 1; have b0 := (blk_cell BT3.out 0).trans rfl; have b1 := (blk_cell BT3.out 1).trans rfl; clear hb hbox hg)
                | ((with_reducible refine gate_dst (N := 80) rfl ?_); refine lit1_event ?hg (N := 80) ?hd (cs := #[.int .i64 (rd_T35 M y).f0, .int .i64 (rd_T35 M y).f1]) (t := 35) (n := 1) ?hr ?_; (case hd => rfl); (case hg => rfl); (case hr => first | (go_simp; done) | (go_simp; rfl)); intro glb hg w5b hbox hb; have HB5b := Aside0.mk (below_step HB3.out hb); have HR5b := Aside0.mk (Kd.R_below HR3.out hb); have BLb := Aside0.mk hbox; clear hb hbox hg)
                | ((with_reducible refine gate_builtin (b := .append) (xs := #[.tmp 78, .tmp 80]) rfl ?_); at_builtin; refine Kd.R_append_rows k35 (w0 := w1) w1.heap.size rfl (.tmp 78) (.tmp 80) 30 35 (.agg #[(.int .i64 0), (.int .i64 0)]) 16 rfl Try.underlying30 info35 rfl (by decide) (by omega) v7 X [(rd_T35 M y)] _ _ _ (fun _ => True) (fun _ => False) rfl rfl ?aO ?aR (fun _ _ h => h) (fun _ h => h.elim) ?aF ?aB ?aS ?aL ?_; (case aR => exact oneE_C (x := (rd_T35 M y)) BLb.out); (case aB => exact HB5b.out); (case aF => exact fun _ _ => trivial); (case aO => exact HR5b.out); (case aS => exact below_size HB5b.out); (case aL => have := HLA.out; (try simp only [List.length_append, List.length_cons, List.length_nil]); omega); intro v3 w8 ho hb hg hat; have HR8 := Aside0.mk ho; have HB8 := Aside0.mk hb; clear ho hb hg hat))
              go_roundg k1
              case measure => have := GI.out; omega
              case rel => exact ⟨y + 1, false, _, _, by first | rfl | simp [hw], rfl, rfl, ⟨by omega⟩, ⟨by have := GI.out; omega⟩, ⟨by rw [show (y + 1).toNat = y.toNat + 1 by omega, take_snoc h0 hlt]; exact HNX.out⟩, HB8, HR8⟩
          · have r2 : ((rd_T35 M y).f0 == t) = false := beq_eq_false_iff_ne.mpr heq
            have HNX := Aside0.mk (HLY.out.on (o := rd_T35 M y) (by unfold tlt; simp only; omega))
            clear hgt heq hkm
            go_wp2_with (first
              | ((with_reducible refine gate_dst (N := 10) rfl ?_); refine box_event ?hg (N := 10) ?hd (cs := #[.int .i64 0, .int .i64 0]) (t := 35) ?hr ?_; (case hd => rfl); (case hg => rfl); (case hr => first | (go_simp; done) | (go_simp; rfl)); intro gt hg w3 hbox hb; have HB3 := Aside0.mk (below_step HBB.out (show Below wr.heap.size wr ((w3.setCell ⟨gt, 0, none⟩ (.int .i64 (rd_T35 M y).f0)).setCell ⟨gt, 1, none⟩ (.int .i64 (rd_T35 M y).f1)) from below_set (below_set hb (Nat.le_of_eq hg.symm)) (Nat.le_of_eq hg.symm))); have HR3 := Aside0.mk (Kd.R_below HRR.out (show Below wr.heap.size wr ((w3.setCell ⟨gt, 0, none⟩ (.int .i64 (rd_T35 M y).f0)).setCell ⟨gt, 1, none⟩ (.int .i64 (rd_T35 M y).f1)) from below_set (below_set hb (Nat.le_of_eq hg.symm)) (Nat.le_of_eq hg.symm))); have BT3 := Aside0.mk (blk_put (blk_put hbox 0 (.int .i64 (rd_T35 M y).f0) (cs' := #[.int .i64 (rd_T35 M y).f0, .int .i64 0]) rfl) 1 (.int .i64 (rd_T35 M y).f1) (cs' := #[.int .i64 (rd_T35 M y).f0, .int .i64 (rd_T35 M y).f1]) rfl); have NG := Aside0.mk (show some gt ≠ v7.ownBlock by rw [hg]; exact Kd.R_ne_new (w := wr) HRR.out 0); have a0 := (blk_cell hbox 0).trans rfl; have a1 := (blk_cell hbox 1).trans rfl; have af0 := blk_frozen hbox 0; have af1 := blk_frozen hbox 1; have b0 := (blk_cell BT3.out 0).trans rfl; have b1 := (blk_cell BT3.out 1).trans rfl; clear hb hbox hg)
              | ((with_reducible refine gate_dst (N := 80) rfl ?_); refine lit1_event ?hg (N := 80) ?hd (cs := #[.int .i64 (rd_T35 M y).f0, .int .i64 (rd_T35 M y).f1]) (t := 35) (n := 1) ?hr ?_; (case hd => rfl); (case hg => rfl); (case hr => first | (go_simp; done) | (go_simp; rfl)); intro glb hg w5b hbox hb; have HB5b := Aside0.mk (below_step HB3.out hb); have HR5b := Aside0.mk (Kd.R_below HR3.out hb); have BLb := Aside0.mk hbox; clear hb hbox hg)
              | ((with_reducible refine gate_builtin (b := .append) (xs := #[.tmp 78, .tmp 80]) rfl ?_); at_builtin; refine Kd.R_append_rows k35 (w0 := w1) w1.heap.size rfl (.tmp 78) (.tmp 80) 30 35 (.agg #[(.int .i64 0), (.int .i64 0)]) 16 rfl Try.underlying30 info35 rfl (by decide) (by omega) v7 X [(rd_T35 M y)] _ _ _ (fun _ => True) (fun _ => False) rfl rfl ?aO ?aR (fun _ _ h => h) (fun _ h => h.elim) ?aF ?aB ?aS ?aL ?_; (case aR => exact oneE_C (x := (rd_T35 M y)) BLb.out); (case aB => exact HB5b.out); (case aF => exact fun _ _ => trivial); (case aO => exact HR5b.out); (case aS => exact below_size HB5b.out); (case aL => have := HLA.out; (try simp only [List.length_append, List.length_cons, List.length_nil]); omega); intro v3 w8 ho hb hg hat; have HR8 := Aside0.mk ho; have HB8 := Aside0.mk hb; clear ho hb hg hat))
            go_roundg k1
            case measure => have := GI.out; omega
            case rel => exact ⟨y + 1, false, _, _, by first | rfl | simp [hw], rfl, rfl, ⟨by omega⟩, ⟨by have := GI.out; omega⟩, ⟨by rw [show (y + 1).toNat = y.toNat + 1 by omega, take_snoc h0 hlt]; exact HNX.out⟩, HB8, HR8⟩
theorem rSet_w {w : World} {x : Nat} {G : Nat → Prop} {L : List S35} (h : Xw w x G L) (hl : L.length ≤ 1024) (key t : Int) :
    Calls Try.prog 16 #[.pointer (some ⟨x, 0, none⟩), .int .i64 key, .int .i64 t] w fun e w' => e = .returned (.int .i64 (setE L key t)) ∧ Rd w w' x G (setR L key t) := by
  by_cases hbad : t < 0 ∨ t > 1000000000000 ∨ key < 0
  · have he : setE L key t = 1 := by unfold setE; rw [if_pos hbad]
    have hr : setR L key t = L := by unfold setR; rw [he]; rfl
    refine (rSet_bad x key t (by omega)).mono ?_
    rintro e w' ⟨rfl, rfl⟩
    rw [he, hr]
    exact ⟨rfl, KB.refl _ _, G, h, fun k hk => .inl hk⟩
  · by_cases hfull : tm L key = none ∧ L.length ≥ 1024
    · have he : setE L key t = 8 := by unfold setE; rw [if_neg hbad, if_pos hfull]
      have hr : setR L key t = L := by unfold setR; rw [he]; rfl
      refine (rSet_full h hl key t (by omega) (by omega) (by omega) hfull.1 hfull.2).mono ?_
      rintro e w' ⟨rfl, rfl⟩
      rw [he, hr]
      exact ⟨rfl, KB.refl _ _, G, h, fun k hk => .inl hk⟩
    · have he : setE L key t = 0 := by unfold setE; rw [if_neg hbad, if_neg hfull]
      have hr : setR L key t = setL L key t := by unfold setR; rw [if_pos he]
      refine (rSet_go h hl key t (by omega) (by omega) (by omega) _ rfl (fun hb => ?_)).mono ?_
      · cases ht : tm L key with
        | none => exact Nat.lt_of_not_le (fun hh => hfull ⟨ht, hh⟩)
        | some a => rw [ht] at hb; cases hb
      · rintro e w' ⟨rfl, hn⟩
        rw [he, hr]
        exact ⟨rfl, hn.rd⟩
end Go.Proofs.Ytljajnednggebaa.P
