/- Layer 11: (*Wheel).Due. -/
import Derived.Test.YtljajnednggebaaEwx
namespace Go.Proofs.Ytljajnednggebaa.P
set_option linter.unusedSimpArgs false
set_option linter.unusedVariables false
open Go.RowKit Go.Maps Go.Proofs.YtljajnednggebaaW.PrintWords Go.Proofs.YtljajnednggebaaW.PrintLast Go.Proofs.YtljajnednggebaaW.PrintMore
theorem lit1_event {P : Program} {ops : Array Oper} {rest : List Oper} {o : Oper} {a : Act} {Q : Exit → Act → World → Prop} {W : World} (hgd : o.guard = none) {N : Tmp} (_hd : o.dst = some N) {cs : Array Value} {t : TypeId} {n : Nat}
    (hrun : (execOp a.eval o).run P W = .ok (.value (.slice (some ⟨W.heap.size, 0, none⟩) n n)) (W.alloc (.cells cs t (0, 0))))
    (h : ∀ g, g = W.heap.size → ∀ w1, w1.heap[g]? = some (.cells cs t (0, 0)) → Below W.heap.size W w1 → wpList P ops Q rest (a.put o.dst (.slice (some ⟨g, 0, none⟩) n n)) w1) : wpList P ops Q (o :: rest) a W :=
  Kd.event_run hgd hrun (h _ rfl _ (blk_new W _) (below_alloc (Below.refl _ _) _))
theorem oneI_C {w : World} {h : Nat} {x : Int} (hv : w.heap[h]? = some (.cells #[.int .i64 x] 3 (0, 0))) : (Kd.int .i64).C w (some ⟨h, 0, none⟩) 1 [x] := by
  refine ⟨rfl, by omega, fun _ => ⟨_, rfl, fun j p hp => ⟨[.int .i64 p], rfl, rfl, fun i u hu => ?_⟩⟩⟩
  have hj : j = 0 := by have := (List.getElem?_eq_some_iff.1 hp).1; simpa using this
  subst hj
  obtain rfl : x = p := by simpa using hp
  have hi : i = 0 := by have := (List.getElem?_eq_some_iff.1 hu).1; simpa using this
  subst hi
  have hu' : Value.int .i64 x = u := by simpa using hu
  subst hu'
  rw [show (0 * (Kd.int .i64).sz + 0) = 0 by omega, show (⟨h, 0, none⟩ : Addr).add 0 = ⟨h, 0, none⟩ from add_plain h 0]
  simp [World.cell?, hv]
def DuX (w0 w : World) (F F' : Nat → Prop) (wr : World) (g N : Nat) (L : List S35) (i j : Nat) (Ax : Option Addr) (cx : Nat) (v5 : Value) : Prop :=
  (∀ k, F' k → F k ∨ w.heap.size ≤ k) ∧ Fr w F wr ∧ Wst w0 F' wr g N (L.drop i) ∧ k35.R 35 wr w.heap.size (fun k => ¬ F' k) (.slice Ax L.length cx) L ∧ (Kd.int .i64).R 3 wr w.heap.size (fun k => ¬ F' k) v5 ((L.take j).map S35.f1)
def DuS (w0 w : World) (F : Nat → Prop) (wr : World) (g N : Nat) (L : List S35) (i j : Nat) (Ax : Option Addr) (cx : Nat) (v5 : Value) : Prop := ∃ F' : Nat → Prop, DuX w0 w F F' wr g N L i j Ax cx v5
section
variable {w0 w wr w' : World} {F F1 : Nat → Prop} {g N i j : Nat} {L : List S35} {Ax : Option Addr} {cx : Nat} {v5 : Value}
theorem DuS.start (h : Wst w0 F w g N L) (ho : k35.R 35 w' w.heap.size (fun _ => True) (.slice Ax L.length cx) L) (hb : Below w.heap.size w w') : DuS w0 w F w' g N L 0 0 Ax cx (.slice none 0 0) :=
  ⟨F, fun k hk => .inl hk, (Fr.refl w F).below hb, h.below hb, R_fresh ho h.1 (Nat.le_refl _), Kd.R_nil _ _ _ _ _⟩
theorem DuX.below (h : DuX w0 w F F1 wr g N L i j Ax cx v5) (hb : Below wr.heap.size wr w') : DuX w0 w F F1 w' g N L i j Ax cx v5 := by
  obtain ⟨h1, h2, h3, h4, h5⟩ := h
  exact ⟨h1, h2.below hb, h3.below hb, Kd.R_below h4 hb, Kd.R_below h5 hb⟩
theorem DuS.below (h : DuS w0 w F wr g N L i j Ax cx v5) (hb : Below wr.heap.size wr w') : DuS w0 w F w' g N L i j Ax cx v5 := by
  obtain ⟨F', h⟩ := h
  exact ⟨F', h.below hb⟩
theorem Nx.tell (h : Nx w0 F w w' g N L) : Fr w F w' := by obtain ⟨_, _, h, _⟩ := h; exact h
theorem DuS.dropped {L2 : List S35} {gt : Nat} {o : Obj} (h1 : ∀ k, F1 k → F k ∨ w.heap.size ≤ k) (h2 : Fr w F wr) (h3 : Wst w0 F1 wr g N (L.drop i)) (h4 : k35.R 35 wr w.heap.size (fun k => ¬ F1 k) (.slice Ax L.length cx) L) (h5 : (Kd.int .i64).R 3 wr w.heap.size (fun k => ¬ F1 k) v5 ((L.take j).map S35.f1)) (hn : Nx w0 F1 wr w' g N L2) (hL : L2 = L.drop (i + 1)) (hb : wr.heap[gt]? = some o) (hg : ¬ F1 gt) :
    w'.heap[gt]? = some o ∧ DuS w0 w F w' g N L (i + 1) j Ax cx v5 := by
  subst hL
  have hn0 := hn
  obtain ⟨F2, k1, k2, k3⟩ := hn
  obtain ⟨F3, m1, m2, m3⟩ := Nx.trans h1 h2 hn0
  refine ⟨(k2.fr gt (blk_lt hb) hg).trans hb, F2, fun k hk => ?_, m2, k3, R_nx rfl h4 k1 k2, R_nx rfl h5 k1 k2⟩
  rcases k1 k hk with e | e
  · exact h1 k e
  · exact .inr (Nat.le_trans h2.sz e)
theorem DuS.appended {key : Int} {v2 : Value} (h1 : ∀ k, F1 k → F k ∨ w.heap.size ≤ k) (h2 : Fr w F wr) (h3 : Wst w0 F1 wr g N (L.drop i)) (h4 : k35.R 35 wr w.heap.size (fun k => ¬ F1 k) (.slice Ax L.length cx) L) (h5 : (Kd.int .i64).R 3 wr w.heap.size (fun k => ¬ F1 k) v5 ((L.take j).map S35.f1)) (hw : w0.heap.size ≤ w.heap.size) (hr : (Kd.int .i64).R 3 w' w.heap.size (fun k => ¬ F1 k) v2 ((L.take j).map S35.f1 ++ [key])) (hk : (L.take j).map S35.f1 ++ [key] = (L.take (j + 1)).map S35.f1) (hg : wr.grownBy w' v5.ownBlock) : DuS w0 w F w' g N L i (j + 1) Ax cx v2 := by
  rw [hk] at hr
  have hb := pw_below_grown h3.2.bl v5.ownBlock (below_size h3.2.bl) hg (fun k hk => Nat.le_trans hw (Kd.R_base h5 k hk))
  refine ⟨F1, h1, h2.grown hg (fun k hk => .inr (Kd.R_base h5 k hk)), h3.keep (fun k hF => hg.block k (h3.1 k hF) (fun e => h5.1 k e.symm hF)) hg.size hb, Kd.R_over h4 h5 (by decide) hg, hr⟩
end
def dueN (L : List S35) (now : Int) : Nat := (L.takeWhile fun o => decide (o.f0 ≤ now)).length
theorem due_at (L : List S35) (now : Int) : ∀ (i : Nat), i ≤ L.length → (∀ j (hj : j < L.length), j < i → (L[j]).f0 ≤ now) → (i = L.length ∨ ∃ h : i < L.length, now < (L[i]).f0) → dueN L now = i := by
  induction L with
  | nil => intro i h _ _; simp at h; subst h; rfl
  | cons o r ih =>
    intro i h h1 h2
    cases i with
    | zero =>
      rcases h2 with h2 | ⟨hl, h2⟩
      · simp at h2
      · unfold dueN
        rw [List.takeWhile_cons_of_neg]
        · rfl
        · simp at h2 ⊢; exact h2
    | succ i =>
      have a := h1 0 (by simp) (by omega)
      have b := ih i (by simpa using h) (fun j hj hji => h1 (j + 1) (by simpa using hj) (by omega)) (by
        rcases h2 with h2 | ⟨hl, h2⟩
        · exact .inl (by simpa using h2)
        · exact .inr ⟨by simpa using hl, by simpa using h2⟩)
      unfold dueN at b ⊢
      rw [List.takeWhile_cons_of_pos (by simpa using a), List.length_cons, b]
theorem drop_next {L : List S35} (hk : KD L) (i : Nat) (hi : i < L.length) : dropL (L.drop i) (L[i]).f1 = L.drop (i + 1) := by
  have hk2 : KD (L.drop i) := hk.sublist (List.drop_sublist i L)
  rw [List.drop_eq_getElem_cons hi] at hk2 ⊢
  unfold dropL
  rw [List.filter_cons_of_neg (by simp), List.filter_eq_self]
  intro o ho
  have := (List.pairwise_cons.1 hk2).1 o ho
  simpa using this.symm
set_option maxHeartbeats 8000000 in
set_option maxRecDepth 100000 in
theorem due_w {w0 w : World} {F : Nat → Prop} {g N : Nat} {L : List S35} (h : Wst w0 F w g N L) (now : Int) :
    Calls Try.prog 12 #[.pointer (some ⟨g, 0, none⟩), .int .i64 now] w fun e w' => ∃ v Ax cx, e = .returned v ∧ DuS w0 w F w' g N L (dueN L now) (dueN L now) Ax cx v := by
  have HW := Aside0.mk h
  have HOK := Aside0.mk h.2.1
  have HW0 := Aside0.mk (below_size h.2.bl)
  have HL := Aside0.mk (show L.length ≤ 1024 from h.2.1.2.2.2)
  clear h
  go_enter Try.func12, Try.ntmps12
  go_wp2_with (go_at_call 11; (refine (list_w HW.out).mono ?_); rintro e w1 ⟨vX, rfl, ho, hb⟩; obtain ⟨Ax, cx, rfl, _, _⟩ := Kd.R_reads ho; have S0 := Aside0.mk (DuS.start HW.out ho hb); clear ho hb)
  go_loopg [5, 7, 13] L.length (fun kq v5' _ v13 wr => ∃ (x : Int) (v5 : Value), v13 = .int .i64 x ∧ v5 = v5' ∧ Aside0 (0 ≤ x) ∧ Aside0 (x + kq = L.length) ∧ Aside0 (∀ j (hj : j < L.length), (j : Int) < x → (L[j]).f0 ≤ now) ∧ Aside0 (DuS w0 w F wr g N L x.toNat x.toNat Ax cx v5))
  case atStart => exact ⟨0, _, rfl, rfl, ⟨by omega⟩, ⟨by omega⟩, ⟨fun j hj hh => by omega⟩, S0⟩
  case round =>
    clear S0
    obtain ⟨x, v5, rfl, rfl, H0, HI, HA, SS⟩ := hrel
    cases gk with
    | zero =>
      have hn : decide (x < (L.length : Int)) = false := decide_eq_false (by have := HI.out; omega)
      go_wp2
      go_ret
      have hd := due_at L now x.toNat (by have := HI.out; have := H0.out; omega) (fun j hj hji => HA.out j hj (by omega)) (.inl (by have := HI.out; have := H0.out; omega))
      rw [hd]
      exact ⟨_, _, cx, rfl, SS.out⟩
    | succ k1 =>
      have hlt := (show x < (L.length : Int) by have := HI.out; omega)
      have h0 := H0.out
      have hd : decide (x < (L.length : Int)) = true := decide_eq_true hlt
      have hb0 : x < 9223372036854775807 := by have := HL.out; omega
      have hw : wrap64 (x + 1) = x + 1 := w64 (by omega) (by omega)
      have hxl : x.toNat < L.length := by omega
      have hrx : rd_T35 L x = L[x.toNat] := by rw [← trd_nat L x.toNat hxl]; congr 1; omega
      have hat : ∃ ad, Ax = some ad ∧ wr.cell? (ad.add (x.toNat * 2)) = some (.int .i64 (rd_T35 L x).f0) ∧ wr.cell? ⟨(ad.add (x.toNat * 2)).block, (ad.add (x.toNat * 2)).off + 1, none⟩ = some (.int .i64 (rd_T35 L x).f1) := by
        obtain ⟨F', _, _, _, h4, _⟩ := SS.out
        exact at_T35 (Kd.R_reads' h4).2.2 x h0 hlt
      obtain ⟨ad, e_, hx0, hx1⟩ := hat
      cases e_
      have HRX := Aside0.mk hrx
      have HXL := Aside0.mk hxl
      have h0t := eq_true h0
      have hltt := eq_true hlt
      clear hrx
      by_cases hq : (rd_T35 L x).f0 > now
      · have bq : decide ((rd_T35 L x).f0 > now) = true := decide_eq_true hq
        have HQ := Aside0.mk hq
        clear hq
        go_wp2_with ((with_reducible refine gate_dst (N := 7) rfl ?_); refine box_event ?hg (N := 7) ?hd (cs := #[.int .i64 0, .int .i64 0]) (t := 35) ?hr ?_; (case hd => rfl); (case hg => rfl); (case hr => first | (go_simp; done) | (go_simp; rfl)); intro gt hg w3 hbox hb; obtain ⟨F1, hs1⟩ := SS.out; have GN := Aside0.mk (show ¬ F1 gt from fun hF => by have := hs1.2.2.1.1 gt hF; omega); have S3 := Aside0.mk (hs1.below (show Below wr.heap.size wr ((w3.setCell ⟨gt, 0, none⟩ (.int .i64 (rd_T35 L x).f0)).setCell ⟨gt, 1, none⟩ (.int .i64 (rd_T35 L x).f1)) from below_set (below_set hb (Nat.le_of_eq hg.symm)) (Nat.le_of_eq hg.symm))); have BT3 := Aside0.mk (blk_put (blk_put hbox 0 (.int .i64 (rd_T35 L x).f0) (cs' := #[.int .i64 (rd_T35 L x).f0, .int .i64 0]) rfl) 1 (.int .i64 (rd_T35 L x).f1) (cs' := #[.int .i64 (rd_T35 L x).f0, .int .i64 (rd_T35 L x).f1]) rfl); have a0 := (blk_cell hbox 0).trans rfl; have a1 := (blk_cell hbox 1).trans rfl; have af0 := blk_frozen hbox 0; have af1 := blk_frozen hbox 1; clear hb hbox hg hs1)
        go_ret
        have hd := due_at L now x.toNat (Nat.le_of_lt HXL.out) (fun j hj hji => HA.out j hj (by have := H0.out; omega)) (.inr ⟨HXL.out, by rw [← HRX.out]; exact HQ.out⟩)
        rw [hd]
        exact ⟨_, _, cx, rfl, F1, S3.out⟩
      · have bq : decide ((rd_T35 L x).f0 > now) = false := decide_eq_false hq
        have HQ := Aside0.mk hq
        have HKW := Aside0.mk (show wf64 (rd_T35 L x).f1 by rw [HRX.out]; exact (HOK.out.2.2.1 _ (List.getElem_mem HXL.out)).2)
        have HKD := Aside0.mk (show dropL (L.drop x.toNat) (rd_T35 L x).f1 = L.drop (x.toNat + 1) by rw [HRX.out]; exact drop_next HOK.out.2.1 x.toNat HXL.out)
        have HKE := Aside0.mk (show (L.take x.toNat).map S35.f1 ++ [(rd_T35 L x).f1] = (L.take (x.toNat + 1)).map S35.f1 by rw [HRX.out, List.take_succ_eq_append_getElem HXL.out, List.map_append]; rfl)
        clear hq
        go_wp2_with (first
          | ((with_reducible refine gate_dst (N := 7) rfl ?_); refine box_event ?hg (N := 7) ?hd (cs := #[.int .i64 0, .int .i64 0]) (t := 35) ?hr ?_; (case hd => rfl); (case hg => rfl); (case hr => first | (go_simp; done) | (go_simp; rfl)); intro gt hg w3 hbox hb; obtain ⟨F1, hs1⟩ := SS.out; have GN := Aside0.mk (show ¬ F1 gt from fun hF => by have := hs1.2.2.1.1 gt hF; omega); have S3 := Aside0.mk (hs1.below (show Below wr.heap.size wr ((w3.setCell ⟨gt, 0, none⟩ (.int .i64 (rd_T35 L x).f0)).setCell ⟨gt, 1, none⟩ (.int .i64 (rd_T35 L x).f1)) from below_set (below_set hb (Nat.le_of_eq hg.symm)) (Nat.le_of_eq hg.symm))); have BT3 := Aside0.mk (blk_put (blk_put hbox 0 (.int .i64 (rd_T35 L x).f0) (cs' := #[.int .i64 (rd_T35 L x).f0, .int .i64 0]) rfl) 1 (.int .i64 (rd_T35 L x).f1) (cs' := #[.int .i64 (rd_T35 L x).f0, .int .i64 (rd_T35 L x).f1]) rfl); have a0 := (blk_cell hbox 0).trans rfl; have a1 := (blk_cell hbox 1).trans rfl; have af0 := blk_frozen hbox 0; have af1 := blk_frozen hbox 1; clear hb hbox hg hs1)
          | (go_at_call 22; (refine (drop_w S3.out.2.2.1 (rd_T35 L x).f1 HKW.out).mono ?_); rintro e w4 ⟨rfl, hn⟩; have BT4 := Aside0.mk (DuS.dropped S3.out.1 S3.out.2.1 S3.out.2.2.1 S3.out.2.2.2.1 S3.out.2.2.2.2 hn HKD.out BT3.out GN.out).1; have SD := Aside0.mk (DuS.dropped S3.out.1 S3.out.2.1 S3.out.2.2.1 S3.out.2.2.2.1 S3.out.2.2.2.2 hn HKD.out BT3.out GN.out).2; clear hn; have t1 := (blk_cell BT4.out 1).trans rfl)
          | ((with_reducible refine gate_dst (N := 28) rfl ?_); refine lit1_event ?hg (N := 28) ?hd (cs := #[.int .i64 (rd_T35 L x).f1]) (t := 3) (n := 1) ?hr ?_; (case hd => rfl); (case hg => rfl); (case hr => first | (go_simp; done) | (go_simp; rfl)); intro gl hg w5 hbox hb; have SL := Aside0.mk (SD.out.below hb); have BL := Aside0.mk hbox; clear hb hbox hg)
          | ((with_reducible refine gate_builtin (b := .append) (xs := #[.tmp 25, .tmp 28]) rfl ?_); at_builtin; (obtain ⟨F2, hs2⟩ := SL.out); have S5 := Aside0.mk hs2; clear hs2; refine Kd.R_append_rows (Kd.int .i64) (w0 := w5) w.heap.size rfl (.tmp 25) (.tmp 28) 32 3 (.int .i64 0) 8 rfl Try.underlying32 info3 rfl (by decide) (by omega) v5 ((L.take x.toNat).map S35.f1) [(rd_T35 L x).f1] _ _ _ (fun k => ¬ F2 k) (fun _ => False) rfl rfl ?aO ?aR (fun _ _ h => h) (fun _ h => h.elim) ?aF ?aB ?aS ?aL ?_; (case aR => exact oneI_C BL.out); (case aB => exact Below.refl _ _); (case aF => exact (fun k hk hF => by have := S5.out.2.2.1.1 k hF; omega)); (case aO => exact S5.out.2.2.2.2); (case aS => exact S5.out.2.1.sz); (case aL => have := HL.out; rw [List.length_map, List.length_take]; omega); intro v2 w6 ho hb hg hat; have SE := Aside0.mk (DuS.appended S5.out.1 S5.out.2.1 S5.out.2.2.1 S5.out.2.2.2.1 S5.out.2.2.2.2 HW0.out ho HKE.out hg); clear ho hb hg hat))
        go_roundg k1
        case measure => have := HI.out; omega
        case rel => exact ⟨x + 1, _, by first | rfl | simp [hw], rfl, ⟨by omega⟩, ⟨by have := HI.out; omega⟩, ⟨fun j hj hji => (by
            rcases Int.lt_or_le (j : Int) x with e | e
            · exact HA.out j hj e
            · have : j = x.toNat := by have := H0.out; omega
              subst this
              rw [← HRX.out]
              have := HQ.out
              omega)⟩, ⟨by rw [show (x + 1).toNat = x.toNat + 1 by omega]; exact SE.out⟩⟩
end Go.Proofs.Ytljajnednggebaa.P
