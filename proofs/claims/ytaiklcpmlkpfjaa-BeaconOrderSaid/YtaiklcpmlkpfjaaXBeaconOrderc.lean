/- The statement BeaconOrder, proved of the given program; it has no conditions. (Of many texts laid together) -/
import Derived.Test.YtaiklcpmlkpfjaaXBeaconOrdera
import Derived.Test.YtaiklcpmlkpfjaaXBeaconOrderb
set_option linter.unusedVariables false
set_option linter.unusedSimpArgs false
namespace Go.Proofs.Ytaiklcpmlkpfjaa.P
open Go.RowKit Go.Proofs.YtaiklcpmlkpfjaaW.PrintWords Go.Proofs.YtaiklcpmlkpfjaaW.PrintLast Go.Proofs.YtaiklcpmlkpfjaaW.PrintMore
theorem bsF_range (id : Int) (Y : List S59) : ∀ (k : Nat) (i j : Int), i ≤ j → i ≤ bsF id Y k i j ∧ bsF id Y k i j ≤ j := by
  intro k
  induction k with
  | zero => intro i j h; exact ⟨Int.le_refl _, h⟩
  | succ k ih =>
    intro i j h
    simp only [bsF]
    split
    · split
      · have := ih ((i + j) / 2 + 1) j (by omega)
        exact ⟨by omega, this.2⟩
      · have := ih i ((i + j) / 2) (by omega)
        exact ⟨this.1, by omega⟩
    · exact ⟨Int.le_refl _, h⟩
theorem bsAt_range (Y : List S59) (id : Int) : 0 ≤ bsAt Y id ∧ bsAt Y id ≤ Y.length := bsF_range id Y _ _ _ (by omega)
theorem lit1_event {P : Program} {ops : Array Oper} {rest : List Oper} {o : Oper} {a : Act} {Q : Exit → Act → World → Prop} {W : World} (hgd : o.guard = none) {N : Tmp} (_hd : o.dst = some N) {cs : Array Value} {t : TypeId} {n : Nat}
    (hrun : (execOp a.eval o).run P W = .ok (.value (.slice (some ⟨W.heap.size, 0, none⟩) n n)) (W.alloc (.cells cs t (0, 0))))
    (h : ∀ g, g = W.heap.size → ∀ w1, w1.heap[g]? = some (.cells cs t (0, 0)) → Below W.heap.size W w1 → wpList P ops Q rest (a.put o.dst (.slice (some ⟨g, 0, none⟩) n n)) w1) : wpList P ops Q (o :: rest) a W :=
  Kd.event_run hgd hrun (h _ rfl _ (blk_new W _) (below_alloc (Below.refl _ _) _))
theorem ins_ab (A : Option Addr) (c i : Nat) (X : List S59) (id ep : Int) (h : Nat) (w : World) (base : Nat) (hR : k59.R 59 w base (fun _ => True) (.slice A X.length c) X) (hbs : base ≤ w.heap.size) (hv : w.heap[h]? = some (.cells #[.int .i64 id, .int .i64 ep] 59 (0, 0))) (hne : some h ≠ (Value.slice A X.length c).ownBlock) (hl : X.length ≤ 1000000000000) (hi : i ≤ X.length) :
    Calls Try.prog 31 #[.slice A X.length c, .int .i64 i, .slice (some ⟨h, 0, none⟩) 1 1] w fun e w' => ∃ v', e = .returned v' ∧ k59.R 59 w' base (fun _ => True) v' (X.take i ++ ⟨id, ep⟩ :: X.drop i) ∧ w.grownBy w' (Value.slice A X.length c).ownBlock ∧ (v'.ownBlock = (Value.slice A X.length c).ownBlock ∨ ∃ b, v'.ownBlock = some b ∧ w.heap.size ≤ b) :=
  ins_any A c i X ⟨id, ep⟩ h w base hR hbs hv hne hl hi
theorem clone_f {Y : List S59} (h : Y.length ≤ 1000000000000) : slices_CloneE.f Y = some Y := if_pos h
def isAt (Y : List S59) (id : Int) : Bool := decide (bsAt Y id < Y.length) && (bcmp (rd_T59 Y (bsAt Y id)).f0 id == 0)
def withL (Y : List S59) (id ep : Int) : List S59 := if isAt Y id = true then Y.set (bsAt Y id).toNat ⟨(rd_T59 Y (bsAt Y id)).f0, ep⟩ else Y.take (bsAt Y id).toNat ++ ⟨id, ep⟩ :: Y.drop (bsAt Y id).toNat
structure WiSt (w0 w : World) (g3 g6 : Nat) (n : Int) (a u : Value) (Y : List S59) : Prop where
  bl : Below w0.heap.size w0 w
  b3 : w.heap[g3]? = some (.cells #[.int .i64 n, a] 25 (0, 0))
  b6 : w.heap[g6]? = some (.cells #[.int .i64 0, .slice none 0 0] 25 (0, 0))
  row : k59.R 59 w w0.heap.size (fun _ => True) u Y
  n3 : w0.heap.size ≤ g3
  n6 : w0.heap.size ≤ g6
  d : g3 ≠ g6
theorem WiSt.of {w0 w w' : World} {g3 g6 : Nat} {n : Int} {a u5 : Value} {Y : List S59} (hb : Below w0.heap.size w0 w) (b3 : w.heap[g3]? = some (.cells #[.int .i64 n, a] 25 (0, 0))) (b6 : w.heap[g6]? = some (.cells #[.int .i64 0, .slice none 0 0] 25 (0, 0))) (n3 : w0.heap.size ≤ g3) (n6 : w0.heap.size ≤ g6) (d : g3 ≠ g6) (ho : k59.R 59 w' w.heap.size (fun _ => True) u5 Y) (h : Below w.heap.size w w') : WiSt w0 w' g3 g6 n a u5 Y :=
  ⟨below_step hb h, blk_below b3 h, blk_below b6 h, Kd.R_lower ho (below_size hb), n3, n6, d⟩
theorem WiSt.below {w0 w w' : World} {g3 g6 : Nat} {n : Int} {a u : Value} {Y : List S59} (h : WiSt w0 w g3 g6 n a u Y) (hb : Below w.heap.size w w') : WiSt w0 w' g3 g6 n a u Y :=
  ⟨below_step h.bl hb, blk_below h.b3 hb, blk_below h.b6 hb, Kd.R_below h.row hb, h.n3, h.n6, h.d⟩
theorem WiSt.set1 {w0 w : World} {g3 g6 : Nat} {n : Int} {a u : Value} {Y : List S59} (h : WiSt w0 w g3 g6 n a u Y) : WiSt w0 (w.setCell ⟨g3, 1, none⟩ u) g3 g6 n u u Y :=
  ⟨below_set h.bl h.n3, blk_put h.b3 1 _ rfl, blk_far (p := ⟨g3, 1, none⟩) h.b6 h.d.symm _, Kd.R_mono (Kd.R_set h.row h.b3 (by decide) 1 _) (fun _ _ => trivial), h.n3, h.n6, h.d⟩
theorem WiSt.app {w0 w w' : World} {g3 g6 : Nat} {n : Int} {a u u2 : Value} {Y Y2 : List S59} (h : WiSt w0 w g3 g6 n a u Y) (hr : k59.R 59 w' w0.heap.size (fun _ => True) u2 Y2) (hg : w.grownBy w' u.ownBlock) : WiSt w0 w' g3 g6 n a u2 Y2 :=
  ⟨pw_below_grown h.bl u.ownBlock (below_size h.bl) hg (fun k hk => Kd.R_base h.row k hk), blk_grown h.b3 hg (Kd.R_ne h.row h.b3 (by decide)), blk_grown h.b6 hg (Kd.R_ne h.row h.b6 (by decide)), hr, h.n3, h.n6, h.d⟩
theorem flat_set (X : List S59) (k : Nat) (y : S59) (h : k < X.length) (h0 : y.f0 = (X[k]).f0) : flat (X.set k y) = (flat X).set (k * 2 + 1) (.int .i64 y.f1) := by
  induction X generalizing k with
  | nil => simp at h
  | cons x r ih =>
    cases k with
    | zero =>
      simp only [List.getElem_cons_zero] at h0
      simp [flat, fl, h0]
    | succ k =>
      have := ih k (by simpa using h) (by simpa using h0)
      simp only [flat, List.flatMap_cons, fl, List.cons_append, List.nil_append, List.set_cons_succ] at this ⊢
      rw [this, show (k + 1) * 2 = k * 2 + 1 + 1 by omega]
      simp
theorem own_put1 {w : World} {base : Nat} {g c : Nat} {X : List S59} {k : Nat} (hR : k59.R 59 w base (fun _ => True) (.slice (some ⟨g, 0, none⟩) X.length c) X) (hk : k < X.length) (y : S59) (h0 : y.f0 = (X[k]).f0) :
    w.cell? ⟨g, k * 2 + 1, none⟩ = some (.int .i64 (X[k]).f1) ∧ w.frozen? ⟨g, k * 2 + 1, none⟩ = false ∧ k59.R 59 (w.setCell ⟨g, k * 2 + 1, none⟩ (.int .i64 y.f1)) base (fun _ => True) (.slice (some ⟨g, 0, none⟩) X.length c) (X.set k y) ∧ w.grownBy (w.setCell ⟨g, k * 2 + 1, none⟩ (.int .i64 y.f1)) (some g) := by
  obtain ⟨cur, hb, hh, _, hnc, hcm, hcs, ht⟩ := own_parts hR
  refine ⟨?_, blk_frozen hh _, ?_, ?_⟩
  · have h1 : (flat X)[k * 2 + 1]? = some (.int .i64 (X[k]).f1) := by
      have := flat_drop X k
      have h2 : (flat X)[k * 2 + 1]? = ((flat X).drop (k * 2))[1]? := by rw [List.getElem?_drop]
      rw [h2, this, List.drop_eq_getElem_cons hk]
      rfl
    rw [← ht, List.getElem?_take] at h1
    split at h1
    · simpa [World.cell?, hh] using h1
    · cases h1
  · have e : (w.setCell ⟨g, k * 2 + 1, none⟩ (.int .i64 y.f1)).heap[g]? = some (.cells (cur.set (k * 2 + 1) (.int .i64 y.f1)).toArray 59 (0, 0)) := blk_put hh _ _ (by simp)
    refine parts_own hb e (by rw [List.length_set]) hnc hcm (by rw [List.length_set]; exact hcs) ?_
    rw [List.length_set, List.take_set, ht, flat_set X k y hk h0]
  · exact ⟨rfl, rfl, rfl, by simp, fun q _ hq => Below.heap_setCell w ⟨g, k * 2 + 1, none⟩ _ q (fun e => hq (by rw [e]))⟩
set_option maxHeartbeats 8000000 in
set_option maxRecDepth 100000 in
theorem wi_bad (n : Int) (A : Option Addr) (c : Nat) (Y : List S59) (id ep : Int) (w : World) (hr : k59.C w A Y.length Y) (hc : Y.length ≤ c) (K : Nat) (hK : beacon_Check.f K n Y = some 1) :
    Calls Try.prog 14 #[.agg #[.int .i64 n, .slice A Y.length c], .int .i64 id, .int .i64 ep] w fun e w' => ∃ v1_ : Value, e = .returned (.tuple #[.agg #[.int .i64 0, v1_], .int .i64 1]) ∧ k59.R 59 w' w.heap.size (fun _ => True) v1_ [] ∧ Below w.heap.size w w' := by
  have hu25 := Try.underlying25
  have HR := Aside0.mk hr
  have HC := Aside0.mk hc
  have HK := Aside0.mk hK
  clear hr hc hK
  go_enter Try.func14, Try.ntmps14
  go_wp2_with (first
    | ((with_reducible refine gate_dst (N := 3) rfl ?_); refine box_event ?hg (N := 3) ?hd (cs := #[.int .i64 n, .slice A Y.length c]) (t := 25) ?hr ?_; (case hd => rfl); (case hg => rfl); (case hr => first | (go_simp; done) | (go_simp; rfl)); intro g3 hg w3 hbox hb; have HB3 := Aside0.mk hb; have G3 := Aside0.mk (Nat.le_of_eq hg.symm); have B3 := Aside0.mk hbox; clear hb hbox hg)
    | ((with_reducible refine gate_dst (N := 6) rfl ?_); refine box_event ?hg (N := 6) ?hd (cs := #[.int .i64 0, .slice none 0 0]) (t := 25) ?hr ?_; (case hd => rfl); (case hg => rfl); (case hr => first | (go_simp; done) | (go_simp; rfl)); intro g6 hg w6 hbox hb; have HB6 := Aside0.mk (below_step HB3.out hb); have G6 := Aside0.mk (show w.heap.size ≤ g6 by rw [hg]; exact below_size HB3.out); have D6 := Aside0.mk (show g3 ≠ g6 by rw [hg]; exact Nat.ne_of_lt (blk_lt B3.out)); have B36 := Aside0.mk (blk_below B3.out hb); have B66 := Aside0.mk hbox; clear hb hbox hg; have u0 := (blk_cell B36.out 0).trans rfl; have u1 := (blk_cell B36.out 1).trans rfl)
    | (go_at_call 22; (with_reducible refine (beacon_Check.calls K n A c Y 1 _ (Kd.C_below HR.out HB6.out) HC.out HK.out).mono ?_); rintro x_ ws ⟨rfl, hb⟩; have HB7 := Aside0.mk (below_step HB6.out hb); have B37 := Aside0.mk (blk_below B36.out hb); have B67 := Aside0.mk (blk_below B66.out hb); clear hb; have v0 := (blk_cell B37.out 0).trans rfl; have v1 := (blk_cell B37.out 1).trans rfl; have vf0 := blk_frozen B37.out 0; have vf1 := blk_frozen B37.out 1; have y0 := (blk_cell B67.out 0).trans rfl; have y1 := (blk_cell B67.out 1).trans rfl; have yf0 := blk_frozen B67.out 0; have yf1 := blk_frozen B67.out 1))
  refine bodyPost_ret (results_ct rfl _ _ g6 25 #[.int .i64 0, .slice none 0 0] (0, 0) _ rfl (blk_put (blk_put (B67.out) 0 (.int .i64 0) (cs' := #[.int .i64 0, .slice none 0 0]) rfl) 1 (.slice none 0 0) (cs' := #[.int .i64 0, .slice none 0 0]) rfl) Try.underlying25 rfl (by kernel_rfl)) rfl ?_
  exact ⟨_, rfl, Kd.R_nil _ _ _ _ _, below_set (below_set HB7.out G6.out) G6.out⟩
set_option maxHeartbeats 8000000 in
set_option maxRecDepth 100000 in
theorem wi_no (n : Int) (A : Option Addr) (c : Nat) (Y : List S59) (id ep : Int) (w : World) (hr : k59.C w A Y.length Y) (hc : Y.length ≤ c) (K : Nat) (hK : beacon_Check.f K n Y = some 0) (hq : id < 0 ∨ (¬ id < 0 ∧ id ≥ 64)) :
    Calls Try.prog 14 #[.agg #[.int .i64 n, .slice A Y.length c], .int .i64 id, .int .i64 ep] w fun e w' => ∃ v1_ : Value, e = .returned (.tuple #[.agg #[.int .i64 0, v1_], .int .i64 1]) ∧ k59.R 59 w' w.heap.size (fun _ => True) v1_ [] ∧ Below w.heap.size w w' := by
  have hu25 := Try.underlying25
  have HR := Aside0.mk hr
  have HC := Aside0.mk hc
  have HK := Aside0.mk hK
  clear hr hc hK
  rcases hq with h1 | ⟨h1, h2⟩
  · have d1 : decide (id < 0) = true := decide_eq_true h1
    clear h1
    go_enter Try.func14, Try.ntmps14
    go_wp2_with (first
      | ((with_reducible refine gate_dst (N := 3) rfl ?_); refine box_event ?hg (N := 3) ?hd (cs := #[.int .i64 n, .slice A Y.length c]) (t := 25) ?hr ?_; (case hd => rfl); (case hg => rfl); (case hr => first | (go_simp; done) | (go_simp; rfl)); intro g3 hg w3 hbox hb; have HB3 := Aside0.mk hb; have G3 := Aside0.mk (Nat.le_of_eq hg.symm); have B3 := Aside0.mk hbox; clear hb hbox hg)
      | ((with_reducible refine gate_dst (N := 6) rfl ?_); refine box_event ?hg (N := 6) ?hd (cs := #[.int .i64 0, .slice none 0 0]) (t := 25) ?hr ?_; (case hd => rfl); (case hg => rfl); (case hr => first | (go_simp; done) | (go_simp; rfl)); intro g6 hg w6 hbox hb; have HB6 := Aside0.mk (below_step HB3.out hb); have G6 := Aside0.mk (show w.heap.size ≤ g6 by rw [hg]; exact below_size HB3.out); have D6 := Aside0.mk (show g3 ≠ g6 by rw [hg]; exact Nat.ne_of_lt (blk_lt B3.out)); have B36 := Aside0.mk (blk_below B3.out hb); have B66 := Aside0.mk hbox; clear hb hbox hg; have u0 := (blk_cell B36.out 0).trans rfl; have u1 := (blk_cell B36.out 1).trans rfl)
      | (go_at_call 22; (with_reducible refine (beacon_Check.calls K n A c Y 0 _ (Kd.C_below HR.out HB6.out) HC.out HK.out).mono ?_); rintro x_ ws ⟨rfl, hb⟩; have HB7 := Aside0.mk (below_step HB6.out hb); have B37 := Aside0.mk (blk_below B36.out hb); have B67 := Aside0.mk (blk_below B66.out hb); clear hb; have v0 := (blk_cell B37.out 0).trans rfl; have v1 := (blk_cell B37.out 1).trans rfl; have vf0 := blk_frozen B37.out 0; have vf1 := blk_frozen B37.out 1; have y0 := (blk_cell B67.out 0).trans rfl; have y1 := (blk_cell B67.out 1).trans rfl; have yf0 := blk_frozen B67.out 0; have yf1 := blk_frozen B67.out 1))
    refine bodyPost_ret (results_ct rfl _ _ g6 25 #[.int .i64 0, .slice none 0 0] (0, 0) _ rfl (blk_put (blk_put (B67.out) 0 (.int .i64 0) (cs' := #[.int .i64 0, .slice none 0 0]) rfl) 1 (.slice none 0 0) (cs' := #[.int .i64 0, .slice none 0 0]) rfl) Try.underlying25 rfl (by kernel_rfl)) rfl ?_
    exact ⟨_, rfl, Kd.R_nil _ _ _ _ _, below_set (below_set HB7.out G6.out) G6.out⟩
  · have d1 : decide (id < 0) = false := decide_eq_false h1
    have d2 : decide (id ≥ 64) = true := decide_eq_true h2
    clear h1 h2
    go_enter Try.func14, Try.ntmps14
    go_wp2_with (first
      | ((with_reducible refine gate_dst (N := 3) rfl ?_); refine box_event ?hg (N := 3) ?hd (cs := #[.int .i64 n, .slice A Y.length c]) (t := 25) ?hr ?_; (case hd => rfl); (case hg => rfl); (case hr => first | (go_simp; done) | (go_simp; rfl)); intro g3 hg w3 hbox hb; have HB3 := Aside0.mk hb; have G3 := Aside0.mk (Nat.le_of_eq hg.symm); have B3 := Aside0.mk hbox; clear hb hbox hg)
      | ((with_reducible refine gate_dst (N := 6) rfl ?_); refine box_event ?hg (N := 6) ?hd (cs := #[.int .i64 0, .slice none 0 0]) (t := 25) ?hr ?_; (case hd => rfl); (case hg => rfl); (case hr => first | (go_simp; done) | (go_simp; rfl)); intro g6 hg w6 hbox hb; have HB6 := Aside0.mk (below_step HB3.out hb); have G6 := Aside0.mk (show w.heap.size ≤ g6 by rw [hg]; exact below_size HB3.out); have D6 := Aside0.mk (show g3 ≠ g6 by rw [hg]; exact Nat.ne_of_lt (blk_lt B3.out)); have B36 := Aside0.mk (blk_below B3.out hb); have B66 := Aside0.mk hbox; clear hb hbox hg; have u0 := (blk_cell B36.out 0).trans rfl; have u1 := (blk_cell B36.out 1).trans rfl)
      | (go_at_call 22; (with_reducible refine (beacon_Check.calls K n A c Y 0 _ (Kd.C_below HR.out HB6.out) HC.out HK.out).mono ?_); rintro x_ ws ⟨rfl, hb⟩; have HB7 := Aside0.mk (below_step HB6.out hb); have B37 := Aside0.mk (blk_below B36.out hb); have B67 := Aside0.mk (blk_below B66.out hb); clear hb; have v0 := (blk_cell B37.out 0).trans rfl; have v1 := (blk_cell B37.out 1).trans rfl; have vf0 := blk_frozen B37.out 0; have vf1 := blk_frozen B37.out 1; have y0 := (blk_cell B67.out 0).trans rfl; have y1 := (blk_cell B67.out 1).trans rfl; have yf0 := blk_frozen B67.out 0; have yf1 := blk_frozen B67.out 1))
    refine bodyPost_ret (results_ct rfl _ _ g6 25 #[.int .i64 0, .slice none 0 0] (0, 0) _ rfl (blk_put (blk_put (B67.out) 0 (.int .i64 0) (cs' := #[.int .i64 0, .slice none 0 0]) rfl) 1 (.slice none 0 0) (cs' := #[.int .i64 0, .slice none 0 0]) rfl) Try.underlying25 rfl (by kernel_rfl)) rfl ?_
    exact ⟨_, rfl, Kd.R_nil _ _ _ _ _, below_set (below_set HB7.out G6.out) G6.out⟩
set_option maxHeartbeats 8000000 in
set_option maxRecDepth 100000 in
theorem wi_no2 (n : Int) (A : Option Addr) (c : Nat) (Y : List S59) (id ep : Int) (w : World) (hr : k59.C w A Y.length Y) (hc : Y.length ≤ c) (K : Nat) (hK : beacon_Check.f K n Y = some 0) (h1 : ¬ id < 0) (h2 : ¬ id ≥ 64) (hE : beacon_epoch.f ep = some false) :
    Calls Try.prog 14 #[.agg #[.int .i64 n, .slice A Y.length c], .int .i64 id, .int .i64 ep] w fun e w' => ∃ v1_ : Value, e = .returned (.tuple #[.agg #[.int .i64 0, v1_], .int .i64 1]) ∧ k59.R 59 w' w.heap.size (fun _ => True) v1_ [] ∧ Below w.heap.size w w' := by
  have hu25 := Try.underlying25
  have HR := Aside0.mk hr
  have HC := Aside0.mk hc
  have HK := Aside0.mk hK
  have HE := Aside0.mk hE
  have d1 : decide (id < 0) = false := decide_eq_false h1
  have d2 : decide (id ≥ 64) = false := decide_eq_false h2
  clear hr hc hK h1 h2 hE
  go_enter Try.func14, Try.ntmps14
  go_wp2_with (first
    | ((with_reducible refine gate_dst (N := 3) rfl ?_); refine box_event ?hg (N := 3) ?hd (cs := #[.int .i64 n, .slice A Y.length c]) (t := 25) ?hr ?_; (case hd => rfl); (case hg => rfl); (case hr => first | (go_simp; done) | (go_simp; rfl)); intro g3 hg w3 hbox hb; have HB3 := Aside0.mk hb; have G3 := Aside0.mk (Nat.le_of_eq hg.symm); have B3 := Aside0.mk hbox; clear hb hbox hg)
    | ((with_reducible refine gate_dst (N := 6) rfl ?_); refine box_event ?hg (N := 6) ?hd (cs := #[.int .i64 0, .slice none 0 0]) (t := 25) ?hr ?_; (case hd => rfl); (case hg => rfl); (case hr => first | (go_simp; done) | (go_simp; rfl)); intro g6 hg w6 hbox hb; have HB6 := Aside0.mk (below_step HB3.out hb); have G6 := Aside0.mk (show w.heap.size ≤ g6 by rw [hg]; exact below_size HB3.out); have D6 := Aside0.mk (show g3 ≠ g6 by rw [hg]; exact Nat.ne_of_lt (blk_lt B3.out)); have B36 := Aside0.mk (blk_below B3.out hb); have B66 := Aside0.mk hbox; clear hb hbox hg; have u0 := (blk_cell B36.out 0).trans rfl; have u1 := (blk_cell B36.out 1).trans rfl)
    | (go_at_call 22; (with_reducible refine (beacon_Check.calls K n A c Y 0 _ (Kd.C_below HR.out HB6.out) HC.out HK.out).mono ?_); rintro x_ ws ⟨rfl, hb⟩; have HB7 := Aside0.mk (below_step HB6.out hb); have B37 := Aside0.mk (blk_below B36.out hb); have B67 := Aside0.mk (blk_below B66.out hb); clear hb; have v0 := (blk_cell B37.out 0).trans rfl; have v1 := (blk_cell B37.out 1).trans rfl; have vf0 := blk_frozen B37.out 0; have vf1 := blk_frozen B37.out 1; have y0 := (blk_cell B67.out 0).trans rfl; have y1 := (blk_cell B67.out 1).trans rfl; have yf0 := blk_frozen B67.out 0; have yf1 := blk_frozen B67.out 1)
    | (go_at_call 28; (with_reducible refine (beacon_epoch.calls ep _ _ HE.out).mono ?_); rintro x_ ws2 ⟨rfl, hd⟩; obtain ⟨nd, rfl⟩ := hd.out; clear hd))
  refine bodyPost_ret (results_ct rfl _ _ g6 25 #[.int .i64 0, .slice none 0 0] (0, 0) _ rfl (blk_put (blk_put ((B67.out : ws.heap[g6]? = _)) 0 (.int .i64 0) (cs' := #[.int .i64 0, .slice none 0 0]) rfl) 1 (.slice none 0 0) (cs' := #[.int .i64 0, .slice none 0 0]) rfl) Try.underlying25 rfl (by kernel_rfl)) rfl ?_
  exact ⟨_, rfl, Kd.R_nil _ _ _ _ _, below_set (below_set (pw_below_drewN HB7.out nd) G6.out) G6.out⟩
end Go.Proofs.Ytaiklcpmlkpfjaa.P
namespace Go.Proofs.Ytaiklcpmlkpfjaa.P
open Go.RowKit Go.Proofs.YtaiklcpmlkpfjaaW.PrintWords Go.Proofs.YtaiklcpmlkpfjaaW.PrintLast Go.Proofs.YtaiklcpmlkpfjaaW.PrintMore
theorem R_some {w : World} {base : Nat} {ok : Nat → Prop} {v : Value} {X : List S59} (h : k59.R 59 w base ok v X) : ∃ A m c, v = .slice A m c := by
  obtain ⟨A, c, e, _⟩ := Kd.R_reads h
  exact ⟨A, _, c, e⟩
set_option maxHeartbeats 8000000 in
set_option maxRecDepth 100000 in
theorem wi_set (n : Int) (A : Option Addr) (c : Nat) (Y : List S59) (id ep : Int) (w : World) (hr : k59.C w A Y.length Y) (hc : Y.length ≤ c) (hl : Y.length ≤ 1000000000000) (K : Nat) (hK : beacon_Check.f K n Y = some 0) (h1 : ¬ id < 0) (h2 : ¬ id ≥ 64) (hE : beacon_epoch.f ep = some true) (k : Nat) (hP : beacon_place.f n Y id = some ((k : Int), true)) (hk : k < Y.length) :
    Calls Try.prog 14 #[.agg #[.int .i64 n, .slice A Y.length c], .int .i64 id, .int .i64 ep] w fun e w' => ∃ v1_ : Value, e = .returned (.tuple #[.agg #[.int .i64 n, v1_], .int .i64 0]) ∧ k59.R 59 w' w.heap.size (fun _ => True) v1_ (Y.set k ⟨(Y[k]).f0, ep⟩) ∧ Below w.heap.size w w' := by
  have hu25 := Try.underlying25
  have HR := Aside0.mk hr
  have HC := Aside0.mk hc
  have HK := Aside0.mk hK
  have HE := Aside0.mk hE
  have HCL := Aside0.mk hl
  have HP := Aside0.mk hP
  have HK2 := Aside0.mk hk
  have d1 : decide (id < 0) = false := decide_eq_false h1
  have d2 : decide (id ≥ 64) = false := decide_eq_false h2
  have p1 : (k : Int) < (Y.length : Int) := by omega
  clear hr hc hK h1 h2 hE hl hP
  go_enter Try.func14, Try.ntmps14
  go_wp2_with (first
    | ((with_reducible refine gate_dst (N := 3) rfl ?_); refine box_event ?hg (N := 3) ?hd (cs := #[.int .i64 n, .slice A Y.length c]) (t := 25) ?hr ?_; (case hd => rfl); (case hg => rfl); (case hr => first | (go_simp; done) | (go_simp; rfl)); intro g3 hg w3 hbox hb; have HB3 := Aside0.mk hb; have G3 := Aside0.mk (Nat.le_of_eq hg.symm); have B3 := Aside0.mk hbox; clear hb hbox hg)
    | ((with_reducible refine gate_dst (N := 6) rfl ?_); refine box_event ?hg (N := 6) ?hd (cs := #[.int .i64 0, .slice none 0 0]) (t := 25) ?hr ?_; (case hd => rfl); (case hg => rfl); (case hr => first | (go_simp; done) | (go_simp; rfl)); intro g6 hg w6 hbox hb; have HB6 := Aside0.mk (below_step HB3.out hb); have G6 := Aside0.mk (show w.heap.size ≤ g6 by rw [hg]; exact below_size HB3.out); have D6 := Aside0.mk (show g3 ≠ g6 by rw [hg]; exact Nat.ne_of_lt (blk_lt B3.out)); have B36 := Aside0.mk (blk_below B3.out hb); have B66 := Aside0.mk hbox; clear hb hbox hg; have u0 := (blk_cell B36.out 0).trans rfl; have u1 := (blk_cell B36.out 1).trans rfl)
    | (go_at_call 22; (with_reducible refine (beacon_Check.calls K n A c Y 0 _ (Kd.C_below HR.out HB6.out) HC.out HK.out).mono ?_); rintro x_ ws ⟨rfl, hb⟩; have HB7 := Aside0.mk (below_step HB6.out hb); have B37 := Aside0.mk (blk_below B36.out hb); have B67 := Aside0.mk (blk_below B66.out hb); clear hb; have v0 := (blk_cell B37.out 0).trans rfl; have v1 := (blk_cell B37.out 1).trans rfl; have vf0 := blk_frozen B37.out 0; have vf1 := blk_frozen B37.out 1; have y0 := (blk_cell B67.out 0).trans rfl; have y1 := (blk_cell B67.out 1).trans rfl; have yf0 := blk_frozen B67.out 0; have yf1 := blk_frozen B67.out 1)
    | (go_at_call 28; (with_reducible refine (beacon_epoch.calls ep _ _ HE.out).mono ?_); rintro x_ ws2 ⟨rfl, hd⟩; obtain ⟨nd, rfl⟩ := hd.out; clear hd)
    | (go_at_call 29; (with_reducible refine (slices_CloneE.calls A c Y Y _ (Kd.C_below HR.out (pw_below_drewN HB7.out nd)) (clone_f HCL.out)).mono ?_); rintro x_ w8 ⟨u5, rfl, ho, hb⟩; obtain ⟨g5, c5, rfl, _, _, _⟩ := Kd.R_form ho (Nat.lt_of_le_of_lt (Nat.zero_le k) HK2.out); have ST := Aside0.mk (WiSt.of (pw_below_drewN HB7.out nd) (blk_drewN B37.out nd) (blk_drewN B67.out nd) G3.out G6.out D6.out ho hb (u5 := .slice (some ⟨g5, 0, none⟩) Y.length c5)); clear hb ho; have v0 := (blk_cell ST.out.b3 0).trans rfl; have v1 := (blk_cell ST.out.b3 1).trans rfl; have vf1 := blk_frozen ST.out.b3 1; have ST1 := Aside0.mk ST.out.set1)
    | (go_at_call 30; (with_reducible refine (beacon_place.calls n (some ⟨g5, 0, none⟩) c5 Y id k true _ (Kd.R_reads' ST1.out.row).2.2 (Kd.R_reads' ST1.out.row).2.1 HP.out).mono ?_); rintro x_ w9 ⟨rfl, hb⟩; have ST2 := Aside0.mk (ST1.out.below hb); clear hb; obtain ⟨q0, q1, hq2, hq3⟩ := own_put1 ST2.out.row HK2.out ⟨(Y[k]'HK2.out).f0, ep⟩ rfl; have ST3 := Aside0.mk (ST2.out.app hq2 hq3); clear hq2 hq3; have x0 := (blk_cell ST2.out.b3 0).trans rfl; have x1 := (blk_cell ST2.out.b3 1).trans rfl; have y0 := (blk_cell ST2.out.b6 0).trans rfl; have y1 := (blk_cell ST2.out.b6 1).trans rfl; have yf0 := blk_frozen ST2.out.b6 0; have yf1 := blk_frozen ST2.out.b6 1; have n5 : ¬ (g3 = g5) := fun e => Kd.R_ne ST2.out.row ST2.out.b3 (by decide) (congrArg some e); have n65 : ¬ (g6 = g5) := fun e => Kd.R_ne ST2.out.row ST2.out.b6 (by decide) (congrArg some e)))
  refine bodyPost_ret (results_ct rfl _ _ g6 25 #[.int .i64 n, .slice (some ⟨g5, 0, none⟩) Y.length c5] (0, 0) _ rfl (blk_put (blk_put ST3.out.b6 0 (.int .i64 n) (cs' := #[.int .i64 n, .slice none 0 0]) rfl) 1 (.slice (some ⟨g5, 0, none⟩) Y.length c5) (cs' := #[.int .i64 n, .slice (some ⟨g5, 0, none⟩) Y.length c5]) rfl) Try.underlying25 rfl (by kernel_rfl)) rfl ?_
  exact ⟨_, rfl, Kd.R_mono (Kd.R_far (p := ⟨g6, 1, none⟩) (Kd.R_far (p := ⟨g6, 0, none⟩) (Kd.R_types ST3.out.row ST3.out.b6 (by decide)) (fun _ hk => hk.2) _) (fun _ hk => hk.2) _) (fun _ _ => trivial), below_set (below_set ST3.out.bl ST3.out.n6) ST3.out.n6⟩
set_option maxHeartbeats 8000000 in
set_option maxRecDepth 100000 in
theorem wi_ins (n : Int) (A : Option Addr) (c : Nat) (Y : List S59) (id ep : Int) (w : World) (hr : k59.C w A Y.length Y) (hc : Y.length ≤ c) (hl : Y.length ≤ 1000000000000) (K : Nat) (hK : beacon_Check.f K n Y = some 0) (h1 : ¬ id < 0) (h2 : ¬ id ≥ 64) (hE : beacon_epoch.f ep = some true) (k : Nat) (hP : beacon_place.f n Y id = some ((k : Int), false)) (hk : k ≤ Y.length) :
    Calls Try.prog 14 #[.agg #[.int .i64 n, .slice A Y.length c], .int .i64 id, .int .i64 ep] w fun e w' => ∃ v1_ : Value, e = .returned (.tuple #[.agg #[.int .i64 n, v1_], .int .i64 0]) ∧ k59.R 59 w' w.heap.size (fun _ => True) v1_ (Y.take k ++ ⟨id, ep⟩ :: Y.drop k) ∧ Below w.heap.size w w' := by
  have hu25 := Try.underlying25
  have HR := Aside0.mk hr
  have HC := Aside0.mk hc
  have HK := Aside0.mk hK
  have HE := Aside0.mk hE
  have HCL := Aside0.mk hl
  have HP := Aside0.mk hP
  have HK2 := Aside0.mk hk
  have d1 : decide (id < 0) = false := decide_eq_false h1
  have d2 : decide (id ≥ 64) = false := decide_eq_false h2
  clear hr hc hK h1 h2 hE hl hP hk
  go_enter Try.func14, Try.ntmps14
  go_wp2_with (first
    | ((with_reducible refine gate_dst (N := 3) rfl ?_); refine box_event ?hg (N := 3) ?hd (cs := #[.int .i64 n, .slice A Y.length c]) (t := 25) ?hr ?_; (case hd => rfl); (case hg => rfl); (case hr => first | (go_simp; done) | (go_simp; rfl)); intro g3 hg w3 hbox hb; have HB3 := Aside0.mk hb; have G3 := Aside0.mk (Nat.le_of_eq hg.symm); have B3 := Aside0.mk hbox; clear hb hbox hg)
    | ((with_reducible refine gate_dst (N := 6) rfl ?_); refine box_event ?hg (N := 6) ?hd (cs := #[.int .i64 0, .slice none 0 0]) (t := 25) ?hr ?_; (case hd => rfl); (case hg => rfl); (case hr => first | (go_simp; done) | (go_simp; rfl)); intro g6 hg w6 hbox hb; have HB6 := Aside0.mk (below_step HB3.out hb); have G6 := Aside0.mk (show w.heap.size ≤ g6 by rw [hg]; exact below_size HB3.out); have D6 := Aside0.mk (show g3 ≠ g6 by rw [hg]; exact Nat.ne_of_lt (blk_lt B3.out)); have B36 := Aside0.mk (blk_below B3.out hb); have B66 := Aside0.mk hbox; clear hb hbox hg; have u0 := (blk_cell B36.out 0).trans rfl; have u1 := (blk_cell B36.out 1).trans rfl)
    | (go_at_call 22; (with_reducible refine (beacon_Check.calls K n A c Y 0 _ (Kd.C_below HR.out HB6.out) HC.out HK.out).mono ?_); rintro x_ ws ⟨rfl, hb⟩; have HB7 := Aside0.mk (below_step HB6.out hb); have B37 := Aside0.mk (blk_below B36.out hb); have B67 := Aside0.mk (blk_below B66.out hb); clear hb; have v0 := (blk_cell B37.out 0).trans rfl; have v1 := (blk_cell B37.out 1).trans rfl; have vf0 := blk_frozen B37.out 0; have vf1 := blk_frozen B37.out 1; have y0 := (blk_cell B67.out 0).trans rfl; have y1 := (blk_cell B67.out 1).trans rfl; have yf0 := blk_frozen B67.out 0; have yf1 := blk_frozen B67.out 1)
    | (go_at_call 28; (with_reducible refine (beacon_epoch.calls ep _ _ HE.out).mono ?_); rintro x_ ws2 ⟨rfl, hd⟩; obtain ⟨nd, rfl⟩ := hd.out; clear hd)
    | (go_at_call 29; (with_reducible refine (slices_CloneE.calls A c Y Y _ (Kd.C_below HR.out (pw_below_drewN HB7.out nd)) (clone_f HCL.out)).mono ?_); rintro x_ w8 ⟨u5, rfl, ho, hb⟩; obtain ⟨A5, c5, rfl, _, _⟩ := Kd.R_reads ho; have ST := Aside0.mk (WiSt.of (pw_below_drewN HB7.out nd) (blk_drewN B37.out nd) (blk_drewN B67.out nd) G3.out G6.out D6.out ho hb (u5 := .slice A5 Y.length c5)); clear hb ho; have v0 := (blk_cell ST.out.b3 0).trans rfl; have v1 := (blk_cell ST.out.b3 1).trans rfl; have vf1 := blk_frozen ST.out.b3 1; have ST1 := Aside0.mk ST.out.set1)
    | (go_at_call 30; (with_reducible refine (beacon_place.calls n A5 c5 Y id k false _ (Kd.R_reads' ST1.out.row).2.2 (Kd.R_reads' ST1.out.row).2.1 HP.out).mono ?_); rintro x_ w9 ⟨rfl, hb⟩; have ST2 := Aside0.mk (ST1.out.below hb); clear hb; have x0 := (blk_cell ST2.out.b3 0).trans rfl; have x1 := (blk_cell ST2.out.b3 1).trans rfl)
    | ((with_reducible refine gate_dst (N := 52) rfl ?_); refine lit1_event ?hg (N := 52) ?hd (cs := #[.int .i64 id, .int .i64 ep]) (t := 59) (n := 1) ?hr ?_; (case hd => rfl); (case hg => rfl); (case hr => first | (go_simp; done) | (go_simp; rfl)); intro g52 hg w52 hbox hb; have NE52 := Aside0.mk (show some g52 ≠ (Value.slice A5 Y.length c5).ownBlock by rw [hg]; exact Kd.R_ne_new ST2.out.row 0); have B52 := Aside0.mk hbox; have ST3 := Aside0.mk (ST2.out.below hb); clear hb hbox hg)
    | (go_at_call 31; (with_reducible refine (ins_ab A5 c5 k Y id ep g52 w52 w.heap.size ST3.out.row (below_size ST3.out.bl) B52.out NE52.out HCL.out HK2.out).mono ?_); rintro x_ w10 ⟨u6, rfl, ho, hg, _⟩; obtain ⟨A6, m6, c6, rfl⟩ := R_some ho; have ST4 := Aside0.mk (ST3.out.app ho hg); clear ho hg; have x0 := (blk_cell ST4.out.b3 0).trans rfl; have x1 := (blk_cell ST4.out.b3 1).trans rfl; have xf1 := blk_frozen ST4.out.b3 1; have y0 := (blk_cell ST4.out.b6 0).trans rfl; have y1 := (blk_cell ST4.out.b6 1).trans rfl; have yf0 := blk_frozen ST4.out.b6 0; have yf1 := blk_frozen ST4.out.b6 1; have n63 : ¬ (g6 = g3) := fun e => ST4.out.d e.symm; have ST5 := Aside0.mk ST4.out.set1))
  refine bodyPost_ret (results_ct rfl _ _ g6 25 #[.int .i64 n, (.slice A6 m6 c6)] (0, 0) _ rfl (blk_put (blk_put ST5.out.b6 0 (.int .i64 n) (cs' := #[.int .i64 n, .slice none 0 0]) rfl) 1 (.slice A6 m6 c6) (cs' := #[.int .i64 n, (.slice A6 m6 c6)]) rfl) Try.underlying25 rfl (by kernel_rfl)) rfl ?_
  exact ⟨_, rfl, Kd.R_mono (Kd.R_far (p := ⟨g6, 1, none⟩) (Kd.R_far (p := ⟨g6, 0, none⟩) (Kd.R_types ST5.out.row ST5.out.b6 (by decide)) (fun _ hk => hk.2) _) (fun _ hk => hk.2) _) (fun _ _ => trivial), below_set (below_set ST5.out.bl ST5.out.n6) ST5.out.n6⟩
def beacon_With.f (n : Int) (Y : List S59) (id ep : Int) : Option (Int × List S59 × Int) := if Y.length ≤ 1000000000000 then (if rbB n Y = true ∧ 0 ≤ id ∧ id < 64 ∧ 0 ≤ ep ∧ ep ≤ 4294967295 then some (n, withL Y id ep, 0) else some (0, [], 1)) else none
open Classical in
theorem beacon_With.calls (a0_0 : Int) (A0_1 : Option Addr) (c0_1 : Nat) (l0_1 : List S59) (a1 a2 r1 : Int) (r2 : List S59) (r3 : Int) (w : World) (hr0_1 : Kd.C k59 w A0_1 l0_1.length l0_1) (hc0_1 : l0_1.length ≤ c0_1) (h : beacon_With.f a0_0 l0_1 a1 a2 = some (r1, r2, r3)) :
    Calls Try.prog 14 #[.agg #[.int .i64 a0_0, .slice A0_1 l0_1.length c0_1], .int .i64 a1, .int .i64 a2] w fun e w' => ∃ v1_ : Value, e = .returned (.tuple #[.agg #[.int .i64 r1, v1_], .int .i64 r3]) ∧ Kd.R k59 59 w' w.heap.size (fun _ => True) v1_ r2 ∧ Below w.heap.size w w' := by
  unfold beacon_With.f at h
  split at h
  · rename_i hl
    obtain ⟨K, hK⟩ := bncheck_ev a0_0 l0_1 hl
    have hK0 := hK K (Nat.le_refl _)
    by_cases hR : RBn a0_0 l0_1
    · rw [if_pos hR] at hK0
      split at h
      · rename_i hc
        obtain ⟨_, h1, h2, h3, h4⟩ := hc
        simp only [Option.some.injEq, Prod.mk.injEq] at h
        obtain ⟨rfl, rfl, rfl⟩ := h
        have hE : beacon_epoch.f a2 = some true := (bepoch_eq a2).trans (congrArg some (decide_eq_true ⟨h3, h4⟩))
        obtain ⟨p0, p1⟩ := bsAt_range l0_1 a1
        obtain ⟨k, hk⟩ := Int.eq_ofNat_of_zero_le p0
        have hP : beacon_place.f a0_0 l0_1 a1 = some ((k : Int), isAt l0_1 a1) := by
          unfold beacon_place.f isAt
          rw [if_pos hl, hk]
        by_cases hq : isAt l0_1 a1 = true
        · rw [hq] at hP
          have hk2 : k < l0_1.length := by
            unfold isAt at hq
            simp only [Bool.and_eq_true, decide_eq_true_eq] at hq
            omega
          have e : withL l0_1 a1 a2 = l0_1.set k ⟨(l0_1[k]).f0, a2⟩ := by
            unfold withL
            rw [if_pos hq, hk, Int.toNat_natCast]
            unfold rd_T59
            rw [Int.toNat_natCast, List.getD_eq_getElem?_getD, List.getElem?_eq_getElem hk2]
            rfl
          rw [e]
          exact wi_set a0_0 A0_1 c0_1 l0_1 a1 a2 w hr0_1 hc0_1 hl K hK0 (by omega) (by omega) hE k hP hk2
        · rw [show isAt l0_1 a1 = false by simpa using hq] at hP
          have e : withL l0_1 a1 a2 = l0_1.take k ++ ⟨a1, a2⟩ :: l0_1.drop k := by
            unfold withL
            rw [if_neg hq, hk, Int.toNat_natCast]
          rw [e]
          exact wi_ins a0_0 A0_1 c0_1 l0_1 a1 a2 w hr0_1 hc0_1 hl K hK0 (by omega) (by omega) hE k hP (by omega)
      · rename_i hc
        simp only [Option.some.injEq, Prod.mk.injEq] at h
        obtain ⟨rfl, rfl, rfl⟩ := h
        by_cases h1 : a1 < 0
        · exact wi_no a0_0 A0_1 c0_1 l0_1 a1 a2 w hr0_1 hc0_1 K hK0 (.inl h1)
        · by_cases h2 : a1 ≥ 64
          · exact wi_no a0_0 A0_1 c0_1 l0_1 a1 a2 w hr0_1 hc0_1 K hK0 (.inr ⟨h1, h2⟩)
          · have hE : beacon_epoch.f a2 = some false := (bepoch_eq a2).trans (congrArg some (decide_eq_false (fun hh => hc ⟨(rbB_iff _ _).2 hR, by omega, by omega, hh.1, hh.2⟩)))
            exact wi_no2 a0_0 A0_1 c0_1 l0_1 a1 a2 w hr0_1 hc0_1 K hK0 h1 h2 hE
    · rw [if_neg hR] at hK0
      rw [if_neg (fun hc => hR ((rbB_iff _ _).1 hc.1))] at h
      simp only [Option.some.injEq, Prod.mk.injEq] at h
      obtain ⟨rfl, rfl, rfl⟩ := h
      exact wi_bad a0_0 A0_1 c0_1 l0_1 a1 a2 w hr0_1 hc0_1 K hK0
  · exact absurd h (by simp)
end Go.Proofs.Ytaiklcpmlkpfjaa.P
namespace Go.Proofs.Ytaiklcpmlkpfjaa.P
open Go.RowKit Go.Proofs.YtaiklcpmlkpfjaaW.PrintWords Go.Proofs.YtaiklcpmlkpfjaaW.PrintLast Go.Proofs.YtaiklcpmlkpfjaaW.PrintMore
attribute [local go_sem] max2_int min2_int max_two min_two max_three min_three max_four min_four   -- for this text's walks alone
mutual
def thalweglaw06_BeaconOrder.j0 : Nat → Int → Int → Int → Int → Bool → Int → List (S59) → Option (Bool)
  | 0, _, _, _, _, _, _, _ => none
  | k + 1, x1, x2, x3, x4, x29, x233000, x233001 => if x29 = true then ((thalweglaw06_awake.f k).bind fun t233 => (some t233)) else ((beacon_With.f x233000 x233001 x1 x3).bind fun bt234 => ((beacon_With.f bt234.1 bt234.2.1 x2 x4).bind fun bt240 => ((beacon_With.f x233000 x233001 x2 x4).bind fun bt246 => ((beacon_With.f bt246.1 bt246.2.1 x1 x3).bind fun bt252 => (if bt234.2.2 = 0 then (thalweglaw06_BeaconOrder.j1 k x1 x3 bt240.2.2 bt252.2.2 (bt246.2.2 != 0) bt240.1 bt240.2.1 bt252.1 bt252.2.1) else (thalweglaw06_BeaconOrder.j1 k x1 x3 bt240.2.2 bt252.2.2 true bt240.1 bt240.2.1 bt252.1 bt252.2.1))))))
def thalweglaw06_BeaconOrder.j1 : Nat → Int → Int → Int → Int → Bool → Int → List (S59) → Int → List (S59) → Option (Bool)
  | 0, _, _, _, _, _, _, _, _, _ => none
  | k + 1, x1, x3, x14, x18, x64, x246000, x246001, x258000, x258001 => if x64 = true then ((thalweglaw06_awake.f k).bind fun t258 => (some t258)) else ((beacon_With.f x246000 x246001 x1 x3).bind fun bt259 => ((thalweglaw06_awake.f k).bind fun t265 => (if t265 = true then (if x14 = 0 then (if x18 = x14 then (if bt259.2.2 = x14 then ((thalwegref06_Same.f k x246000 x246001 x258000 x258001).bind fun t266 => (if t266 = true then ((thalwegref06_Same.f k bt259.1 bt259.2.1 x246000 x246001).bind fun t267 => (some t267)) else (none))) else (none)) else (none)) else (none)) else (none))))
end
def thalweglaw06_BeaconOrder.f (k : Nat) (a0_0 : Int) (l0_1 : List (S59)) (a1 : Int) (a2 : Int) (a3 : Int) (a4 : Int) : Option (Bool) := if (l0_1.length : Int) > 80 then (thalweglaw06_BeaconOrder.j0 k a1 a2 a3 a4 true a0_0 l0_1) else (thalweglaw06_BeaconOrder.j0 k a1 a2 a3 a4 (a1 == a2) a0_0 l0_1)
theorem thalweglaw06_BeaconOrder.mono_l : ∀ k, (∀ y0 y1 y2 y3 y4 y5 y6, LeO (thalweglaw06_BeaconOrder.j0 k y0 y1 y2 y3 y4 y5 y6) (thalweglaw06_BeaconOrder.j0 (k + 1) y0 y1 y2 y3 y4 y5 y6)) ∧ (∀ y0 y1 y2 y3 y4 y5 y6 y7 y8, LeO (thalweglaw06_BeaconOrder.j1 k y0 y1 y2 y3 y4 y5 y6 y7 y8) (thalweglaw06_BeaconOrder.j1 (k + 1) y0 y1 y2 y3 y4 y5 y6 y7 y8))
  | 0 => ⟨fun _ _ _ _ _ _ _ r h => by simp [thalweglaw06_BeaconOrder.j0] at h, fun _ _ _ _ _ _ _ _ _ r h => by simp [thalweglaw06_BeaconOrder.j1] at h⟩
  | k + 1 => by
    obtain ⟨ih0, ih1⟩ := thalweglaw06_BeaconOrder.mono_l k
    refine ⟨?_, ?_⟩
    · intro y0 y1 y2 y3 y4 y5 y6
      unfold thalweglaw06_BeaconOrder.j0
      repeat' first
      | (with_reducible exact ih0 _ _ _ _ _ _ _)
      | (with_reducible exact ih1 _ _ _ _ _ _ _ _ _)
      | (with_reducible exact thalweglaw06_awake.mono _)
      | (with_reducible exact thalwegref06_Same.mono _ _ _ _ _)
      | (with_reducible exact LeO.refl _)
      | (with_reducible exact LeO.none _)
      | (with_reducible refine LeO.ite ?_ ?_)
      | (with_reducible refine LeO.bind ?_ (fun _ => ?_))
      | exact ih0 _ _ _ _ _ _ _
      | exact ih1 _ _ _ _ _ _ _ _ _
      | exact thalweglaw06_awake.mono _
      | exact thalwegref06_Same.mono _ _ _ _ _
      | exact LeO.none _
      | refine LeO.ite ?_ ?_
      | refine LeO.bind ?_ (fun _ => ?_)
    · intro y0 y1 y2 y3 y4 y5 y6 y7 y8
      unfold thalweglaw06_BeaconOrder.j1
      repeat' first
      | (with_reducible exact ih0 _ _ _ _ _ _ _)
      | (with_reducible exact ih1 _ _ _ _ _ _ _ _ _)
      | (with_reducible exact thalweglaw06_awake.mono _)
      | (with_reducible exact thalwegref06_Same.mono _ _ _ _ _)
      | (with_reducible exact LeO.refl _)
      | (with_reducible exact LeO.none _)
      | (with_reducible refine LeO.ite ?_ ?_)
      | (with_reducible refine LeO.bind ?_ (fun _ => ?_))
      | exact ih0 _ _ _ _ _ _ _
      | exact ih1 _ _ _ _ _ _ _ _ _
      | exact thalweglaw06_awake.mono _
      | exact thalwegref06_Same.mono _ _ _ _ _
      | exact LeO.none _
      | refine LeO.ite ?_ ?_
      | refine LeO.bind ?_ (fun _ => ?_)
theorem thalweglaw06_BeaconOrder.mono : ∀ a0 a1 a2 a3 a4 a5 k, LeO (thalweglaw06_BeaconOrder.f k a0 a1 a2 a3 a4 a5) (thalweglaw06_BeaconOrder.f (k + 1) a0 a1 a2 a3 a4 a5) := by
  intro a0 a1 a2 a3 a4 a5 k
  obtain ⟨ih0, ih1⟩ := thalweglaw06_BeaconOrder.mono_l k
  unfold thalweglaw06_BeaconOrder.f
  repeat' first
      | (with_reducible exact ih0 _ _ _ _ _ _ _)
      | (with_reducible exact ih1 _ _ _ _ _ _ _ _ _)
      | (with_reducible exact thalweglaw06_awake.mono _)
      | (with_reducible exact thalwegref06_Same.mono _ _ _ _ _)
      | (with_reducible exact LeO.refl _)
      | (with_reducible exact LeO.none _)
      | (with_reducible refine LeO.ite ?_ ?_)
      | (with_reducible refine LeO.bind ?_ (fun _ => ?_))
      | exact ih0 _ _ _ _ _ _ _
      | exact ih1 _ _ _ _ _ _ _ _ _
      | exact thalweglaw06_awake.mono _
      | exact thalwegref06_Same.mono _ _ _ _ _
      | exact LeO.none _
      | refine LeO.ite ?_ ?_
      | refine LeO.bind ?_ (fun _ => ?_)
set_option maxHeartbeats 8000000 in
set_option maxRecDepth 100000 in
theorem thalweglaw06_BeaconOrder.calls (k : Nat) (a0_0 : Int) (A0_1 : Option Addr) (c0_1 : Nat) (l0_1 : List (S59)) (a1 : Int) (a2 : Int) (a3 : Int) (a4 : Int) (r : Bool) (w : World) (hr0_1 : Kd.C k59 w A0_1 l0_1.length l0_1) (hc0_1 : l0_1.length ≤ c0_1) (h : thalweglaw06_BeaconOrder.f k a0_0 l0_1 a1 a2 a3 a4 = some r) :
    Calls Try.prog 5 #[.agg #[.int .i64 a0_0, .slice A0_1 l0_1.length c0_1], .int .i64 a1, .int .i64 a2, .int .i64 a3, .int .i64 a4] w fun e w' => e = .returned (.bool r) ∧ Below w.heap.size w w' := by
  have hu25 := Try.underlying25
  have HR0_1 := Aside0.mk hr0_1
  have HC0_1 := Aside0.mk hc0_1
  clear hr0_1 hc0_1
  have HB := Aside0.mk (Below.refl w.heap.size w)
  have H : (if (l0_1.length : Int) > 80 then (thalweglaw06_BeaconOrder.j0 k a1 a2 a3 a4 true a0_0 l0_1) else (thalweglaw06_BeaconOrder.j0 k a1 a2 a3 a4 (a1 == a2) a0_0 l0_1)) = some r := h
  clear h
  have HC6 := Aside0.mk H
  clear H
  go_enter Try.func5, Try.ntmps5
  go_upto_region 1 with (first | ((with_reducible refine gate_dst (N := 5) rfl ?_); refine box_event ?hg (N := 5) ?hd (cs := #[.int .i64 a0_0, .slice A0_1 l0_1.length c0_1]) (t := 25) ?hr ?_; (case hd => rfl); (case hg => rfl); (case hr => first | (go_simp; done) | (go_simp; rfl)); intro gb232 hg w7 hbox hb; have n0_ := Aside0.mk (below_step (by repeat (first | (with_reducible first | exact HB.out | apply below_alloc | apply pw_below_drewN | apply below_drew1) | exact HB.out)) hb); have n1_ := Aside0.mk (hbox); have n2_ := Aside0.mk ((by rw [hg]; exact (below_size (by repeat (first | (with_reducible first | exact HB.out | apply below_alloc | apply pw_below_drewN | apply below_drew1) | exact HB.out))) : w.heap.size ≤ gb232)); have n3_ := Aside0.mk ((by rw [hg]; exact (below_size (by repeat (first | (with_reducible first | exact HB.out | apply below_alloc | apply pw_below_drewN | apply below_drew1) | exact HB.out))) : w.heap.size ≤ gb232)); clear HB; have HB := n0_; have BK232 := n1_; have GW232 := n2_; have GE232 := n3_; clear n0_ n1_ n2_ n3_; clear hb hbox hg))
  (try simp only [Act.put, List.setIfInBounds_toArray, List.set_cons_zero, List.set_cons_succ])
  go_cut [29] (fun v29 wc => ∃ (kq : Nat) (x29_5 : Bool), v29 = .bool x29_5 ∧ Aside0 (thalweglaw06_BeaconOrder.j0 kq a1 a2 a3 a4 x29_5 a0_0 l0_1 = some r) ∧ Aside0 (kq ≤ k) ∧ Aside0 (wc.heap[gb232]? = some (.cells #[.int .i64 a0_0, (.slice A0_1 l0_1.length c0_1)] 25 (0, 0))) ∧ Aside0 (Below w.heap.size w wc))
  case first =>
    have H := HC6.out
    clear HC6
    by_cases c8 : (l0_1.length : Int) > 80
    · rw [if_pos c8] at H
      have c8b0 : decide (80 < (l0_1.length : Int)) = true := decide_eq_true c8
      have c8b1 : decide (80 < l0_1.length) = true := decide_eq_true (by omega)
      clear c8
      (first | rw [c8b0] | (simp only [i64_w, i32_w]; rw [c8b0]) | rw [c8b1] | skip)
      have H' := Aside0.mk H
      clear H
      have hcz9_0 : w7.cell? ⟨gb232, 0, none⟩ = some (.int .i64 a0_0) := (blk_cell BK232.out 0).trans rfl
      have hcz9_1 : w7.cell? ⟨gb232, 1, none⟩ = some (.slice A0_1 l0_1.length c0_1) := (blk_cell BK232.out 1).trans rfl
      have hfz9_0 := blk_frozen BK232.out 0
      have hfz9_1 := blk_frozen BK232.out 1
      go_wp2
      go_meet
      case rel => exact ⟨_, (true), (by first | rfl | (simp; done) | (simp [*]; done)), H', ⟨by first | omega | exact Nat.le_refl _⟩, ⟨by (with_reducible repeat (first | refine blk_drewN ?_ _ | refine blk_drew ?_ | refine blk_alloc ?_ _)); exact BK232.out⟩, ⟨by repeat (first | (with_reducible first | exact HB.out | apply below_alloc | apply pw_below_drewN | apply below_drew1 | refine below_set ?_ GE232.out) | exact HB.out)⟩⟩
    · rw [if_neg c8] at H
      have c8b0 : decide (80 < (l0_1.length : Int)) = false := decide_eq_false c8
      have c8b1 : decide (80 < l0_1.length) = false := decide_eq_false (by omega)
      clear c8
      (first | rw [c8b0] | (simp only [i64_w, i32_w]; rw [c8b0]) | rw [c8b1] | skip)
      have H' := Aside0.mk H
      clear H
      have hcz10_0 : w7.cell? ⟨gb232, 0, none⟩ = some (.int .i64 a0_0) := (blk_cell BK232.out 0).trans rfl
      have hcz10_1 : w7.cell? ⟨gb232, 1, none⟩ = some (.slice A0_1 l0_1.length c0_1) := (blk_cell BK232.out 1).trans rfl
      have hfz10_0 := blk_frozen BK232.out 0
      have hfz10_1 := blk_frozen BK232.out 1
      go_wp2
      go_meet
      case rel => exact ⟨_, ((a1 == a2)), (by first | rfl | (simp; done) | (simp [*]; done)), H', ⟨by first | omega | exact Nat.le_refl _⟩, ⟨by (with_reducible repeat (first | refine blk_drewN ?_ _ | refine blk_drew ?_ | refine blk_alloc ?_ _)); exact BK232.out⟩, ⟨by repeat (first | (with_reducible first | exact HB.out | apply below_alloc | apply pw_below_drewN | apply below_drew1 | refine below_set ?_ GE232.out) | exact HB.out)⟩⟩
  case rest =>
    clear HC6
    try clear p2
    try clear c5
    try clear c8
    try clear c8b0
    try clear c8b1
    try clear hcz10_0
    try clear hcz10_1
    try clear hcz9_0
    try clear hcz9_1
    try clear hfz10_0
    try clear hfz10_1
    try clear hfz9_0
    try clear hfz9_1
    obtain ⟨kq, x29_5, rfl, HA, HJ5, BK232, HB⟩ := hcut
    cases kq with
    | zero => exact absurd HA.out (by simp [thalweglaw06_BeaconOrder.j0])
    | succ kj5 =>
      have H := HA.out
      clear HA
      simp only [thalweglaw06_BeaconOrder.j0] at H
      by_cases c11 : x29_5 = true
      · subst c11
        have H1 : ((thalweglaw06_awake.f kj5).bind fun t233 => (some t233)) = some r := by rw [if_pos rfl] at H; exact H
        clear H
        have H := H1
        clear H1
        replace H := Option.bind_eq_some_iff.mp H
        obtain ⟨t233, A120, H⟩ := H
        replace H : (some t233) = some r := H
        have A12 := Aside0.mk A120
        clear A120
        obtain rfl := Option.some.inj H
        go_wp2_with (first | ((with_reducible refine gate_callee (f := 10) rfl ?_); refine goesL_ (some 30) rfl rfl Try.func10 (by kernel_rfl) rfl #[] rfl (by (try simp only [List.map_toArray, List.map_cons, List.map_nil]); first | done | rfl | (simp only [List.length_drop, List.length_take]; rfl)) ?_; (with_reducible refine (thalweglaw06_awake.calls kj5  t233 _ A12.out).mono ?_); rintro e w13 ⟨rfl, hb⟩; refine ⟨_, rfl, ?_⟩; have n0_ := Aside0.mk (blk_below (g := gb232) (o := .cells #[.int .i64 a0_0, .slice A0_1 l0_1.length c0_1] 25 (0, 0)) (by (with_reducible repeat (first | refine blk_drewN ?_ _ | refine blk_drew ?_ | refine blk_alloc ?_ _)); exact BK232.out) hb); have n1_ := Aside0.mk (below_step (by repeat (first | (with_reducible first | exact HB.out | apply below_alloc | apply pw_below_drewN | apply below_drew1 | refine below_set ?_ GE232.out) | exact HB.out)) hb); clear BK232; clear HB; have BK232 := n0_; have HB := n1_; clear n0_ n1_; (try clear hb); (try clear hb2); (try clear hk); (try clear hi)))
        go_ret
        exact ⟨by first | rfl | (simp [errW_none, errW_some] <;> rfl) | (simp [*, errW_none, errW_some] <;> rfl), by repeat (first | (with_reducible first | exact HB.out | apply below_alloc | apply pw_below_drewN | apply below_drew1 | refine below_set ?_ GE232.out) | exact HB.out)⟩
      · replace c11 := Bool.eq_false_iff.mpr c11
        subst c11
        have H1 : ((beacon_With.f a0_0 l0_1 a1 a3).bind fun bt234 => ((beacon_With.f bt234.1 bt234.2.1 a2 a4).bind fun bt240 => ((beacon_With.f a0_0 l0_1 a2 a4).bind fun bt246 => ((beacon_With.f bt246.1 bt246.2.1 a1 a3).bind fun bt252 => (if bt234.2.2 = 0 then (thalweglaw06_BeaconOrder.j1 kj5 a1 a3 bt240.2.2 bt252.2.2 (bt246.2.2 != 0) bt240.1 bt240.2.1 bt252.1 bt252.2.1) else (thalweglaw06_BeaconOrder.j1 kj5 a1 a3 bt240.2.2 bt252.2.2 true bt240.1 bt240.2.1 bt252.1 bt252.2.1)))))) = some r := by rw [if_neg (show ¬ (false = true) by decide)] at H; exact H
        clear H
        have H := H1
        clear H1
        replace H := Option.bind_eq_some_iff.mp H
        obtain ⟨⟨t234, t235, t238⟩, A140, H⟩ := H
        replace H : ((beacon_With.f t234 t235 a2 a4).bind fun bt240 => ((beacon_With.f a0_0 l0_1 a2 a4).bind fun bt246 => ((beacon_With.f bt246.1 bt246.2.1 a1 a3).bind fun bt252 => (if t238 = 0 then (thalweglaw06_BeaconOrder.j1 kj5 a1 a3 bt240.2.2 bt252.2.2 (bt246.2.2 != 0) bt240.1 bt240.2.1 bt252.1 bt252.2.1) else (thalweglaw06_BeaconOrder.j1 kj5 a1 a3 bt240.2.2 bt252.2.2 true bt240.1 bt240.2.1 bt252.1 bt252.2.1))))) = some r := H
        have A14 := Aside0.mk A140
        clear A140
        replace H := Option.bind_eq_some_iff.mp H
        obtain ⟨⟨t240, t241, t244⟩, A150, H⟩ := H
        replace H : ((beacon_With.f a0_0 l0_1 a2 a4).bind fun bt246 => ((beacon_With.f bt246.1 bt246.2.1 a1 a3).bind fun bt252 => (if t238 = 0 then (thalweglaw06_BeaconOrder.j1 kj5 a1 a3 t244 bt252.2.2 (bt246.2.2 != 0) t240 t241 bt252.1 bt252.2.1) else (thalweglaw06_BeaconOrder.j1 kj5 a1 a3 t244 bt252.2.2 true t240 t241 bt252.1 bt252.2.1)))) = some r := H
        have A15 := Aside0.mk A150
        clear A150
        replace H := Option.bind_eq_some_iff.mp H
        obtain ⟨⟨t246, t247, t250⟩, A160, H⟩ := H
        replace H : ((beacon_With.f t246 t247 a1 a3).bind fun bt252 => (if t238 = 0 then (thalweglaw06_BeaconOrder.j1 kj5 a1 a3 t244 bt252.2.2 (t250 != 0) t240 t241 bt252.1 bt252.2.1) else (thalweglaw06_BeaconOrder.j1 kj5 a1 a3 t244 bt252.2.2 true t240 t241 bt252.1 bt252.2.1))) = some r := H
        have A16 := Aside0.mk A160
        clear A160
        replace H := Option.bind_eq_some_iff.mp H
        obtain ⟨⟨t252, t253, t256⟩, A170, H⟩ := H
        replace H : (if t238 = 0 then (thalweglaw06_BeaconOrder.j1 kj5 a1 a3 t244 t256 (t250 != 0) t240 t241 t252 t253) else (thalweglaw06_BeaconOrder.j1 kj5 a1 a3 t244 t256 true t240 t241 t252 t253)) = some r := H
        have A17 := Aside0.mk A170
        clear A170
        have HC18 := Aside0.mk H
        clear H
        have hcz19_0 : wc.cell? ⟨gb232, 0, none⟩ = some (.int .i64 a0_0) := (blk_cell BK232.out 0).trans rfl
        have hcz19_1 : wc.cell? ⟨gb232, 1, none⟩ = some (.slice A0_1 l0_1.length c0_1) := (blk_cell BK232.out 1).trans rfl
        have hfz19_0 := blk_frozen BK232.out 0
        have hfz19_1 := blk_frozen BK232.out 1
        go_upto_region 7 with (first | ((with_reducible refine gate_callee (f := 14) rfl ?_); refine goesL_ (some 35) rfl rfl Try.func14 (by kernel_rfl) rfl #[.agg #[.int .i64 a0_0, .slice A0_1 l0_1.length c0_1], .int .i64 a1, .int .i64 a3] rfl (by (try simp only [List.map_toArray, List.map_cons, List.map_nil]); first | done | rfl | (simp only [List.length_drop, List.length_take]; rfl)) ?_; (with_reducible refine (beacon_With.calls a0_0 _ _ l0_1 a1 a3 t234 t235 t238 _ ?side1 ?side2 A14.out).mono ?_); (case side1 => repeat (first | exact (Kd.C_below HR0_1.out HB.out) | (with_reducible refine Kd.C_alloc ?_ _) | (with_reducible refine Kd.C_drewN ?_ _) | (with_reducible refine Kd.C_drew ?_))); (case side2 => exact HC0_1.out); rintro e w20 ⟨v236, rfl, ho0, hb⟩; refine ⟨_, rfl, ?_⟩; have n0_ := Aside0.mk (Kd.R_lower ho0 (below_size (by repeat (first | (with_reducible first | exact HB.out | apply below_alloc | apply pw_below_drewN | apply below_drew1 | refine below_set ?_ GE232.out) | exact HB.out)))); have n1_ := Aside0.mk (blk_below (g := gb232) (o := .cells #[.int .i64 a0_0, .slice A0_1 l0_1.length c0_1] 25 (0, 0)) (by (with_reducible repeat (first | refine blk_drewN ?_ _ | refine blk_drew ?_ | refine blk_alloc ?_ _)); exact BK232.out) hb); have n2_ := Aside0.mk (below_step (by repeat (first | (with_reducible first | exact HB.out | apply below_alloc | apply pw_below_drewN | apply below_drew1 | refine below_set ?_ GE232.out) | exact HB.out)) hb); clear BK232; clear HB; have HO237 := n0_; have BK232 := n1_; have HB := n2_; clear n0_ n1_ n2_; (try clear hb); (try clear hb2); (try clear hk); (try clear hi); (try clear ho0)) | ((with_reducible refine gate_dst (N := 11) rfl ?_); refine box_event ?hg (N := 11) ?hd (cs := #[.int .i64 0, .slice none 0 0]) (t := 25) ?hr ?_; (case hd => rfl); (case hg => rfl); (case hr => first | (go_simp; done) | (go_simp; rfl)); intro gb239 hg w21 hbox hb; have n0_ := Aside0.mk (Kd.R_below (by (with_reducible repeat (first | apply Kd.R_alloc | apply Kd.R_drewN | apply Kd.R_drew)); exact HO237.out) hb); have n1_ := Aside0.mk (blk_below (g := gb232) (o := .cells #[.int .i64 a0_0, .slice A0_1 l0_1.length c0_1] 25 (0, 0)) (by (with_reducible repeat (first | refine blk_drewN ?_ _ | refine blk_drew ?_ | refine blk_alloc ?_ _)); exact BK232.out) hb); have n2_ := Aside0.mk (below_step (by repeat (first | (with_reducible first | exact HB.out | apply below_alloc | apply pw_below_drewN | apply below_drew1 | refine below_set ?_ GE232.out) | exact HB.out)) hb); have n3_ := Aside0.mk (hbox); have n4_ := Aside0.mk ((by rw [hg]; exact (below_size (by repeat (first | (with_reducible first | exact HB.out | apply below_alloc | apply pw_below_drewN | apply below_drew1 | refine below_set ?_ GE232.out) | exact HB.out))) : w.heap.size ≤ gb239)); have n5_ := Aside0.mk ((by rw [hg]; exact (below_size (by repeat (first | (with_reducible first | exact HB.out | apply below_alloc | apply pw_below_drewN | apply below_drew1 | refine below_set ?_ GE232.out) | exact HB.out))) : w.heap.size ≤ gb239)); have n6_ := Aside0.mk ((by rw [hg]; exact Nat.ne_of_lt (blk_lt (g := gb232) (o := .cells #[.int .i64 a0_0, .slice A0_1 l0_1.length c0_1] 25 (0, 0)) (by (with_reducible repeat (first | refine blk_drewN ?_ _ | refine blk_drew ?_ | refine blk_alloc ?_ _)); exact BK232.out)) : gb232 ≠ gb239)); have n7_ := Aside0.mk ((by rw [hg]; exact Nat.ne_of_gt (blk_lt (g := gb232) (o := .cells #[.int .i64 a0_0, .slice A0_1 l0_1.length c0_1] 25 (0, 0)) (by (with_reducible repeat (first | refine blk_drewN ?_ _ | refine blk_drew ?_ | refine blk_alloc ?_ _)); exact BK232.out)) : gb239 ≠ gb232)); clear HO237; clear BK232; clear HB; have HO237 := n0_; have BK232 := n1_; have HB := n2_; have BK239 := n3_; have GW239 := n4_; have GE239 := n5_; have NB232_239 := n6_; have NB239_232 := n7_; clear n0_ n1_ n2_ n3_ n4_ n5_ n6_ n7_; clear hb hbox hg; have hnb22 := NB239_232.out; have hnc22 := NB232_239.out; have hcz23_0 : w21.cell? ⟨gb239, 0, none⟩ = some (.int .i64 0) := (blk_cell BK239.out 0).trans rfl; have hcz23_1 : w21.cell? ⟨gb239, 1, none⟩ = some (.slice none 0 0) := (blk_cell BK239.out 1).trans rfl; have hfz23_0 := blk_frozen BK239.out 0; have hfz23_1 := blk_frozen BK239.out 1; obtain ⟨Ao24, co24, eo24⟩ := Kd.R_slice HO237.out; subst eo24) | ((with_reducible refine gate_callee (f := 14) rfl ?_); refine goesL_ (some 42) rfl rfl Try.func14 (by kernel_rfl) rfl #[.agg #[.int .i64 t234, .slice Ao24 t235.length co24], .int .i64 a2, .int .i64 a4] rfl (by (try simp only [List.map_toArray, List.map_cons, List.map_nil]); first | done | rfl | (simp only [List.length_drop, List.length_take]; rfl)) ?_; (with_reducible refine (beacon_With.calls t234 _ _ t235 a2 a4 t240 t241 t244 _ ?side1 ?side2 A15.out).mono ?_); (case side1 => refine (Kd.R_reads' (e := 59) (base := w.heap.size) (ok := fun k_ => True) (n := t235.length) (c := co24) ?_).2.2; exact (by (with_reducible repeat (first | apply Kd.R_alloc | apply Kd.R_drewN | apply Kd.R_drew)); exact (Kd.R_mono (Kd.R_far (p := ⟨gb239, 1, none⟩) (Kd.R_far (p := ⟨gb239, 0, none⟩) (Kd.R_types HO237.out BK239.out (by decide)) (fun _ hk => hk.2) (.int .i64 t234)) (fun _ hk => hk.2) (.slice Ao24 t235.length co24)) (fun _ h_ => h_.1)))); (case side2 => exact (Kd.R_reads' HO237.out).2.1); rintro e w25 ⟨v242, rfl, ho0, hb⟩; refine ⟨_, rfl, ?_⟩; have n0_ := Aside0.mk (Kd.R_elder' (by (with_reducible repeat (first | apply Kd.R_alloc | apply Kd.R_drewN | apply Kd.R_drew)); exact (Kd.R_mono (Kd.R_far (p := ⟨gb239, 1, none⟩) (Kd.R_far (p := ⟨gb239, 0, none⟩) (Kd.R_types HO237.out BK239.out (by decide)) (fun _ hk => hk.2) (.int .i64 t234)) (fun _ hk => hk.2) (.slice Ao24 t235.length co24)) (fun _ h_ => h_.1))) (Kd.R_base ho0) hb); have n1_ := Aside0.mk (Kd.R_lower (Kd.R_new' ho0 (Kd.R_lt (by (with_reducible repeat (first | apply Kd.R_alloc | apply Kd.R_drewN | apply Kd.R_drew)); exact (Kd.R_mono (Kd.R_far (p := ⟨gb239, 1, none⟩) (Kd.R_far (p := ⟨gb239, 0, none⟩) (Kd.R_types HO237.out BK239.out (by decide)) (fun _ hk => hk.2) (.int .i64 t234)) (fun _ hk => hk.2) (.slice Ao24 t235.length co24)) (fun _ h_ => h_.1))))) (below_size (by repeat (first | (with_reducible first | exact HB.out | apply below_alloc | apply pw_below_drewN | apply below_drew1 | refine below_set ?_ GE232.out | refine below_set ?_ GE239.out) | exact HB.out)))); have n2_ := Aside0.mk (blk_below (g := gb232) (o := .cells #[.int .i64 a0_0, .slice A0_1 l0_1.length c0_1] 25 (0, 0)) (by (with_reducible repeat (first | refine blk_drewN ?_ _ | refine blk_drew ?_ | refine blk_alloc ?_ _)); refine blk_far ?_ NB232_239.out _; (with_reducible repeat (first | refine blk_drewN ?_ _ | refine blk_drew ?_ | refine blk_alloc ?_ _)); refine blk_far ?_ NB232_239.out _; (with_reducible repeat (first | refine blk_drewN ?_ _ | refine blk_drew ?_ | refine blk_alloc ?_ _)); exact BK232.out) hb); have n3_ := Aside0.mk (blk_below (g := gb239) (o := .cells #[.int .i64 t234, .slice Ao24 t235.length co24] 25 (0, 0)) (by (with_reducible repeat (first | refine blk_drewN ?_ _ | refine blk_drew ?_ | refine blk_alloc ?_ _)); refine blk_put (cs := #[.int .i64 t234, .slice none 0 0]) ?_ 1 _ rfl; (with_reducible repeat (first | refine blk_drewN ?_ _ | refine blk_drew ?_ | refine blk_alloc ?_ _)); refine blk_put (cs := #[.int .i64 0, .slice none 0 0]) ?_ 0 _ rfl; (with_reducible repeat (first | refine blk_drewN ?_ _ | refine blk_drew ?_ | refine blk_alloc ?_ _)); exact BK239.out) hb); have n4_ := Aside0.mk (below_step (by repeat (first | (with_reducible first | exact HB.out | apply below_alloc | apply pw_below_drewN | apply below_drew1 | refine below_set ?_ GE232.out | refine below_set ?_ GE239.out) | exact HB.out)) hb); clear HO237; clear BK232; clear BK239; clear HB; have HO237 := n0_; have HO243 := n1_; have BK232 := n2_; have BK239 := n3_; have HB := n4_; clear n0_ n1_ n2_ n3_ n4_; (try clear hb); (try clear hb2); (try clear hk); (try clear hi); (try clear ho0)) | ((with_reducible refine gate_dst (N := 13) rfl ?_); refine box_event ?hg (N := 13) ?hd (cs := #[.int .i64 0, .slice none 0 0]) (t := 25) ?hr ?_; (case hd => rfl); (case hg => rfl); (case hr => first | (go_simp; done) | (go_simp; rfl)); intro gb245 hg w26 hbox hb; have n0_ := Aside0.mk (Kd.R_below (by (with_reducible repeat (first | apply Kd.R_alloc | apply Kd.R_drewN | apply Kd.R_drew)); exact HO237.out) hb); have n1_ := Aside0.mk (Kd.R_below (by (with_reducible repeat (first | apply Kd.R_alloc | apply Kd.R_drewN | apply Kd.R_drew)); exact HO243.out) hb); have n2_ := Aside0.mk (blk_below (g := gb232) (o := .cells #[.int .i64 a0_0, .slice A0_1 l0_1.length c0_1] 25 (0, 0)) (by (with_reducible repeat (first | refine blk_drewN ?_ _ | refine blk_drew ?_ | refine blk_alloc ?_ _)); exact BK232.out) hb); have n3_ := Aside0.mk (blk_below (g := gb239) (o := .cells #[.int .i64 t234, .slice Ao24 t235.length co24] 25 (0, 0)) (by (with_reducible repeat (first | refine blk_drewN ?_ _ | refine blk_drew ?_ | refine blk_alloc ?_ _)); exact BK239.out) hb); have n4_ := Aside0.mk (below_step (by repeat (first | (with_reducible first | exact HB.out | apply below_alloc | apply pw_below_drewN | apply below_drew1 | refine below_set ?_ GE232.out | refine below_set ?_ GE239.out) | exact HB.out)) hb); have n5_ := Aside0.mk (hbox); have n6_ := Aside0.mk ((by rw [hg]; exact (below_size (by repeat (first | (with_reducible first | exact HB.out | apply below_alloc | apply pw_below_drewN | apply below_drew1 | refine below_set ?_ GE232.out | refine below_set ?_ GE239.out) | exact HB.out))) : w.heap.size ≤ gb245)); have n7_ := Aside0.mk ((by rw [hg]; exact (below_size (by repeat (first | (with_reducible first | exact HB.out | apply below_alloc | apply pw_below_drewN | apply below_drew1 | refine below_set ?_ GE232.out | refine below_set ?_ GE239.out) | exact HB.out))) : w.heap.size ≤ gb245)); have n8_ := Aside0.mk ((by rw [hg]; exact Nat.ne_of_lt (blk_lt (g := gb232) (o := .cells #[.int .i64 a0_0, .slice A0_1 l0_1.length c0_1] 25 (0, 0)) (by (with_reducible repeat (first | refine blk_drewN ?_ _ | refine blk_drew ?_ | refine blk_alloc ?_ _)); exact BK232.out)) : gb232 ≠ gb245)); have n9_ := Aside0.mk ((by rw [hg]; exact Nat.ne_of_gt (blk_lt (g := gb232) (o := .cells #[.int .i64 a0_0, .slice A0_1 l0_1.length c0_1] 25 (0, 0)) (by (with_reducible repeat (first | refine blk_drewN ?_ _ | refine blk_drew ?_ | refine blk_alloc ?_ _)); exact BK232.out)) : gb245 ≠ gb232)); have n10_ := Aside0.mk ((by rw [hg]; exact Nat.ne_of_lt (blk_lt (g := gb239) (o := .cells #[.int .i64 t234, .slice Ao24 t235.length co24] 25 (0, 0)) (by (with_reducible repeat (first | refine blk_drewN ?_ _ | refine blk_drew ?_ | refine blk_alloc ?_ _)); exact BK239.out)) : gb239 ≠ gb245)); have n11_ := Aside0.mk ((by rw [hg]; exact Nat.ne_of_gt (blk_lt (g := gb239) (o := .cells #[.int .i64 t234, .slice Ao24 t235.length co24] 25 (0, 0)) (by (with_reducible repeat (first | refine blk_drewN ?_ _ | refine blk_drew ?_ | refine blk_alloc ?_ _)); exact BK239.out)) : gb245 ≠ gb239)); clear HO237; clear HO243; clear BK232; clear BK239; clear HB; have HO237 := n0_; have HO243 := n1_; have BK232 := n2_; have BK239 := n3_; have HB := n4_; have BK245 := n5_; have GW245 := n6_; have GE245 := n7_; have NB232_245 := n8_; have NB245_232 := n9_; have NB239_245 := n10_; have NB245_239 := n11_; clear n0_ n1_ n2_ n3_ n4_ n5_ n6_ n7_ n8_ n9_ n10_ n11_; clear hb hbox hg; have hnb27 := NB245_232.out; have hnc27 := NB232_245.out; have hnb28 := NB245_239.out; have hnc28 := NB239_245.out; have hcz29_0 : w26.cell? ⟨gb245, 0, none⟩ = some (.int .i64 0) := (blk_cell BK245.out 0).trans rfl; have hcz29_1 : w26.cell? ⟨gb245, 1, none⟩ = some (.slice none 0 0) := (blk_cell BK245.out 1).trans rfl; have hfz29_0 := blk_frozen BK245.out 0; have hfz29_1 := blk_frozen BK245.out 1; obtain ⟨Ao30, co30, eo30⟩ := Kd.R_slice HO243.out; subst eo30; have hcz31_0 : w26.cell? ⟨gb232, 0, none⟩ = some (.int .i64 a0_0) := (blk_cell BK232.out 0).trans rfl; have hcz31_1 : w26.cell? ⟨gb232, 1, none⟩ = some (.slice A0_1 l0_1.length c0_1) := (blk_cell BK232.out 1).trans rfl; have hfz31_0 := blk_frozen BK232.out 0; have hfz31_1 := blk_frozen BK232.out 1) | ((with_reducible refine gate_callee (f := 14) rfl ?_); refine goesL_ (some 49) rfl rfl Try.func14 (by kernel_rfl) rfl #[.agg #[.int .i64 a0_0, .slice A0_1 l0_1.length c0_1], .int .i64 a2, .int .i64 a4] rfl (by (try simp only [List.map_toArray, List.map_cons, List.map_nil]); first | done | rfl | (simp only [List.length_drop, List.length_take]; rfl)) ?_; (with_reducible refine (beacon_With.calls a0_0 _ _ l0_1 a2 a4 t246 t247 t250 _ ?side1 ?side2 A16.out).mono ?_); (case side1 => exact Kd.C_below HR0_1.out (by repeat (first | (with_reducible first | exact HB.out | apply below_alloc | apply pw_below_drewN | apply below_drew1 | refine below_set ?_ GE232.out | refine below_set ?_ GE239.out | refine below_set ?_ GE245.out) | exact HB.out))); (case side2 => exact HC0_1.out); rintro e w32 ⟨v248, rfl, ho0, hb⟩; refine ⟨_, rfl, ?_⟩; have n0_ := Aside0.mk (Kd.R_elder' (by (with_reducible repeat (first | apply Kd.R_alloc | apply Kd.R_drewN | apply Kd.R_drew)); exact (Kd.R_mono (Kd.R_far (p := ⟨gb245, 1, none⟩) (Kd.R_far (p := ⟨gb245, 0, none⟩) (Kd.R_types HO237.out BK245.out (by decide)) (fun _ hk => hk.2) (.int .i64 t240)) (fun _ hk => hk.2) (.slice Ao30 t241.length co30)) (fun _ h_ => h_.1))) (Kd.R_base ho0) hb); have n1_ := Aside0.mk (Kd.R_elder' (by (with_reducible repeat (first | apply Kd.R_alloc | apply Kd.R_drewN | apply Kd.R_drew)); exact (Kd.R_mono (Kd.R_far (p := ⟨gb245, 1, none⟩) (Kd.R_far (p := ⟨gb245, 0, none⟩) (Kd.R_types HO243.out BK245.out (by decide)) (fun _ hk => hk.2) (.int .i64 t240)) (fun _ hk => hk.2) (.slice Ao30 t241.length co30)) (fun _ h_ => h_.1))) (Kd.R_base ho0) hb); have n2_ := Aside0.mk (Kd.R_lower (Kd.R_new' (Kd.R_new' ho0 (Kd.R_lt (by (with_reducible repeat (first | apply Kd.R_alloc | apply Kd.R_drewN | apply Kd.R_drew)); exact (Kd.R_mono (Kd.R_far (p := ⟨gb245, 1, none⟩) (Kd.R_far (p := ⟨gb245, 0, none⟩) (Kd.R_types HO237.out BK245.out (by decide)) (fun _ hk => hk.2) (.int .i64 t240)) (fun _ hk => hk.2) (.slice Ao30 t241.length co30)) (fun _ h_ => h_.1))))) (Kd.R_lt (by (with_reducible repeat (first | apply Kd.R_alloc | apply Kd.R_drewN | apply Kd.R_drew)); exact (Kd.R_mono (Kd.R_far (p := ⟨gb245, 1, none⟩) (Kd.R_far (p := ⟨gb245, 0, none⟩) (Kd.R_types HO243.out BK245.out (by decide)) (fun _ hk => hk.2) (.int .i64 t240)) (fun _ hk => hk.2) (.slice Ao30 t241.length co30)) (fun _ h_ => h_.1))))) (below_size (by repeat (first | (with_reducible first | exact HB.out | apply below_alloc | apply pw_below_drewN | apply below_drew1 | refine below_set ?_ GE232.out | refine below_set ?_ GE239.out | refine below_set ?_ GE245.out) | exact HB.out)))); have n3_ := Aside0.mk (blk_below (g := gb232) (o := .cells #[.int .i64 a0_0, .slice A0_1 l0_1.length c0_1] 25 (0, 0)) (by (with_reducible repeat (first | refine blk_drewN ?_ _ | refine blk_drew ?_ | refine blk_alloc ?_ _)); refine blk_far ?_ NB232_245.out _; (with_reducible repeat (first | refine blk_drewN ?_ _ | refine blk_drew ?_ | refine blk_alloc ?_ _)); refine blk_far ?_ NB232_245.out _; (with_reducible repeat (first | refine blk_drewN ?_ _ | refine blk_drew ?_ | refine blk_alloc ?_ _)); exact BK232.out) hb); have n4_ := Aside0.mk (blk_below (g := gb239) (o := .cells #[.int .i64 t234, .slice Ao24 t235.length co24] 25 (0, 0)) (by (with_reducible repeat (first | refine blk_drewN ?_ _ | refine blk_drew ?_ | refine blk_alloc ?_ _)); refine blk_far ?_ NB239_245.out _; (with_reducible repeat (first | refine blk_drewN ?_ _ | refine blk_drew ?_ | refine blk_alloc ?_ _)); refine blk_far ?_ NB239_245.out _; (with_reducible repeat (first | refine blk_drewN ?_ _ | refine blk_drew ?_ | refine blk_alloc ?_ _)); exact BK239.out) hb); have n5_ := Aside0.mk (blk_below (g := gb245) (o := .cells #[.int .i64 t240, .slice Ao30 t241.length co30] 25 (0, 0)) (by (with_reducible repeat (first | refine blk_drewN ?_ _ | refine blk_drew ?_ | refine blk_alloc ?_ _)); refine blk_put (cs := #[.int .i64 t240, .slice none 0 0]) ?_ 1 _ rfl; (with_reducible repeat (first | refine blk_drewN ?_ _ | refine blk_drew ?_ | refine blk_alloc ?_ _)); refine blk_put (cs := #[.int .i64 0, .slice none 0 0]) ?_ 0 _ rfl; (with_reducible repeat (first | refine blk_drewN ?_ _ | refine blk_drew ?_ | refine blk_alloc ?_ _)); exact BK245.out) hb); have n6_ := Aside0.mk (below_step (by repeat (first | (with_reducible first | exact HB.out | apply below_alloc | apply pw_below_drewN | apply below_drew1 | refine below_set ?_ GE232.out | refine below_set ?_ GE239.out | refine below_set ?_ GE245.out) | exact HB.out)) hb); clear HO237; clear HO243; clear BK232; clear BK239; clear BK245; clear HB; have HO237 := n0_; have HO243 := n1_; have HO249 := n2_; have BK232 := n3_; have BK239 := n4_; have BK245 := n5_; have HB := n6_; clear n0_ n1_ n2_ n3_ n4_ n5_ n6_; (try clear hb); (try clear hb2); (try clear hk); (try clear hi); (try clear ho0)) | ((with_reducible refine gate_dst (N := 15) rfl ?_); refine box_event ?hg (N := 15) ?hd (cs := #[.int .i64 0, .slice none 0 0]) (t := 25) ?hr ?_; (case hd => rfl); (case hg => rfl); (case hr => first | (go_simp; done) | (go_simp; rfl)); intro gb251 hg w33 hbox hb; have n0_ := Aside0.mk (Kd.R_below (by (with_reducible repeat (first | apply Kd.R_alloc | apply Kd.R_drewN | apply Kd.R_drew)); exact HO237.out) hb); have n1_ := Aside0.mk (Kd.R_below (by (with_reducible repeat (first | apply Kd.R_alloc | apply Kd.R_drewN | apply Kd.R_drew)); exact HO243.out) hb); have n2_ := Aside0.mk (Kd.R_below (by (with_reducible repeat (first | apply Kd.R_alloc | apply Kd.R_drewN | apply Kd.R_drew)); exact HO249.out) hb); have n3_ := Aside0.mk (blk_below (g := gb232) (o := .cells #[.int .i64 a0_0, .slice A0_1 l0_1.length c0_1] 25 (0, 0)) (by (with_reducible repeat (first | refine blk_drewN ?_ _ | refine blk_drew ?_ | refine blk_alloc ?_ _)); exact BK232.out) hb); have n4_ := Aside0.mk (blk_below (g := gb239) (o := .cells #[.int .i64 t234, .slice Ao24 t235.length co24] 25 (0, 0)) (by (with_reducible repeat (first | refine blk_drewN ?_ _ | refine blk_drew ?_ | refine blk_alloc ?_ _)); exact BK239.out) hb); have n5_ := Aside0.mk (blk_below (g := gb245) (o := .cells #[.int .i64 t240, .slice Ao30 t241.length co30] 25 (0, 0)) (by (with_reducible repeat (first | refine blk_drewN ?_ _ | refine blk_drew ?_ | refine blk_alloc ?_ _)); exact BK245.out) hb); have n6_ := Aside0.mk (below_step (by repeat (first | (with_reducible first | exact HB.out | apply below_alloc | apply pw_below_drewN | apply below_drew1 | refine below_set ?_ GE232.out | refine below_set ?_ GE239.out | refine below_set ?_ GE245.out) | exact HB.out)) hb); have n7_ := Aside0.mk (hbox); have n8_ := Aside0.mk ((by rw [hg]; exact (below_size (by repeat (first | (with_reducible first | exact HB.out | apply below_alloc | apply pw_below_drewN | apply below_drew1 | refine below_set ?_ GE232.out | refine below_set ?_ GE239.out | refine below_set ?_ GE245.out) | exact HB.out))) : w.heap.size ≤ gb251)); have n9_ := Aside0.mk ((by rw [hg]; exact (below_size (by repeat (first | (with_reducible first | exact HB.out | apply below_alloc | apply pw_below_drewN | apply below_drew1 | refine below_set ?_ GE232.out | refine below_set ?_ GE239.out | refine below_set ?_ GE245.out) | exact HB.out))) : w.heap.size ≤ gb251)); have n10_ := Aside0.mk ((by rw [hg]; exact Nat.ne_of_lt (blk_lt (g := gb232) (o := .cells #[.int .i64 a0_0, .slice A0_1 l0_1.length c0_1] 25 (0, 0)) (by (with_reducible repeat (first | refine blk_drewN ?_ _ | refine blk_drew ?_ | refine blk_alloc ?_ _)); exact BK232.out)) : gb232 ≠ gb251)); have n11_ := Aside0.mk ((by rw [hg]; exact Nat.ne_of_gt (blk_lt (g := gb232) (o := .cells #[.int .i64 a0_0, .slice A0_1 l0_1.length c0_1] 25 (0, 0)) (by (with_reducible repeat (first | refine blk_drewN ?_ _ | refine blk_drew ?_ | refine blk_alloc ?_ _)); exact BK232.out)) : gb251 ≠ gb232)); have n12_ := Aside0.mk ((by rw [hg]; exact Nat.ne_of_lt (blk_lt (g := gb239) (o := .cells #[.int .i64 t234, .slice Ao24 t235.length co24] 25 (0, 0)) (by (with_reducible repeat (first | refine blk_drewN ?_ _ | refine blk_drew ?_ | refine blk_alloc ?_ _)); exact BK239.out)) : gb239 ≠ gb251)); have n13_ := Aside0.mk ((by rw [hg]; exact Nat.ne_of_gt (blk_lt (g := gb239) (o := .cells #[.int .i64 t234, .slice Ao24 t235.length co24] 25 (0, 0)) (by (with_reducible repeat (first | refine blk_drewN ?_ _ | refine blk_drew ?_ | refine blk_alloc ?_ _)); exact BK239.out)) : gb251 ≠ gb239)); have n14_ := Aside0.mk ((by rw [hg]; exact Nat.ne_of_lt (blk_lt (g := gb245) (o := .cells #[.int .i64 t240, .slice Ao30 t241.length co30] 25 (0, 0)) (by (with_reducible repeat (first | refine blk_drewN ?_ _ | refine blk_drew ?_ | refine blk_alloc ?_ _)); exact BK245.out)) : gb245 ≠ gb251)); have n15_ := Aside0.mk ((by rw [hg]; exact Nat.ne_of_gt (blk_lt (g := gb245) (o := .cells #[.int .i64 t240, .slice Ao30 t241.length co30] 25 (0, 0)) (by (with_reducible repeat (first | refine blk_drewN ?_ _ | refine blk_drew ?_ | refine blk_alloc ?_ _)); exact BK245.out)) : gb251 ≠ gb245)); clear HO237; clear HO243; clear HO249; clear BK232; clear BK239; clear BK245; clear HB; have HO237 := n0_; have HO243 := n1_; have HO249 := n2_; have BK232 := n3_; have BK239 := n4_; have BK245 := n5_; have HB := n6_; have BK251 := n7_; have GW251 := n8_; have GE251 := n9_; have NB232_251 := n10_; have NB251_232 := n11_; have NB239_251 := n12_; have NB251_239 := n13_; have NB245_251 := n14_; have NB251_245 := n15_; clear n0_ n1_ n2_ n3_ n4_ n5_ n6_ n7_ n8_ n9_ n10_ n11_ n12_ n13_ n14_ n15_; clear hb hbox hg; have hnb34 := NB251_232.out; have hnc34 := NB232_251.out; have hnb35 := NB251_239.out; have hnc35 := NB239_251.out; have hnb36 := NB251_245.out; have hnc36 := NB245_251.out; have hcz37_0 : w33.cell? ⟨gb251, 0, none⟩ = some (.int .i64 0) := (blk_cell BK251.out 0).trans rfl; have hcz37_1 : w33.cell? ⟨gb251, 1, none⟩ = some (.slice none 0 0) := (blk_cell BK251.out 1).trans rfl; have hfz37_0 := blk_frozen BK251.out 0; have hfz37_1 := blk_frozen BK251.out 1; obtain ⟨Ao38, co38, eo38⟩ := Kd.R_slice HO249.out; subst eo38) | ((with_reducible refine gate_callee (f := 14) rfl ?_); refine goesL_ (some 56) rfl rfl Try.func14 (by kernel_rfl) rfl #[.agg #[.int .i64 t246, .slice Ao38 t247.length co38], .int .i64 a1, .int .i64 a3] rfl (by (try simp only [List.map_toArray, List.map_cons, List.map_nil]); first | done | rfl | (simp only [List.length_drop, List.length_take]; rfl)) ?_; (with_reducible refine (beacon_With.calls t246 _ _ t247 a1 a3 t252 t253 t256 _ ?side1 ?side2 A17.out).mono ?_); (case side1 => refine (Kd.R_reads' (e := 59) (base := w.heap.size) (ok := fun k_ => ((True ∧ some k_ ≠ (.slice Ao24 t235.length co24 : Value).ownBlock) ∧ some k_ ≠ (.slice Ao30 t241.length co30 : Value).ownBlock)) (n := t247.length) (c := co38) ?_).2.2; exact (by (with_reducible repeat (first | apply Kd.R_alloc | apply Kd.R_drewN | apply Kd.R_drew)); exact (Kd.R_mono (Kd.R_far (p := ⟨gb251, 1, none⟩) (Kd.R_far (p := ⟨gb251, 0, none⟩) (Kd.R_types HO249.out BK251.out (by decide)) (fun _ hk => hk.2) (.int .i64 t246)) (fun _ hk => hk.2) (.slice Ao38 t247.length co38)) (fun _ h_ => h_.1)))); (case side2 => exact (Kd.R_reads' HO249.out).2.1); rintro e w39 ⟨v254, rfl, ho0, hb⟩; refine ⟨_, rfl, ?_⟩; have n0_ := Aside0.mk (Kd.R_elder' (by (with_reducible repeat (first | apply Kd.R_alloc | apply Kd.R_drewN | apply Kd.R_drew)); exact (Kd.R_mono (Kd.R_far (p := ⟨gb251, 1, none⟩) (Kd.R_far (p := ⟨gb251, 0, none⟩) (Kd.R_types HO237.out BK251.out (by decide)) (fun _ hk => hk.2) (.int .i64 t246)) (fun _ hk => hk.2) (.slice Ao38 t247.length co38)) (fun _ h_ => h_.1))) (Kd.R_base ho0) hb); have n1_ := Aside0.mk (Kd.R_elder' (by (with_reducible repeat (first | apply Kd.R_alloc | apply Kd.R_drewN | apply Kd.R_drew)); exact (Kd.R_mono (Kd.R_far (p := ⟨gb251, 1, none⟩) (Kd.R_far (p := ⟨gb251, 0, none⟩) (Kd.R_types HO243.out BK251.out (by decide)) (fun _ hk => hk.2) (.int .i64 t246)) (fun _ hk => hk.2) (.slice Ao38 t247.length co38)) (fun _ h_ => h_.1))) (Kd.R_base ho0) hb); have n2_ := Aside0.mk (Kd.R_elder' (by (with_reducible repeat (first | apply Kd.R_alloc | apply Kd.R_drewN | apply Kd.R_drew)); exact (Kd.R_mono (Kd.R_far (p := ⟨gb251, 1, none⟩) (Kd.R_far (p := ⟨gb251, 0, none⟩) (Kd.R_types HO249.out BK251.out (by decide)) (fun _ hk => hk.2) (.int .i64 t246)) (fun _ hk => hk.2) (.slice Ao38 t247.length co38)) (fun _ h_ => h_.1))) (Kd.R_base ho0) hb); have n3_ := Aside0.mk (Kd.R_lower (Kd.R_new' (Kd.R_new' (Kd.R_new' ho0 (Kd.R_lt (by (with_reducible repeat (first | apply Kd.R_alloc | apply Kd.R_drewN | apply Kd.R_drew)); exact (Kd.R_mono (Kd.R_far (p := ⟨gb251, 1, none⟩) (Kd.R_far (p := ⟨gb251, 0, none⟩) (Kd.R_types HO237.out BK251.out (by decide)) (fun _ hk => hk.2) (.int .i64 t246)) (fun _ hk => hk.2) (.slice Ao38 t247.length co38)) (fun _ h_ => h_.1))))) (Kd.R_lt (by (with_reducible repeat (first | apply Kd.R_alloc | apply Kd.R_drewN | apply Kd.R_drew)); exact (Kd.R_mono (Kd.R_far (p := ⟨gb251, 1, none⟩) (Kd.R_far (p := ⟨gb251, 0, none⟩) (Kd.R_types HO243.out BK251.out (by decide)) (fun _ hk => hk.2) (.int .i64 t246)) (fun _ hk => hk.2) (.slice Ao38 t247.length co38)) (fun _ h_ => h_.1))))) (Kd.R_lt (by (with_reducible repeat (first | apply Kd.R_alloc | apply Kd.R_drewN | apply Kd.R_drew)); exact (Kd.R_mono (Kd.R_far (p := ⟨gb251, 1, none⟩) (Kd.R_far (p := ⟨gb251, 0, none⟩) (Kd.R_types HO249.out BK251.out (by decide)) (fun _ hk => hk.2) (.int .i64 t246)) (fun _ hk => hk.2) (.slice Ao38 t247.length co38)) (fun _ h_ => h_.1))))) (below_size (by repeat (first | (with_reducible first | exact HB.out | apply below_alloc | apply pw_below_drewN | apply below_drew1 | refine below_set ?_ GE232.out | refine below_set ?_ GE239.out | refine below_set ?_ GE245.out | refine below_set ?_ GE251.out) | exact HB.out)))); have n4_ := Aside0.mk (blk_below (g := gb232) (o := .cells #[.int .i64 a0_0, .slice A0_1 l0_1.length c0_1] 25 (0, 0)) (by (with_reducible repeat (first | refine blk_drewN ?_ _ | refine blk_drew ?_ | refine blk_alloc ?_ _)); refine blk_far ?_ NB232_251.out _; (with_reducible repeat (first | refine blk_drewN ?_ _ | refine blk_drew ?_ | refine blk_alloc ?_ _)); refine blk_far ?_ NB232_251.out _; (with_reducible repeat (first | refine blk_drewN ?_ _ | refine blk_drew ?_ | refine blk_alloc ?_ _)); exact BK232.out) hb); have n5_ := Aside0.mk (blk_below (g := gb239) (o := .cells #[.int .i64 t234, .slice Ao24 t235.length co24] 25 (0, 0)) (by (with_reducible repeat (first | refine blk_drewN ?_ _ | refine blk_drew ?_ | refine blk_alloc ?_ _)); refine blk_far ?_ NB239_251.out _; (with_reducible repeat (first | refine blk_drewN ?_ _ | refine blk_drew ?_ | refine blk_alloc ?_ _)); refine blk_far ?_ NB239_251.out _; (with_reducible repeat (first | refine blk_drewN ?_ _ | refine blk_drew ?_ | refine blk_alloc ?_ _)); exact BK239.out) hb); have n6_ := Aside0.mk (blk_below (g := gb245) (o := .cells #[.int .i64 t240, .slice Ao30 t241.length co30] 25 (0, 0)) (by (with_reducible repeat (first | refine blk_drewN ?_ _ | refine blk_drew ?_ | refine blk_alloc ?_ _)); refine blk_far ?_ NB245_251.out _; (with_reducible repeat (first | refine blk_drewN ?_ _ | refine blk_drew ?_ | refine blk_alloc ?_ _)); refine blk_far ?_ NB245_251.out _; (with_reducible repeat (first | refine blk_drewN ?_ _ | refine blk_drew ?_ | refine blk_alloc ?_ _)); exact BK245.out) hb); have n7_ := Aside0.mk (blk_below (g := gb251) (o := .cells #[.int .i64 t246, .slice Ao38 t247.length co38] 25 (0, 0)) (by (with_reducible repeat (first | refine blk_drewN ?_ _ | refine blk_drew ?_ | refine blk_alloc ?_ _)); refine blk_put (cs := #[.int .i64 t246, .slice none 0 0]) ?_ 1 _ rfl; (with_reducible repeat (first | refine blk_drewN ?_ _ | refine blk_drew ?_ | refine blk_alloc ?_ _)); refine blk_put (cs := #[.int .i64 0, .slice none 0 0]) ?_ 0 _ rfl; (with_reducible repeat (first | refine blk_drewN ?_ _ | refine blk_drew ?_ | refine blk_alloc ?_ _)); exact BK251.out) hb); have n8_ := Aside0.mk (below_step (by repeat (first | (with_reducible first | exact HB.out | apply below_alloc | apply pw_below_drewN | apply below_drew1 | refine below_set ?_ GE232.out | refine below_set ?_ GE239.out | refine below_set ?_ GE245.out | refine below_set ?_ GE251.out) | exact HB.out)) hb); clear HO237; clear HO243; clear HO249; clear BK232; clear BK239; clear BK245; clear BK251; clear HB; have HO237 := n0_; have HO243 := n1_; have HO249 := n2_; have HO255 := n3_; have BK232 := n4_; have BK239 := n5_; have BK245 := n6_; have BK251 := n7_; have HB := n8_; clear n0_ n1_ n2_ n3_ n4_ n5_ n6_ n7_ n8_; (try clear hb); (try clear hb2); (try clear hk); (try clear hi); (try clear ho0)) | ((with_reducible refine gate_dst (N := 17) rfl ?_); refine box_event ?hg (N := 17) ?hd (cs := #[.int .i64 0, .slice none 0 0]) (t := 25) ?hr ?_; (case hd => rfl); (case hg => rfl); (case hr => first | (go_simp; done) | (go_simp; rfl)); intro gb257 hg w40 hbox hb; have n0_ := Aside0.mk (Kd.R_below (by (with_reducible repeat (first | apply Kd.R_alloc | apply Kd.R_drewN | apply Kd.R_drew)); exact HO237.out) hb); have n1_ := Aside0.mk (Kd.R_below (by (with_reducible repeat (first | apply Kd.R_alloc | apply Kd.R_drewN | apply Kd.R_drew)); exact HO243.out) hb); have n2_ := Aside0.mk (Kd.R_below (by (with_reducible repeat (first | apply Kd.R_alloc | apply Kd.R_drewN | apply Kd.R_drew)); exact HO249.out) hb); have n3_ := Aside0.mk (Kd.R_below (by (with_reducible repeat (first | apply Kd.R_alloc | apply Kd.R_drewN | apply Kd.R_drew)); exact HO255.out) hb); have n4_ := Aside0.mk (blk_below (g := gb232) (o := .cells #[.int .i64 a0_0, .slice A0_1 l0_1.length c0_1] 25 (0, 0)) (by (with_reducible repeat (first | refine blk_drewN ?_ _ | refine blk_drew ?_ | refine blk_alloc ?_ _)); exact BK232.out) hb); have n5_ := Aside0.mk (blk_below (g := gb239) (o := .cells #[.int .i64 t234, .slice Ao24 t235.length co24] 25 (0, 0)) (by (with_reducible repeat (first | refine blk_drewN ?_ _ | refine blk_drew ?_ | refine blk_alloc ?_ _)); exact BK239.out) hb); have n6_ := Aside0.mk (blk_below (g := gb245) (o := .cells #[.int .i64 t240, .slice Ao30 t241.length co30] 25 (0, 0)) (by (with_reducible repeat (first | refine blk_drewN ?_ _ | refine blk_drew ?_ | refine blk_alloc ?_ _)); exact BK245.out) hb); have n7_ := Aside0.mk (blk_below (g := gb251) (o := .cells #[.int .i64 t246, .slice Ao38 t247.length co38] 25 (0, 0)) (by (with_reducible repeat (first | refine blk_drewN ?_ _ | refine blk_drew ?_ | refine blk_alloc ?_ _)); exact BK251.out) hb); have n8_ := Aside0.mk (below_step (by repeat (first | (with_reducible first | exact HB.out | apply below_alloc | apply pw_below_drewN | apply below_drew1 | refine below_set ?_ GE232.out | refine below_set ?_ GE239.out | refine below_set ?_ GE245.out | refine below_set ?_ GE251.out) | exact HB.out)) hb); have n9_ := Aside0.mk (hbox); have n10_ := Aside0.mk ((by rw [hg]; exact (below_size (by repeat (first | (with_reducible first | exact HB.out | apply below_alloc | apply pw_below_drewN | apply below_drew1 | refine below_set ?_ GE232.out | refine below_set ?_ GE239.out | refine below_set ?_ GE245.out | refine below_set ?_ GE251.out) | exact HB.out))) : w.heap.size ≤ gb257)); have n11_ := Aside0.mk ((by rw [hg]; exact (below_size (by repeat (first | (with_reducible first | exact HB.out | apply below_alloc | apply pw_below_drewN | apply below_drew1 | refine below_set ?_ GE232.out | refine below_set ?_ GE239.out | refine below_set ?_ GE245.out | refine below_set ?_ GE251.out) | exact HB.out))) : w.heap.size ≤ gb257)); have n12_ := Aside0.mk ((by rw [hg]; exact Nat.ne_of_lt (blk_lt (g := gb232) (o := .cells #[.int .i64 a0_0, .slice A0_1 l0_1.length c0_1] 25 (0, 0)) (by (with_reducible repeat (first | refine blk_drewN ?_ _ | refine blk_drew ?_ | refine blk_alloc ?_ _)); exact BK232.out)) : gb232 ≠ gb257)); have n13_ := Aside0.mk ((by rw [hg]; exact Nat.ne_of_gt (blk_lt (g := gb232) (o := .cells #[.int .i64 a0_0, .slice A0_1 l0_1.length c0_1] 25 (0, 0)) (by (with_reducible repeat (first | refine blk_drewN ?_ _ | refine blk_drew ?_ | refine blk_alloc ?_ _)); exact BK232.out)) : gb257 ≠ gb232)); have n14_ := Aside0.mk ((by rw [hg]; exact Nat.ne_of_lt (blk_lt (g := gb239) (o := .cells #[.int .i64 t234, .slice Ao24 t235.length co24] 25 (0, 0)) (by (with_reducible repeat (first | refine blk_drewN ?_ _ | refine blk_drew ?_ | refine blk_alloc ?_ _)); exact BK239.out)) : gb239 ≠ gb257)); have n15_ := Aside0.mk ((by rw [hg]; exact Nat.ne_of_gt (blk_lt (g := gb239) (o := .cells #[.int .i64 t234, .slice Ao24 t235.length co24] 25 (0, 0)) (by (with_reducible repeat (first | refine blk_drewN ?_ _ | refine blk_drew ?_ | refine blk_alloc ?_ _)); exact BK239.out)) : gb257 ≠ gb239)); have n16_ := Aside0.mk ((by rw [hg]; exact Nat.ne_of_lt (blk_lt (g := gb245) (o := .cells #[.int .i64 t240, .slice Ao30 t241.length co30] 25 (0, 0)) (by (with_reducible repeat (first | refine blk_drewN ?_ _ | refine blk_drew ?_ | refine blk_alloc ?_ _)); exact BK245.out)) : gb245 ≠ gb257)); have n17_ := Aside0.mk ((by rw [hg]; exact Nat.ne_of_gt (blk_lt (g := gb245) (o := .cells #[.int .i64 t240, .slice Ao30 t241.length co30] 25 (0, 0)) (by (with_reducible repeat (first | refine blk_drewN ?_ _ | refine blk_drew ?_ | refine blk_alloc ?_ _)); exact BK245.out)) : gb257 ≠ gb245)); have n18_ := Aside0.mk ((by rw [hg]; exact Nat.ne_of_lt (blk_lt (g := gb251) (o := .cells #[.int .i64 t246, .slice Ao38 t247.length co38] 25 (0, 0)) (by (with_reducible repeat (first | refine blk_drewN ?_ _ | refine blk_drew ?_ | refine blk_alloc ?_ _)); exact BK251.out)) : gb251 ≠ gb257)); have n19_ := Aside0.mk ((by rw [hg]; exact Nat.ne_of_gt (blk_lt (g := gb251) (o := .cells #[.int .i64 t246, .slice Ao38 t247.length co38] 25 (0, 0)) (by (with_reducible repeat (first | refine blk_drewN ?_ _ | refine blk_drew ?_ | refine blk_alloc ?_ _)); exact BK251.out)) : gb257 ≠ gb251)); clear HO237; clear HO243; clear HO249; clear HO255; clear BK232; clear BK239; clear BK245; clear BK251; clear HB; have HO237 := n0_; have HO243 := n1_; have HO249 := n2_; have HO255 := n3_; have BK232 := n4_; have BK239 := n5_; have BK245 := n6_; have BK251 := n7_; have HB := n8_; have BK257 := n9_; have GW257 := n10_; have GE257 := n11_; have NB232_257 := n12_; have NB257_232 := n13_; have NB239_257 := n14_; have NB257_239 := n15_; have NB245_257 := n16_; have NB257_245 := n17_; have NB251_257 := n18_; have NB257_251 := n19_; clear n0_ n1_ n2_ n3_ n4_ n5_ n6_ n7_ n8_ n9_ n10_ n11_ n12_ n13_ n14_ n15_ n16_ n17_ n18_ n19_; clear hb hbox hg; have hnb41 := NB257_232.out; have hnc41 := NB232_257.out; have hnb42 := NB257_239.out; have hnc42 := NB239_257.out; have hnb43 := NB257_245.out; have hnc43 := NB245_257.out; have hnb44 := NB257_251.out; have hnc44 := NB251_257.out; have hcz45_0 : w40.cell? ⟨gb257, 0, none⟩ = some (.int .i64 0) := (blk_cell BK257.out 0).trans rfl; have hcz45_1 : w40.cell? ⟨gb257, 1, none⟩ = some (.slice none 0 0) := (blk_cell BK257.out 1).trans rfl; have hfz45_0 := blk_frozen BK257.out 0; have hfz45_1 := blk_frozen BK257.out 1; obtain ⟨Ao46, co46, eo46⟩ := Kd.R_slice HO255.out; subst eo46))
        (try simp only [Act.put, List.setIfInBounds_toArray, List.set_cons_zero, List.set_cons_succ])
        go_cut [64] (fun v64 wc => ∃ (kq : Nat) (x64_17 : Bool), v64 = .bool x64_17 ∧ Aside0 (thalweglaw06_BeaconOrder.j1 kq a1 a3 t244 t256 x64_17 t240 t241 t252 t253 = some r) ∧ Aside0 (kq ≤ kj5) ∧ Aside0 (Kd.R k59 59 wc w.heap.size (fun k_ => some k_ ≠ ((.slice Ao30 t241.length co30) : Value).ownBlock ∧ some k_ ≠ ((.slice Ao38 t247.length co38) : Value).ownBlock ∧ some k_ ≠ ((.slice Ao46 t253.length co46) : Value).ownBlock) (.slice Ao24 t235.length co24) t235) ∧ Aside0 (Kd.R k59 59 wc w.heap.size (fun k_ => some k_ ≠ ((.slice Ao24 t235.length co24) : Value).ownBlock ∧ some k_ ≠ ((.slice Ao38 t247.length co38) : Value).ownBlock ∧ some k_ ≠ ((.slice Ao46 t253.length co46) : Value).ownBlock) (.slice Ao30 t241.length co30) t241) ∧ Aside0 (Kd.R k59 59 wc w.heap.size (fun k_ => some k_ ≠ ((.slice Ao24 t235.length co24) : Value).ownBlock ∧ some k_ ≠ ((.slice Ao30 t241.length co30) : Value).ownBlock ∧ some k_ ≠ ((.slice Ao46 t253.length co46) : Value).ownBlock) (.slice Ao38 t247.length co38) t247) ∧ Aside0 (Kd.R k59 59 wc w.heap.size (fun k_ => some k_ ≠ ((.slice Ao24 t235.length co24) : Value).ownBlock ∧ some k_ ≠ ((.slice Ao30 t241.length co30) : Value).ownBlock ∧ some k_ ≠ ((.slice Ao38 t247.length co38) : Value).ownBlock) (.slice Ao46 t253.length co46) t253) ∧ Aside0 (wc.heap[gb232]? = some (.cells #[.int .i64 a0_0, (.slice A0_1 l0_1.length c0_1)] 25 (0, 0))) ∧ Aside0 (wc.heap[gb239]? = some (.cells #[.int .i64 t234, (.slice Ao24 t235.length co24)] 25 (0, 0))) ∧ Aside0 (wc.heap[gb245]? = some (.cells #[.int .i64 t240, (.slice Ao30 t241.length co30)] 25 (0, 0))) ∧ Aside0 (wc.heap[gb251]? = some (.cells #[.int .i64 t246, (.slice Ao38 t247.length co38)] 25 (0, 0))) ∧ Aside0 (wc.heap[gb257]? = some (.cells #[.int .i64 t252, (.slice Ao46 t253.length co46)] 25 (0, 0))) ∧ Aside0 (Below w.heap.size w wc))
        case first =>
          have H := HC18.out
          clear HC18
          by_cases c47 : t238 = 0
          · rw [if_pos c47] at H
            have c47b0 : (t238 == 0) = true := beq_iff_eq.mpr c47
            have c47b1 : (t238 != 0) = false := bne_eq_false_iff_eq.mpr c47
            clear c47
            (first | rw [c47b0] | (simp only [i64_w, i32_w]; rw [c47b0]) | rw [c47b1] | skip)
            have H' := Aside0.mk H
            clear H
            go_wp2
            go_meet
            case rel => exact ⟨_, ((t250 != 0)), (by first | rfl | (simp; done) | (simp [*]; done)), H', ⟨by have := HJ5.out; first | omega | exact Nat.le_refl _⟩, ⟨by (with_reducible repeat (first | apply Kd.R_alloc | apply Kd.R_drewN | apply Kd.R_drew)); exact Kd.R_mono (Kd.R_far (p := ⟨gb257, 1, none⟩) (Kd.R_far (p := ⟨gb257, 0, none⟩) (Kd.R_types HO237.out BK257.out (by decide)) (fun _ hk => hk.2) (.int .i64 t252)) (fun _ hk => hk.2) (.slice Ao46 t253.length co46)) (fun _ hk => ⟨hk.1.1.1.2, ⟨hk.1.1.2, hk.1.2⟩⟩)⟩, ⟨by (with_reducible repeat (first | apply Kd.R_alloc | apply Kd.R_drewN | apply Kd.R_drew)); exact Kd.R_mono (Kd.R_far (p := ⟨gb257, 1, none⟩) (Kd.R_far (p := ⟨gb257, 0, none⟩) (Kd.R_types HO243.out BK257.out (by decide)) (fun _ hk => hk.2) (.int .i64 t252)) (fun _ hk => hk.2) (.slice Ao46 t253.length co46)) (fun _ hk => ⟨hk.1.1.1.2, ⟨hk.1.1.2, hk.1.2⟩⟩)⟩, ⟨by (with_reducible repeat (first | apply Kd.R_alloc | apply Kd.R_drewN | apply Kd.R_drew)); exact Kd.R_mono (Kd.R_far (p := ⟨gb257, 1, none⟩) (Kd.R_far (p := ⟨gb257, 0, none⟩) (Kd.R_types HO249.out BK257.out (by decide)) (fun _ hk => hk.2) (.int .i64 t252)) (fun _ hk => hk.2) (.slice Ao46 t253.length co46)) (fun _ hk => ⟨hk.1.1.1.2, ⟨hk.1.1.2, hk.1.2⟩⟩)⟩, ⟨by (with_reducible repeat (first | apply Kd.R_alloc | apply Kd.R_drewN | apply Kd.R_drew)); exact Kd.R_mono (Kd.R_far (p := ⟨gb257, 1, none⟩) (Kd.R_far (p := ⟨gb257, 0, none⟩) (Kd.R_types HO255.out BK257.out (by decide)) (fun _ hk => hk.2) (.int .i64 t252)) (fun _ hk => hk.2) (.slice Ao46 t253.length co46)) (fun _ hk => ⟨hk.1.1.1.2, ⟨hk.1.1.2, hk.1.2⟩⟩)⟩, ⟨by (with_reducible repeat (first | refine blk_drewN ?_ _ | refine blk_drew ?_ | refine blk_alloc ?_ _)); refine blk_far ?_ NB232_257.out _; (with_reducible repeat (first | refine blk_drewN ?_ _ | refine blk_drew ?_ | refine blk_alloc ?_ _)); refine blk_far ?_ NB232_257.out _; (with_reducible repeat (first | refine blk_drewN ?_ _ | refine blk_drew ?_ | refine blk_alloc ?_ _)); exact BK232.out⟩, ⟨by (with_reducible repeat (first | refine blk_drewN ?_ _ | refine blk_drew ?_ | refine blk_alloc ?_ _)); refine blk_far ?_ NB239_257.out _; (with_reducible repeat (first | refine blk_drewN ?_ _ | refine blk_drew ?_ | refine blk_alloc ?_ _)); refine blk_far ?_ NB239_257.out _; (with_reducible repeat (first | refine blk_drewN ?_ _ | refine blk_drew ?_ | refine blk_alloc ?_ _)); exact BK239.out⟩, ⟨by (with_reducible repeat (first | refine blk_drewN ?_ _ | refine blk_drew ?_ | refine blk_alloc ?_ _)); refine blk_far ?_ NB245_257.out _; (with_reducible repeat (first | refine blk_drewN ?_ _ | refine blk_drew ?_ | refine blk_alloc ?_ _)); refine blk_far ?_ NB245_257.out _; (with_reducible repeat (first | refine blk_drewN ?_ _ | refine blk_drew ?_ | refine blk_alloc ?_ _)); exact BK245.out⟩, ⟨by (with_reducible repeat (first | refine blk_drewN ?_ _ | refine blk_drew ?_ | refine blk_alloc ?_ _)); refine blk_far ?_ NB251_257.out _; (with_reducible repeat (first | refine blk_drewN ?_ _ | refine blk_drew ?_ | refine blk_alloc ?_ _)); refine blk_far ?_ NB251_257.out _; (with_reducible repeat (first | refine blk_drewN ?_ _ | refine blk_drew ?_ | refine blk_alloc ?_ _)); exact BK251.out⟩, ⟨by (with_reducible repeat (first | refine blk_drewN ?_ _ | refine blk_drew ?_ | refine blk_alloc ?_ _)); refine blk_put (cs := #[.int .i64 t252, .slice none 0 0]) ?_ 1 _ rfl; (with_reducible repeat (first | refine blk_drewN ?_ _ | refine blk_drew ?_ | refine blk_alloc ?_ _)); refine blk_put (cs := #[.int .i64 0, .slice none 0 0]) ?_ 0 _ rfl; (with_reducible repeat (first | refine blk_drewN ?_ _ | refine blk_drew ?_ | refine blk_alloc ?_ _)); exact BK257.out⟩, ⟨by repeat (first | (with_reducible first | exact HB.out | apply below_alloc | apply pw_below_drewN | apply below_drew1 | refine below_set ?_ GE232.out | refine below_set ?_ GE239.out | refine below_set ?_ GE245.out | refine below_set ?_ GE251.out | refine below_set ?_ GE257.out) | exact HB.out)⟩⟩
          · rw [if_neg c47] at H
            have c47b0 : (t238 == 0) = false := beq_eq_false_iff_ne.mpr c47
            have c47b1 : (t238 != 0) = true := bne_iff_ne.mpr c47
            (first | rw [c47b0] | (simp only [i64_w, i32_w]; rw [c47b0]) | rw [c47b1] | skip)
            have H' := Aside0.mk H
            clear H
            go_wp2
            go_meet
            case rel => exact ⟨_, (true), (by first | rfl | (simp; done) | (simp [*]; done)), H', ⟨by have := HJ5.out; first | omega | exact Nat.le_refl _⟩, ⟨by (with_reducible repeat (first | apply Kd.R_alloc | apply Kd.R_drewN | apply Kd.R_drew)); exact Kd.R_mono (Kd.R_far (p := ⟨gb257, 1, none⟩) (Kd.R_far (p := ⟨gb257, 0, none⟩) (Kd.R_types HO237.out BK257.out (by decide)) (fun _ hk => hk.2) (.int .i64 t252)) (fun _ hk => hk.2) (.slice Ao46 t253.length co46)) (fun _ hk => ⟨hk.1.1.1.2, ⟨hk.1.1.2, hk.1.2⟩⟩)⟩, ⟨by (with_reducible repeat (first | apply Kd.R_alloc | apply Kd.R_drewN | apply Kd.R_drew)); exact Kd.R_mono (Kd.R_far (p := ⟨gb257, 1, none⟩) (Kd.R_far (p := ⟨gb257, 0, none⟩) (Kd.R_types HO243.out BK257.out (by decide)) (fun _ hk => hk.2) (.int .i64 t252)) (fun _ hk => hk.2) (.slice Ao46 t253.length co46)) (fun _ hk => ⟨hk.1.1.1.2, ⟨hk.1.1.2, hk.1.2⟩⟩)⟩, ⟨by (with_reducible repeat (first | apply Kd.R_alloc | apply Kd.R_drewN | apply Kd.R_drew)); exact Kd.R_mono (Kd.R_far (p := ⟨gb257, 1, none⟩) (Kd.R_far (p := ⟨gb257, 0, none⟩) (Kd.R_types HO249.out BK257.out (by decide)) (fun _ hk => hk.2) (.int .i64 t252)) (fun _ hk => hk.2) (.slice Ao46 t253.length co46)) (fun _ hk => ⟨hk.1.1.1.2, ⟨hk.1.1.2, hk.1.2⟩⟩)⟩, ⟨by (with_reducible repeat (first | apply Kd.R_alloc | apply Kd.R_drewN | apply Kd.R_drew)); exact Kd.R_mono (Kd.R_far (p := ⟨gb257, 1, none⟩) (Kd.R_far (p := ⟨gb257, 0, none⟩) (Kd.R_types HO255.out BK257.out (by decide)) (fun _ hk => hk.2) (.int .i64 t252)) (fun _ hk => hk.2) (.slice Ao46 t253.length co46)) (fun _ hk => ⟨hk.1.1.1.2, ⟨hk.1.1.2, hk.1.2⟩⟩)⟩, ⟨by (with_reducible repeat (first | refine blk_drewN ?_ _ | refine blk_drew ?_ | refine blk_alloc ?_ _)); refine blk_far ?_ NB232_257.out _; (with_reducible repeat (first | refine blk_drewN ?_ _ | refine blk_drew ?_ | refine blk_alloc ?_ _)); refine blk_far ?_ NB232_257.out _; (with_reducible repeat (first | refine blk_drewN ?_ _ | refine blk_drew ?_ | refine blk_alloc ?_ _)); exact BK232.out⟩, ⟨by (with_reducible repeat (first | refine blk_drewN ?_ _ | refine blk_drew ?_ | refine blk_alloc ?_ _)); refine blk_far ?_ NB239_257.out _; (with_reducible repeat (first | refine blk_drewN ?_ _ | refine blk_drew ?_ | refine blk_alloc ?_ _)); refine blk_far ?_ NB239_257.out _; (with_reducible repeat (first | refine blk_drewN ?_ _ | refine blk_drew ?_ | refine blk_alloc ?_ _)); exact BK239.out⟩, ⟨by (with_reducible repeat (first | refine blk_drewN ?_ _ | refine blk_drew ?_ | refine blk_alloc ?_ _)); refine blk_far ?_ NB245_257.out _; (with_reducible repeat (first | refine blk_drewN ?_ _ | refine blk_drew ?_ | refine blk_alloc ?_ _)); refine blk_far ?_ NB245_257.out _; (with_reducible repeat (first | refine blk_drewN ?_ _ | refine blk_drew ?_ | refine blk_alloc ?_ _)); exact BK245.out⟩, ⟨by (with_reducible repeat (first | refine blk_drewN ?_ _ | refine blk_drew ?_ | refine blk_alloc ?_ _)); refine blk_far ?_ NB251_257.out _; (with_reducible repeat (first | refine blk_drewN ?_ _ | refine blk_drew ?_ | refine blk_alloc ?_ _)); refine blk_far ?_ NB251_257.out _; (with_reducible repeat (first | refine blk_drewN ?_ _ | refine blk_drew ?_ | refine blk_alloc ?_ _)); exact BK251.out⟩, ⟨by (with_reducible repeat (first | refine blk_drewN ?_ _ | refine blk_drew ?_ | refine blk_alloc ?_ _)); refine blk_put (cs := #[.int .i64 t252, .slice none 0 0]) ?_ 1 _ rfl; (with_reducible repeat (first | refine blk_drewN ?_ _ | refine blk_drew ?_ | refine blk_alloc ?_ _)); refine blk_put (cs := #[.int .i64 0, .slice none 0 0]) ?_ 0 _ rfl; (with_reducible repeat (first | refine blk_drewN ?_ _ | refine blk_drew ?_ | refine blk_alloc ?_ _)); exact BK257.out⟩, ⟨by repeat (first | (with_reducible first | exact HB.out | apply below_alloc | apply pw_below_drewN | apply below_drew1 | refine below_set ?_ GE232.out | refine below_set ?_ GE239.out | refine below_set ?_ GE245.out | refine below_set ?_ GE251.out | refine below_set ?_ GE257.out) | exact HB.out)⟩⟩
        case rest =>
          clear HC18
          try clear c1
          try clear c2
          try clear p2
          try clear c3
          try clear c4
          try clear c5
          try clear c8
          try clear c8b0
          try clear c8b1
          try clear c10
          try clear c11
          try clear c14
          try clear c22
          try clear c27
          try clear c28
          try clear c34
          try clear c35
          try clear c36
          try clear c41
          try clear c42
          try clear c43
          try clear c44
          try clear c47
          try clear c47b0
          try clear c47b1
          try clear hcz10_0
          try clear hcz10_1
          try clear hcz19_0
          try clear hcz19_1
          try clear hcz23_0
          try clear hcz23_1
          try clear hcz29_0
          try clear hcz29_1
          try clear hcz31_0
          try clear hcz31_1
          try clear hcz37_0
          try clear hcz37_1
          try clear hcz45_0
          try clear hcz45_1
          try clear hcz9_0
          try clear hcz9_1
          try clear hfz10_0
          try clear hfz10_1
          try clear hfz19_0
          try clear hfz19_1
          try clear hfz23_0
          try clear hfz23_1
          try clear hfz29_0
          try clear hfz29_1
          try clear hfz31_0
          try clear hfz31_1
          try clear hfz37_0
          try clear hfz37_1
          try clear hfz45_0
          try clear hfz45_1
          try clear hfz9_0
          try clear hfz9_1
          try clear p2
          obtain ⟨kq, x64_17, rfl, HA, HJ17, HO_240001, HO_246001, HO_252001, HO_258001, BK232, BK239, BK245, BK251, BK257, HB⟩ := hcut
          cases kq with
          | zero => exact absurd HA.out (by simp [thalweglaw06_BeaconOrder.j1])
          | succ kj17 =>
            have H := HA.out
            clear HA
            simp only [thalweglaw06_BeaconOrder.j1] at H
            by_cases c48 : x64_17 = true
            · subst c48
              have H1 : ((thalweglaw06_awake.f kj17).bind fun t258 => (some t258)) = some r := by rw [if_pos rfl] at H; exact H
              clear H
              have H := H1
              clear H1
              replace H := Option.bind_eq_some_iff.mp H
              obtain ⟨t258, A490, H⟩ := H
              replace H : (some t258) = some r := H
              have A49 := Aside0.mk A490
              clear A490
              obtain rfl := Option.some.inj H
              go_wp2_with (first | ((with_reducible refine gate_callee (f := 10) rfl ?_); refine goesL_ (some 65) rfl rfl Try.func10 (by kernel_rfl) rfl #[] rfl (by (try simp only [List.map_toArray, List.map_cons, List.map_nil]); first | done | rfl | (simp only [List.length_drop, List.length_take]; rfl)) ?_; (with_reducible refine (thalweglaw06_awake.calls kj17  t258 _ A49.out).mono ?_); rintro e w50 ⟨rfl, hb⟩; refine ⟨_, rfl, ?_⟩; have n0_ := Aside0.mk (Kd.R_below (by (with_reducible repeat (first | apply Kd.R_alloc | apply Kd.R_drewN | apply Kd.R_drew)); exact HO_240001.out) hb); have n1_ := Aside0.mk (Kd.R_below (by (with_reducible repeat (first | apply Kd.R_alloc | apply Kd.R_drewN | apply Kd.R_drew)); exact HO_246001.out) hb); have n2_ := Aside0.mk (Kd.R_below (by (with_reducible repeat (first | apply Kd.R_alloc | apply Kd.R_drewN | apply Kd.R_drew)); exact HO_252001.out) hb); have n3_ := Aside0.mk (Kd.R_below (by (with_reducible repeat (first | apply Kd.R_alloc | apply Kd.R_drewN | apply Kd.R_drew)); exact HO_258001.out) hb); have n4_ := Aside0.mk (blk_below (g := gb232) (o := .cells #[.int .i64 a0_0, .slice A0_1 l0_1.length c0_1] 25 (0, 0)) (by (with_reducible repeat (first | refine blk_drewN ?_ _ | refine blk_drew ?_ | refine blk_alloc ?_ _)); exact BK232.out) hb); have n5_ := Aside0.mk (blk_below (g := gb239) (o := .cells #[.int .i64 t234, .slice Ao24 t235.length co24] 25 (0, 0)) (by (with_reducible repeat (first | refine blk_drewN ?_ _ | refine blk_drew ?_ | refine blk_alloc ?_ _)); exact BK239.out) hb); have n6_ := Aside0.mk (blk_below (g := gb245) (o := .cells #[.int .i64 t240, .slice Ao30 t241.length co30] 25 (0, 0)) (by (with_reducible repeat (first | refine blk_drewN ?_ _ | refine blk_drew ?_ | refine blk_alloc ?_ _)); exact BK245.out) hb); have n7_ := Aside0.mk (blk_below (g := gb251) (o := .cells #[.int .i64 t246, .slice Ao38 t247.length co38] 25 (0, 0)) (by (with_reducible repeat (first | refine blk_drewN ?_ _ | refine blk_drew ?_ | refine blk_alloc ?_ _)); exact BK251.out) hb); have n8_ := Aside0.mk (blk_below (g := gb257) (o := .cells #[.int .i64 t252, .slice Ao46 t253.length co46] 25 (0, 0)) (by (with_reducible repeat (first | refine blk_drewN ?_ _ | refine blk_drew ?_ | refine blk_alloc ?_ _)); exact BK257.out) hb); have n9_ := Aside0.mk (below_step (by repeat (first | (with_reducible first | exact HB.out | apply below_alloc | apply pw_below_drewN | apply below_drew1 | refine below_set ?_ GE232.out | refine below_set ?_ GE239.out | refine below_set ?_ GE245.out | refine below_set ?_ GE251.out | refine below_set ?_ GE257.out) | exact HB.out)) hb); clear HO_240001; clear HO_246001; clear HO_252001; clear HO_258001; clear BK232; clear BK239; clear BK245; clear BK251; clear BK257; clear HB; have HO_240001 := n0_; have HO_246001 := n1_; have HO_252001 := n2_; have HO_258001 := n3_; have BK232 := n4_; have BK239 := n5_; have BK245 := n6_; have BK251 := n7_; have BK257 := n8_; have HB := n9_; clear n0_ n1_ n2_ n3_ n4_ n5_ n6_ n7_ n8_ n9_; (try clear hb); (try clear hb2); (try clear hk); (try clear hi)))
              go_ret
              exact ⟨by first | rfl | (simp [errW_none, errW_some] <;> rfl) | (simp [*, errW_none, errW_some] <;> rfl), by repeat (first | (with_reducible first | exact HB.out | apply below_alloc | apply pw_below_drewN | apply below_drew1 | refine below_set ?_ GE232.out | refine below_set ?_ GE239.out | refine below_set ?_ GE245.out | refine below_set ?_ GE251.out | refine below_set ?_ GE257.out) | exact HB.out)⟩
            · replace c48 := Bool.eq_false_iff.mpr c48
              subst c48
              have H1 : ((beacon_With.f t240 t241 a1 a3).bind fun bt259 => ((thalweglaw06_awake.f kj17).bind fun t265 => (if t265 = true then (if t244 = 0 then (if t256 = t244 then (if bt259.2.2 = t244 then ((thalwegref06_Same.f kj17 t240 t241 t252 t253).bind fun t266 => (if t266 = true then ((thalwegref06_Same.f kj17 bt259.1 bt259.2.1 t240 t241).bind fun t267 => (some t267)) else (none))) else (none)) else (none)) else (none)) else (none)))) = some r := by rw [if_neg (show ¬ (false = true) by decide)] at H; exact H
              clear H
              have H := H1
              clear H1
              replace H := Option.bind_eq_some_iff.mp H
              obtain ⟨⟨t259, t260, t263⟩, A510, H⟩ := H
              replace H : ((thalweglaw06_awake.f kj17).bind fun t265 => (if t265 = true then (if t244 = 0 then (if t256 = t244 then (if t263 = t244 then ((thalwegref06_Same.f kj17 t240 t241 t252 t253).bind fun t266 => (if t266 = true then ((thalwegref06_Same.f kj17 t259 t260 t240 t241).bind fun t267 => (some t267)) else (none))) else (none)) else (none)) else (none)) else (none))) = some r := H
              have A51 := Aside0.mk A510
              clear A510
              replace H := Option.bind_eq_some_iff.mp H
              obtain ⟨t265, A520, H⟩ := H
              replace H : (if t265 = true then (if t244 = 0 then (if t256 = t244 then (if t263 = t244 then ((thalwegref06_Same.f kj17 t240 t241 t252 t253).bind fun t266 => (if t266 = true then ((thalwegref06_Same.f kj17 t259 t260 t240 t241).bind fun t267 => (some t267)) else (none))) else (none)) else (none)) else (none)) else (none)) = some r := H
              have A52 := Aside0.mk A520
              clear A520
              by_cases c53 : t265 = true
              · subst c53
                have H1 : (if t244 = 0 then (if t256 = t244 then (if t263 = t244 then ((thalwegref06_Same.f kj17 t240 t241 t252 t253).bind fun t266 => (if t266 = true then ((thalwegref06_Same.f kj17 t259 t260 t240 t241).bind fun t267 => (some t267)) else (none))) else (none)) else (none)) else (none)) = some r := by rw [if_pos rfl] at H; exact H
                clear H
                have H := H1
                clear H1
                by_cases c54 : t244 = 0
                rotate_left
                · rw [if_neg c54] at H
                  exact absurd H (by simp)
                rw [if_pos c54] at H
                have c54b0 : (t244 == 0) = true := beq_iff_eq.mpr c54
                have c54b1 : (t244 != 0) = false := bne_eq_false_iff_eq.mpr c54
                clear c54
                by_cases c55 : t256 = t244
                rotate_left
                · rw [if_neg c55] at H
                  exact absurd H (by simp)
                rw [if_pos c55] at H
                have c55b0 : (t256 == t244) = true := beq_iff_eq.mpr c55
                have c55b1 : (t256 != t244) = false := bne_eq_false_iff_eq.mpr c55
                clear c55
                by_cases c56 : t263 = t244
                rotate_left
                · rw [if_neg c56] at H
                  exact absurd H (by simp)
                rw [if_pos c56] at H
                have c56b0 : (t263 == t244) = true := beq_iff_eq.mpr c56
                have c56b1 : (t263 != t244) = false := bne_eq_false_iff_eq.mpr c56
                clear c56
                replace H := Option.bind_eq_some_iff.mp H
                obtain ⟨t266, A570, H⟩ := H
                replace H : (if t266 = true then ((thalwegref06_Same.f kj17 t259 t260 t240 t241).bind fun t267 => (some t267)) else (none)) = some r := H
                have A57 := Aside0.mk A570
                clear A570
                by_cases c58 : t266 = true
                · subst c58
                  have H1 : ((thalwegref06_Same.f kj17 t259 t260 t240 t241).bind fun t267 => (some t267)) = some r := by rw [if_pos rfl] at H; exact H
                  clear H
                  have H := H1
                  clear H1
                  replace H := Option.bind_eq_some_iff.mp H
                  obtain ⟨t267, A590, H⟩ := H
                  replace H : (some t267) = some r := H
                  have A59 := Aside0.mk A590
                  clear A590
                  obtain rfl := Option.some.inj H
                  have hnb60 := NB245_232.out
                  have hnc60 := NB232_245.out
                  have hnb61 := NB245_239.out
                  have hnc61 := NB239_245.out
                  have hnb62 := NB245_251.out
                  have hnc62 := NB251_245.out
                  have hnb63 := NB245_257.out
                  have hnc63 := NB257_245.out
                  have hcz64_0 : wc.cell? ⟨gb245, 0, none⟩ = some (.int .i64 t240) := (blk_cell BK245.out 0).trans rfl
                  have hcz64_1 : wc.cell? ⟨gb245, 1, none⟩ = some (.slice Ao30 t241.length co30) := (blk_cell BK245.out 1).trans rfl
                  have hfz64_0 := blk_frozen BK245.out 0
                  have hfz64_1 := blk_frozen BK245.out 1
                  go_wp2_with (first | ((with_reducible refine gate_callee (f := 14) rfl ?_); refine goesL_ (some 70) rfl rfl Try.func14 (by kernel_rfl) rfl #[.agg #[.int .i64 t240, .slice Ao30 t241.length co30], .int .i64 a1, .int .i64 a3] rfl (by (try simp only [List.map_toArray, List.map_cons, List.map_nil]); first | done | rfl | (simp only [List.length_drop, List.length_take]; rfl)) ?_; (with_reducible refine (beacon_With.calls t240 _ _ t241 a1 a3 t259 t260 t263 _ ?side1 ?side2 A51.out).mono ?_); (case side1 => repeat (first | exact (Kd.R_reads' HO_246001.out).2.2 | (with_reducible refine Kd.C_alloc ?_ _) | (with_reducible refine Kd.C_drewN ?_ _) | (with_reducible refine Kd.C_drew ?_))); (case side2 => exact (Kd.R_reads' HO_246001.out).2.1); rintro e w65 ⟨v261, rfl, ho0, hb⟩; refine ⟨_, rfl, ?_⟩; have n0_ := Aside0.mk (Kd.R_elder' (by (with_reducible repeat (first | apply Kd.R_alloc | apply Kd.R_drewN | apply Kd.R_drew)); exact HO_240001.out) (Kd.R_base ho0) hb); have n1_ := Aside0.mk (Kd.R_elder' (by (with_reducible repeat (first | apply Kd.R_alloc | apply Kd.R_drewN | apply Kd.R_drew)); exact HO_246001.out) (Kd.R_base ho0) hb); have n2_ := Aside0.mk (Kd.R_elder' (by (with_reducible repeat (first | apply Kd.R_alloc | apply Kd.R_drewN | apply Kd.R_drew)); exact HO_252001.out) (Kd.R_base ho0) hb); have n3_ := Aside0.mk (Kd.R_elder' (by (with_reducible repeat (first | apply Kd.R_alloc | apply Kd.R_drewN | apply Kd.R_drew)); exact HO_258001.out) (Kd.R_base ho0) hb); have n4_ := Aside0.mk (Kd.R_lower (Kd.R_new' (Kd.R_new' (Kd.R_new' (Kd.R_new' ho0 (Kd.R_lt (by (with_reducible repeat (first | apply Kd.R_alloc | apply Kd.R_drewN | apply Kd.R_drew)); exact HO_240001.out))) (Kd.R_lt (by (with_reducible repeat (first | apply Kd.R_alloc | apply Kd.R_drewN | apply Kd.R_drew)); exact HO_246001.out))) (Kd.R_lt (by (with_reducible repeat (first | apply Kd.R_alloc | apply Kd.R_drewN | apply Kd.R_drew)); exact HO_252001.out))) (Kd.R_lt (by (with_reducible repeat (first | apply Kd.R_alloc | apply Kd.R_drewN | apply Kd.R_drew)); exact HO_258001.out))) (below_size (by repeat (first | (with_reducible first | exact HB.out | apply below_alloc | apply pw_below_drewN | apply below_drew1 | refine below_set ?_ GE232.out | refine below_set ?_ GE239.out | refine below_set ?_ GE245.out | refine below_set ?_ GE251.out | refine below_set ?_ GE257.out) | exact HB.out)))); have n5_ := Aside0.mk (blk_below (g := gb232) (o := .cells #[.int .i64 a0_0, .slice A0_1 l0_1.length c0_1] 25 (0, 0)) (by (with_reducible repeat (first | refine blk_drewN ?_ _ | refine blk_drew ?_ | refine blk_alloc ?_ _)); exact BK232.out) hb); have n6_ := Aside0.mk (blk_below (g := gb239) (o := .cells #[.int .i64 t234, .slice Ao24 t235.length co24] 25 (0, 0)) (by (with_reducible repeat (first | refine blk_drewN ?_ _ | refine blk_drew ?_ | refine blk_alloc ?_ _)); exact BK239.out) hb); have n7_ := Aside0.mk (blk_below (g := gb245) (o := .cells #[.int .i64 t240, .slice Ao30 t241.length co30] 25 (0, 0)) (by (with_reducible repeat (first | refine blk_drewN ?_ _ | refine blk_drew ?_ | refine blk_alloc ?_ _)); exact BK245.out) hb); have n8_ := Aside0.mk (blk_below (g := gb251) (o := .cells #[.int .i64 t246, .slice Ao38 t247.length co38] 25 (0, 0)) (by (with_reducible repeat (first | refine blk_drewN ?_ _ | refine blk_drew ?_ | refine blk_alloc ?_ _)); exact BK251.out) hb); have n9_ := Aside0.mk (blk_below (g := gb257) (o := .cells #[.int .i64 t252, .slice Ao46 t253.length co46] 25 (0, 0)) (by (with_reducible repeat (first | refine blk_drewN ?_ _ | refine blk_drew ?_ | refine blk_alloc ?_ _)); exact BK257.out) hb); have n10_ := Aside0.mk (below_step (by repeat (first | (with_reducible first | exact HB.out | apply below_alloc | apply pw_below_drewN | apply below_drew1 | refine below_set ?_ GE232.out | refine below_set ?_ GE239.out | refine below_set ?_ GE245.out | refine below_set ?_ GE251.out | refine below_set ?_ GE257.out) | exact HB.out)) hb); clear HO_240001; clear HO_246001; clear HO_252001; clear HO_258001; clear BK232; clear BK239; clear BK245; clear BK251; clear BK257; clear HB; have HO_240001 := n0_; have HO_246001 := n1_; have HO_252001 := n2_; have HO_258001 := n3_; have HO262 := n4_; have BK232 := n5_; have BK239 := n6_; have BK245 := n7_; have BK251 := n8_; have BK257 := n9_; have HB := n10_; clear n0_ n1_ n2_ n3_ n4_ n5_ n6_ n7_ n8_ n9_ n10_; (try clear hb); (try clear hb2); (try clear hk); (try clear hi); (try clear ho0)) | ((with_reducible refine gate_dst (N := 19) rfl ?_); refine box_event ?hg (N := 19) ?hd (cs := #[.int .i64 0, .slice none 0 0]) (t := 25) ?hr ?_; (case hd => rfl); (case hg => rfl); (case hr => first | (go_simp; done) | (go_simp; rfl)); intro gb264 hg w66 hbox hb; have n0_ := Aside0.mk (Kd.R_below (by (with_reducible repeat (first | apply Kd.R_alloc | apply Kd.R_drewN | apply Kd.R_drew)); exact HO_240001.out) hb); have n1_ := Aside0.mk (Kd.R_below (by (with_reducible repeat (first | apply Kd.R_alloc | apply Kd.R_drewN | apply Kd.R_drew)); exact HO_246001.out) hb); have n2_ := Aside0.mk (Kd.R_below (by (with_reducible repeat (first | apply Kd.R_alloc | apply Kd.R_drewN | apply Kd.R_drew)); exact HO_252001.out) hb); have n3_ := Aside0.mk (Kd.R_below (by (with_reducible repeat (first | apply Kd.R_alloc | apply Kd.R_drewN | apply Kd.R_drew)); exact HO_258001.out) hb); have n4_ := Aside0.mk (Kd.R_below (by (with_reducible repeat (first | apply Kd.R_alloc | apply Kd.R_drewN | apply Kd.R_drew)); exact HO262.out) hb); have n5_ := Aside0.mk (blk_below (g := gb232) (o := .cells #[.int .i64 a0_0, .slice A0_1 l0_1.length c0_1] 25 (0, 0)) (by (with_reducible repeat (first | refine blk_drewN ?_ _ | refine blk_drew ?_ | refine blk_alloc ?_ _)); exact BK232.out) hb); have n6_ := Aside0.mk (blk_below (g := gb239) (o := .cells #[.int .i64 t234, .slice Ao24 t235.length co24] 25 (0, 0)) (by (with_reducible repeat (first | refine blk_drewN ?_ _ | refine blk_drew ?_ | refine blk_alloc ?_ _)); exact BK239.out) hb); have n7_ := Aside0.mk (blk_below (g := gb245) (o := .cells #[.int .i64 t240, .slice Ao30 t241.length co30] 25 (0, 0)) (by (with_reducible repeat (first | refine blk_drewN ?_ _ | refine blk_drew ?_ | refine blk_alloc ?_ _)); exact BK245.out) hb); have n8_ := Aside0.mk (blk_below (g := gb251) (o := .cells #[.int .i64 t246, .slice Ao38 t247.length co38] 25 (0, 0)) (by (with_reducible repeat (first | refine blk_drewN ?_ _ | refine blk_drew ?_ | refine blk_alloc ?_ _)); exact BK251.out) hb); have n9_ := Aside0.mk (blk_below (g := gb257) (o := .cells #[.int .i64 t252, .slice Ao46 t253.length co46] 25 (0, 0)) (by (with_reducible repeat (first | refine blk_drewN ?_ _ | refine blk_drew ?_ | refine blk_alloc ?_ _)); exact BK257.out) hb); have n10_ := Aside0.mk (below_step (by repeat (first | (with_reducible first | exact HB.out | apply below_alloc | apply pw_below_drewN | apply below_drew1 | refine below_set ?_ GE232.out | refine below_set ?_ GE239.out | refine below_set ?_ GE245.out | refine below_set ?_ GE251.out | refine below_set ?_ GE257.out) | exact HB.out)) hb); have n11_ := Aside0.mk (hbox); have n12_ := Aside0.mk ((by rw [hg]; exact (below_size (by repeat (first | (with_reducible first | exact HB.out | apply below_alloc | apply pw_below_drewN | apply below_drew1 | refine below_set ?_ GE232.out | refine below_set ?_ GE239.out | refine below_set ?_ GE245.out | refine below_set ?_ GE251.out | refine below_set ?_ GE257.out) | exact HB.out))) : w.heap.size ≤ gb264)); have n13_ := Aside0.mk ((by rw [hg]; exact (below_size (by repeat (first | (with_reducible first | exact HB.out | apply below_alloc | apply pw_below_drewN | apply below_drew1 | refine below_set ?_ GE232.out | refine below_set ?_ GE239.out | refine below_set ?_ GE245.out | refine below_set ?_ GE251.out | refine below_set ?_ GE257.out) | exact HB.out))) : w.heap.size ≤ gb264)); have n14_ := Aside0.mk ((by rw [hg]; exact Nat.ne_of_lt (blk_lt (g := gb232) (o := .cells #[.int .i64 a0_0, .slice A0_1 l0_1.length c0_1] 25 (0, 0)) (by (with_reducible repeat (first | refine blk_drewN ?_ _ | refine blk_drew ?_ | refine blk_alloc ?_ _)); exact BK232.out)) : gb232 ≠ gb264)); have n15_ := Aside0.mk ((by rw [hg]; exact Nat.ne_of_gt (blk_lt (g := gb232) (o := .cells #[.int .i64 a0_0, .slice A0_1 l0_1.length c0_1] 25 (0, 0)) (by (with_reducible repeat (first | refine blk_drewN ?_ _ | refine blk_drew ?_ | refine blk_alloc ?_ _)); exact BK232.out)) : gb264 ≠ gb232)); have n16_ := Aside0.mk ((by rw [hg]; exact Nat.ne_of_lt (blk_lt (g := gb239) (o := .cells #[.int .i64 t234, .slice Ao24 t235.length co24] 25 (0, 0)) (by (with_reducible repeat (first | refine blk_drewN ?_ _ | refine blk_drew ?_ | refine blk_alloc ?_ _)); exact BK239.out)) : gb239 ≠ gb264)); have n17_ := Aside0.mk ((by rw [hg]; exact Nat.ne_of_gt (blk_lt (g := gb239) (o := .cells #[.int .i64 t234, .slice Ao24 t235.length co24] 25 (0, 0)) (by (with_reducible repeat (first | refine blk_drewN ?_ _ | refine blk_drew ?_ | refine blk_alloc ?_ _)); exact BK239.out)) : gb264 ≠ gb239)); have n18_ := Aside0.mk ((by rw [hg]; exact Nat.ne_of_lt (blk_lt (g := gb245) (o := .cells #[.int .i64 t240, .slice Ao30 t241.length co30] 25 (0, 0)) (by (with_reducible repeat (first | refine blk_drewN ?_ _ | refine blk_drew ?_ | refine blk_alloc ?_ _)); exact BK245.out)) : gb245 ≠ gb264)); have n19_ := Aside0.mk ((by rw [hg]; exact Nat.ne_of_gt (blk_lt (g := gb245) (o := .cells #[.int .i64 t240, .slice Ao30 t241.length co30] 25 (0, 0)) (by (with_reducible repeat (first | refine blk_drewN ?_ _ | refine blk_drew ?_ | refine blk_alloc ?_ _)); exact BK245.out)) : gb264 ≠ gb245)); have n20_ := Aside0.mk ((by rw [hg]; exact Nat.ne_of_lt (blk_lt (g := gb251) (o := .cells #[.int .i64 t246, .slice Ao38 t247.length co38] 25 (0, 0)) (by (with_reducible repeat (first | refine blk_drewN ?_ _ | refine blk_drew ?_ | refine blk_alloc ?_ _)); exact BK251.out)) : gb251 ≠ gb264)); have n21_ := Aside0.mk ((by rw [hg]; exact Nat.ne_of_gt (blk_lt (g := gb251) (o := .cells #[.int .i64 t246, .slice Ao38 t247.length co38] 25 (0, 0)) (by (with_reducible repeat (first | refine blk_drewN ?_ _ | refine blk_drew ?_ | refine blk_alloc ?_ _)); exact BK251.out)) : gb264 ≠ gb251)); have n22_ := Aside0.mk ((by rw [hg]; exact Nat.ne_of_lt (blk_lt (g := gb257) (o := .cells #[.int .i64 t252, .slice Ao46 t253.length co46] 25 (0, 0)) (by (with_reducible repeat (first | refine blk_drewN ?_ _ | refine blk_drew ?_ | refine blk_alloc ?_ _)); exact BK257.out)) : gb257 ≠ gb264)); have n23_ := Aside0.mk ((by rw [hg]; exact Nat.ne_of_gt (blk_lt (g := gb257) (o := .cells #[.int .i64 t252, .slice Ao46 t253.length co46] 25 (0, 0)) (by (with_reducible repeat (first | refine blk_drewN ?_ _ | refine blk_drew ?_ | refine blk_alloc ?_ _)); exact BK257.out)) : gb264 ≠ gb257)); clear HO_240001; clear HO_246001; clear HO_252001; clear HO_258001; clear HO262; clear BK232; clear BK239; clear BK245; clear BK251; clear BK257; clear HB; have HO_240001 := n0_; have HO_246001 := n1_; have HO_252001 := n2_; have HO_258001 := n3_; have HO262 := n4_; have BK232 := n5_; have BK239 := n6_; have BK245 := n7_; have BK251 := n8_; have BK257 := n9_; have HB := n10_; have BK264 := n11_; have GW264 := n12_; have GE264 := n13_; have NB232_264 := n14_; have NB264_232 := n15_; have NB239_264 := n16_; have NB264_239 := n17_; have NB245_264 := n18_; have NB264_245 := n19_; have NB251_264 := n20_; have NB264_251 := n21_; have NB257_264 := n22_; have NB264_257 := n23_; clear n0_ n1_ n2_ n3_ n4_ n5_ n6_ n7_ n8_ n9_ n10_ n11_ n12_ n13_ n14_ n15_ n16_ n17_ n18_ n19_ n20_ n21_ n22_ n23_; clear hb hbox hg; have hnb67 := NB264_232.out; have hnc67 := NB232_264.out; have hnb68 := NB264_239.out; have hnc68 := NB239_264.out; have hnb69 := NB264_245.out; have hnc69 := NB245_264.out; have hnb70 := NB264_251.out; have hnc70 := NB251_264.out; have hnb71 := NB264_257.out; have hnc71 := NB257_264.out; have hcz72_0 : w66.cell? ⟨gb264, 0, none⟩ = some (.int .i64 0) := (blk_cell BK264.out 0).trans rfl; have hcz72_1 : w66.cell? ⟨gb264, 1, none⟩ = some (.slice none 0 0) := (blk_cell BK264.out 1).trans rfl; have hfz72_0 := blk_frozen BK264.out 0; have hfz72_1 := blk_frozen BK264.out 1; obtain ⟨Ao73, co73, eo73⟩ := Kd.R_slice HO262.out; subst eo73) | ((with_reducible refine gate_callee (f := 10) rfl ?_); refine goesL_ (some 73) rfl rfl Try.func10 (by kernel_rfl) rfl #[] rfl (by (try simp only [List.map_toArray, List.map_cons, List.map_nil]); first | done | rfl | (simp only [List.length_drop, List.length_take]; rfl)) ?_; (with_reducible refine (thalweglaw06_awake.calls kj17  true _ A52.out).mono ?_); rintro e w74 ⟨rfl, hb⟩; refine ⟨_, rfl, ?_⟩; have n0_ := Aside0.mk (Kd.R_below (by (with_reducible repeat (first | apply Kd.R_alloc | apply Kd.R_drewN | apply Kd.R_drew)); exact (Kd.R_mono (Kd.R_far (p := ⟨gb264, 1, none⟩) (Kd.R_far (p := ⟨gb264, 0, none⟩) (Kd.R_types HO_240001.out BK264.out (by decide)) (fun _ hk => hk.2) (.int .i64 t259)) (fun _ hk => hk.2) (.slice Ao73 t260.length co73)) (fun _ h_ => h_.1))) hb); have n1_ := Aside0.mk (Kd.R_below (by (with_reducible repeat (first | apply Kd.R_alloc | apply Kd.R_drewN | apply Kd.R_drew)); exact (Kd.R_mono (Kd.R_far (p := ⟨gb264, 1, none⟩) (Kd.R_far (p := ⟨gb264, 0, none⟩) (Kd.R_types HO_246001.out BK264.out (by decide)) (fun _ hk => hk.2) (.int .i64 t259)) (fun _ hk => hk.2) (.slice Ao73 t260.length co73)) (fun _ h_ => h_.1))) hb); have n2_ := Aside0.mk (Kd.R_below (by (with_reducible repeat (first | apply Kd.R_alloc | apply Kd.R_drewN | apply Kd.R_drew)); exact (Kd.R_mono (Kd.R_far (p := ⟨gb264, 1, none⟩) (Kd.R_far (p := ⟨gb264, 0, none⟩) (Kd.R_types HO_252001.out BK264.out (by decide)) (fun _ hk => hk.2) (.int .i64 t259)) (fun _ hk => hk.2) (.slice Ao73 t260.length co73)) (fun _ h_ => h_.1))) hb); have n3_ := Aside0.mk (Kd.R_below (by (with_reducible repeat (first | apply Kd.R_alloc | apply Kd.R_drewN | apply Kd.R_drew)); exact (Kd.R_mono (Kd.R_far (p := ⟨gb264, 1, none⟩) (Kd.R_far (p := ⟨gb264, 0, none⟩) (Kd.R_types HO_258001.out BK264.out (by decide)) (fun _ hk => hk.2) (.int .i64 t259)) (fun _ hk => hk.2) (.slice Ao73 t260.length co73)) (fun _ h_ => h_.1))) hb); have n4_ := Aside0.mk (Kd.R_below (by (with_reducible repeat (first | apply Kd.R_alloc | apply Kd.R_drewN | apply Kd.R_drew)); exact (Kd.R_mono (Kd.R_far (p := ⟨gb264, 1, none⟩) (Kd.R_far (p := ⟨gb264, 0, none⟩) (Kd.R_types HO262.out BK264.out (by decide)) (fun _ hk => hk.2) (.int .i64 t259)) (fun _ hk => hk.2) (.slice Ao73 t260.length co73)) (fun _ h_ => h_.1))) hb); have n5_ := Aside0.mk (blk_below (g := gb232) (o := .cells #[.int .i64 a0_0, .slice A0_1 l0_1.length c0_1] 25 (0, 0)) (by (with_reducible repeat (first | refine blk_drewN ?_ _ | refine blk_drew ?_ | refine blk_alloc ?_ _)); refine blk_far ?_ NB232_264.out _; (with_reducible repeat (first | refine blk_drewN ?_ _ | refine blk_drew ?_ | refine blk_alloc ?_ _)); refine blk_far ?_ NB232_264.out _; (with_reducible repeat (first | refine blk_drewN ?_ _ | refine blk_drew ?_ | refine blk_alloc ?_ _)); exact BK232.out) hb); have n6_ := Aside0.mk (blk_below (g := gb239) (o := .cells #[.int .i64 t234, .slice Ao24 t235.length co24] 25 (0, 0)) (by (with_reducible repeat (first | refine blk_drewN ?_ _ | refine blk_drew ?_ | refine blk_alloc ?_ _)); refine blk_far ?_ NB239_264.out _; (with_reducible repeat (first | refine blk_drewN ?_ _ | refine blk_drew ?_ | refine blk_alloc ?_ _)); refine blk_far ?_ NB239_264.out _; (with_reducible repeat (first | refine blk_drewN ?_ _ | refine blk_drew ?_ | refine blk_alloc ?_ _)); exact BK239.out) hb); have n7_ := Aside0.mk (blk_below (g := gb245) (o := .cells #[.int .i64 t240, .slice Ao30 t241.length co30] 25 (0, 0)) (by (with_reducible repeat (first | refine blk_drewN ?_ _ | refine blk_drew ?_ | refine blk_alloc ?_ _)); refine blk_far ?_ NB245_264.out _; (with_reducible repeat (first | refine blk_drewN ?_ _ | refine blk_drew ?_ | refine blk_alloc ?_ _)); refine blk_far ?_ NB245_264.out _; (with_reducible repeat (first | refine blk_drewN ?_ _ | refine blk_drew ?_ | refine blk_alloc ?_ _)); exact BK245.out) hb); have n8_ := Aside0.mk (blk_below (g := gb251) (o := .cells #[.int .i64 t246, .slice Ao38 t247.length co38] 25 (0, 0)) (by (with_reducible repeat (first | refine blk_drewN ?_ _ | refine blk_drew ?_ | refine blk_alloc ?_ _)); refine blk_far ?_ NB251_264.out _; (with_reducible repeat (first | refine blk_drewN ?_ _ | refine blk_drew ?_ | refine blk_alloc ?_ _)); refine blk_far ?_ NB251_264.out _; (with_reducible repeat (first | refine blk_drewN ?_ _ | refine blk_drew ?_ | refine blk_alloc ?_ _)); exact BK251.out) hb); have n9_ := Aside0.mk (blk_below (g := gb257) (o := .cells #[.int .i64 t252, .slice Ao46 t253.length co46] 25 (0, 0)) (by (with_reducible repeat (first | refine blk_drewN ?_ _ | refine blk_drew ?_ | refine blk_alloc ?_ _)); refine blk_far ?_ NB257_264.out _; (with_reducible repeat (first | refine blk_drewN ?_ _ | refine blk_drew ?_ | refine blk_alloc ?_ _)); refine blk_far ?_ NB257_264.out _; (with_reducible repeat (first | refine blk_drewN ?_ _ | refine blk_drew ?_ | refine blk_alloc ?_ _)); exact BK257.out) hb); have n10_ := Aside0.mk (blk_below (g := gb264) (o := .cells #[.int .i64 t259, .slice Ao73 t260.length co73] 25 (0, 0)) (by (with_reducible repeat (first | refine blk_drewN ?_ _ | refine blk_drew ?_ | refine blk_alloc ?_ _)); refine blk_put (cs := #[.int .i64 t259, .slice none 0 0]) ?_ 1 _ rfl; (with_reducible repeat (first | refine blk_drewN ?_ _ | refine blk_drew ?_ | refine blk_alloc ?_ _)); refine blk_put (cs := #[.int .i64 0, .slice none 0 0]) ?_ 0 _ rfl; (with_reducible repeat (first | refine blk_drewN ?_ _ | refine blk_drew ?_ | refine blk_alloc ?_ _)); exact BK264.out) hb); have n11_ := Aside0.mk (below_step (by repeat (first | (with_reducible first | exact HB.out | apply below_alloc | apply pw_below_drewN | apply below_drew1 | refine below_set ?_ GE232.out | refine below_set ?_ GE239.out | refine below_set ?_ GE245.out | refine below_set ?_ GE251.out | refine below_set ?_ GE257.out | refine below_set ?_ GE264.out) | exact HB.out)) hb); clear HO_240001; clear HO_246001; clear HO_252001; clear HO_258001; clear HO262; clear BK232; clear BK239; clear BK245; clear BK251; clear BK257; clear BK264; clear HB; have HO_240001 := n0_; have HO_246001 := n1_; have HO_252001 := n2_; have HO_258001 := n3_; have HO262 := n4_; have BK232 := n5_; have BK239 := n6_; have BK245 := n7_; have BK251 := n8_; have BK257 := n9_; have BK264 := n10_; have HB := n11_; clear n0_ n1_ n2_ n3_ n4_ n5_ n6_ n7_ n8_ n9_ n10_ n11_; (try clear hb); (try clear hb2); (try clear hk); (try clear hi); have hcz75_0 : w74.cell? ⟨gb245, 0, none⟩ = some (.int .i64 t240) := (blk_cell BK245.out 0).trans rfl; have hcz75_1 : w74.cell? ⟨gb245, 1, none⟩ = some (.slice Ao30 t241.length co30) := (blk_cell BK245.out 1).trans rfl; have hfz75_0 := blk_frozen BK245.out 0; have hfz75_1 := blk_frozen BK245.out 1; have hnb76 := NB257_232.out; have hnc76 := NB232_257.out; have hnb77 := NB257_239.out; have hnc77 := NB239_257.out; have hnb78 := NB257_251.out; have hnc78 := NB251_257.out; have hcz79_0 : w74.cell? ⟨gb257, 0, none⟩ = some (.int .i64 t252) := (blk_cell BK257.out 0).trans rfl; have hcz79_1 : w74.cell? ⟨gb257, 1, none⟩ = some (.slice Ao46 t253.length co46) := (blk_cell BK257.out 1).trans rfl; have hfz79_0 := blk_frozen BK257.out 0; have hfz79_1 := blk_frozen BK257.out 1) | (go_at_call 11; (with_reducible refine (thalwegref06_Same.calls kj17 t240 _ _ t241 t252 _ _ t253 true _ ?side1 ?side2 ?side3 ?side4 A57.out).mono ?_); (case side1 => repeat (first | exact (Kd.R_reads' HO_246001.out).2.2 | (with_reducible refine Kd.C_alloc ?_ _) | (with_reducible refine Kd.C_drewN ?_ _) | (with_reducible refine Kd.C_drew ?_))); (case side2 => exact (Kd.R_reads' HO_246001.out).2.1); (case side3 => repeat (first | exact (Kd.R_reads' HO_258001.out).2.2 | (with_reducible refine Kd.C_alloc ?_ _) | (with_reducible refine Kd.C_drewN ?_ _) | (with_reducible refine Kd.C_drew ?_))); (case side4 => exact (Kd.R_reads' HO_258001.out).2.1); rintro e w80 ⟨rfl, hb⟩; have n0_ := Aside0.mk (Kd.R_below (by (with_reducible repeat (first | apply Kd.R_alloc | apply Kd.R_drewN | apply Kd.R_drew)); exact HO_240001.out) hb); have n1_ := Aside0.mk (Kd.R_below (by (with_reducible repeat (first | apply Kd.R_alloc | apply Kd.R_drewN | apply Kd.R_drew)); exact HO_246001.out) hb); have n2_ := Aside0.mk (Kd.R_below (by (with_reducible repeat (first | apply Kd.R_alloc | apply Kd.R_drewN | apply Kd.R_drew)); exact HO_252001.out) hb); have n3_ := Aside0.mk (Kd.R_below (by (with_reducible repeat (first | apply Kd.R_alloc | apply Kd.R_drewN | apply Kd.R_drew)); exact HO_258001.out) hb); have n4_ := Aside0.mk (Kd.R_below (by (with_reducible repeat (first | apply Kd.R_alloc | apply Kd.R_drewN | apply Kd.R_drew)); exact HO262.out) hb); have n5_ := Aside0.mk (blk_below (g := gb232) (o := .cells #[.int .i64 a0_0, .slice A0_1 l0_1.length c0_1] 25 (0, 0)) (by (with_reducible repeat (first | refine blk_drewN ?_ _ | refine blk_drew ?_ | refine blk_alloc ?_ _)); exact BK232.out) hb); have n6_ := Aside0.mk (blk_below (g := gb239) (o := .cells #[.int .i64 t234, .slice Ao24 t235.length co24] 25 (0, 0)) (by (with_reducible repeat (first | refine blk_drewN ?_ _ | refine blk_drew ?_ | refine blk_alloc ?_ _)); exact BK239.out) hb); have n7_ := Aside0.mk (blk_below (g := gb245) (o := .cells #[.int .i64 t240, .slice Ao30 t241.length co30] 25 (0, 0)) (by (with_reducible repeat (first | refine blk_drewN ?_ _ | refine blk_drew ?_ | refine blk_alloc ?_ _)); exact BK245.out) hb); have n8_ := Aside0.mk (blk_below (g := gb251) (o := .cells #[.int .i64 t246, .slice Ao38 t247.length co38] 25 (0, 0)) (by (with_reducible repeat (first | refine blk_drewN ?_ _ | refine blk_drew ?_ | refine blk_alloc ?_ _)); exact BK251.out) hb); have n9_ := Aside0.mk (blk_below (g := gb257) (o := .cells #[.int .i64 t252, .slice Ao46 t253.length co46] 25 (0, 0)) (by (with_reducible repeat (first | refine blk_drewN ?_ _ | refine blk_drew ?_ | refine blk_alloc ?_ _)); exact BK257.out) hb); have n10_ := Aside0.mk (blk_below (g := gb264) (o := .cells #[.int .i64 t259, .slice Ao73 t260.length co73] 25 (0, 0)) (by (with_reducible repeat (first | refine blk_drewN ?_ _ | refine blk_drew ?_ | refine blk_alloc ?_ _)); exact BK264.out) hb); have n11_ := Aside0.mk (below_step (by repeat (first | (with_reducible first | exact HB.out | apply below_alloc | apply pw_below_drewN | apply below_drew1 | refine below_set ?_ GE232.out | refine below_set ?_ GE239.out | refine below_set ?_ GE245.out | refine below_set ?_ GE251.out | refine below_set ?_ GE257.out | refine below_set ?_ GE264.out) | exact HB.out)) hb); clear HO_240001; clear HO_246001; clear HO_252001; clear HO_258001; clear HO262; clear BK232; clear BK239; clear BK245; clear BK251; clear BK257; clear BK264; clear HB; have HO_240001 := n0_; have HO_246001 := n1_; have HO_252001 := n2_; have HO_258001 := n3_; have HO262 := n4_; have BK232 := n5_; have BK239 := n6_; have BK245 := n7_; have BK251 := n8_; have BK257 := n9_; have BK264 := n10_; have HB := n11_; clear n0_ n1_ n2_ n3_ n4_ n5_ n6_ n7_ n8_ n9_ n10_ n11_; (try clear hb); (try clear hb2); (try clear hk); (try clear hi); have hcz81_0 : w80.cell? ⟨gb264, 0, none⟩ = some (.int .i64 t259) := (blk_cell BK264.out 0).trans rfl; have hcz81_1 : w80.cell? ⟨gb264, 1, none⟩ = some (.slice Ao73 t260.length co73) := (blk_cell BK264.out 1).trans rfl; have hfz81_0 := blk_frozen BK264.out 0; have hfz81_1 := blk_frozen BK264.out 1; have hcz82_0 : w80.cell? ⟨gb245, 0, none⟩ = some (.int .i64 t240) := (blk_cell BK245.out 0).trans rfl; have hcz82_1 : w80.cell? ⟨gb245, 1, none⟩ = some (.slice Ao30 t241.length co30) := (blk_cell BK245.out 1).trans rfl; have hfz82_0 := blk_frozen BK245.out 0; have hfz82_1 := blk_frozen BK245.out 1) | (go_at_call 11; (with_reducible refine (thalwegref06_Same.calls kj17 t259 _ _ t260 t240 _ _ t241 t267 _ ?side1 ?side2 ?side3 ?side4 A59.out).mono ?_); (case side1 => repeat (first | exact (Kd.R_reads' HO262.out).2.2 | (with_reducible refine Kd.C_alloc ?_ _) | (with_reducible refine Kd.C_drewN ?_ _) | (with_reducible refine Kd.C_drew ?_))); (case side2 => exact (Kd.R_reads' HO262.out).2.1); (case side3 => repeat (first | exact (Kd.R_reads' HO_246001.out).2.2 | (with_reducible refine Kd.C_alloc ?_ _) | (with_reducible refine Kd.C_drewN ?_ _) | (with_reducible refine Kd.C_drew ?_))); (case side4 => exact (Kd.R_reads' HO_246001.out).2.1); rintro e w83 ⟨rfl, hb⟩; have n0_ := Aside0.mk (Kd.R_below (by (with_reducible repeat (first | apply Kd.R_alloc | apply Kd.R_drewN | apply Kd.R_drew)); exact HO_240001.out) hb); have n1_ := Aside0.mk (Kd.R_below (by (with_reducible repeat (first | apply Kd.R_alloc | apply Kd.R_drewN | apply Kd.R_drew)); exact HO_246001.out) hb); have n2_ := Aside0.mk (Kd.R_below (by (with_reducible repeat (first | apply Kd.R_alloc | apply Kd.R_drewN | apply Kd.R_drew)); exact HO_252001.out) hb); have n3_ := Aside0.mk (Kd.R_below (by (with_reducible repeat (first | apply Kd.R_alloc | apply Kd.R_drewN | apply Kd.R_drew)); exact HO_258001.out) hb); have n4_ := Aside0.mk (Kd.R_below (by (with_reducible repeat (first | apply Kd.R_alloc | apply Kd.R_drewN | apply Kd.R_drew)); exact HO262.out) hb); have n5_ := Aside0.mk (blk_below (g := gb232) (o := .cells #[.int .i64 a0_0, .slice A0_1 l0_1.length c0_1] 25 (0, 0)) (by (with_reducible repeat (first | refine blk_drewN ?_ _ | refine blk_drew ?_ | refine blk_alloc ?_ _)); exact BK232.out) hb); have n6_ := Aside0.mk (blk_below (g := gb239) (o := .cells #[.int .i64 t234, .slice Ao24 t235.length co24] 25 (0, 0)) (by (with_reducible repeat (first | refine blk_drewN ?_ _ | refine blk_drew ?_ | refine blk_alloc ?_ _)); exact BK239.out) hb); have n7_ := Aside0.mk (blk_below (g := gb245) (o := .cells #[.int .i64 t240, .slice Ao30 t241.length co30] 25 (0, 0)) (by (with_reducible repeat (first | refine blk_drewN ?_ _ | refine blk_drew ?_ | refine blk_alloc ?_ _)); exact BK245.out) hb); have n8_ := Aside0.mk (blk_below (g := gb251) (o := .cells #[.int .i64 t246, .slice Ao38 t247.length co38] 25 (0, 0)) (by (with_reducible repeat (first | refine blk_drewN ?_ _ | refine blk_drew ?_ | refine blk_alloc ?_ _)); exact BK251.out) hb); have n9_ := Aside0.mk (blk_below (g := gb257) (o := .cells #[.int .i64 t252, .slice Ao46 t253.length co46] 25 (0, 0)) (by (with_reducible repeat (first | refine blk_drewN ?_ _ | refine blk_drew ?_ | refine blk_alloc ?_ _)); exact BK257.out) hb); have n10_ := Aside0.mk (blk_below (g := gb264) (o := .cells #[.int .i64 t259, .slice Ao73 t260.length co73] 25 (0, 0)) (by (with_reducible repeat (first | refine blk_drewN ?_ _ | refine blk_drew ?_ | refine blk_alloc ?_ _)); exact BK264.out) hb); have n11_ := Aside0.mk (below_step (by repeat (first | (with_reducible first | exact HB.out | apply below_alloc | apply pw_below_drewN | apply below_drew1 | refine below_set ?_ GE232.out | refine below_set ?_ GE239.out | refine below_set ?_ GE245.out | refine below_set ?_ GE251.out | refine below_set ?_ GE257.out | refine below_set ?_ GE264.out) | exact HB.out)) hb); clear HO_240001; clear HO_246001; clear HO_252001; clear HO_258001; clear HO262; clear BK232; clear BK239; clear BK245; clear BK251; clear BK257; clear BK264; clear HB; have HO_240001 := n0_; have HO_246001 := n1_; have HO_252001 := n2_; have HO_258001 := n3_; have HO262 := n4_; have BK232 := n5_; have BK239 := n6_; have BK245 := n7_; have BK251 := n8_; have BK257 := n9_; have BK264 := n10_; have HB := n11_; clear n0_ n1_ n2_ n3_ n4_ n5_ n6_ n7_ n8_ n9_ n10_ n11_; (try clear hb); (try clear hb2); (try clear hk); (try clear hi)))
                  go_ret
                  exact ⟨by first | rfl | (simp [errW_none, errW_some] <;> rfl) | (simp [*, errW_none, errW_some] <;> rfl), by repeat (first | (with_reducible first | exact HB.out | apply below_alloc | apply pw_below_drewN | apply below_drew1 | refine below_set ?_ GE232.out | refine below_set ?_ GE239.out | refine below_set ?_ GE245.out | refine below_set ?_ GE251.out | refine below_set ?_ GE257.out | refine below_set ?_ GE264.out) | exact HB.out)⟩
                · replace c58 := Bool.eq_false_iff.mpr c58
                  subst c58
                  have H1 : (none) = some r := by rw [if_neg (show ¬ (false = true) by decide)] at H; exact H
                  clear H
                  have H := H1
                  clear H1
                  exact absurd H (by simp)
              · replace c53 := Bool.eq_false_iff.mpr c53
                subst c53
                have H1 : (none) = some r := by rw [if_neg (show ¬ (false = true) by decide)] at H; exact H
                clear H
                have H := H1
                clear H1
                exact absurd H (by simp)
end Go.Proofs.Ytaiklcpmlkpfjaa.P
namespace Go.Proofs.Ytaiklcpmlkpfjaa.P
open Go.RowKit Go.Proofs.YtaiklcpmlkpfjaaW.PrintWords
def thalweglaw06_BeaconOrder.Pure : Prop := ∀ (x0 : S25) (a1 : Int) (a2 : Int) (a3 : Int) (a4 : Int), ((Lit.int .i64 x0.f0).wf = true ∧ (x0.f1.length ≤ maxLen ∧ ∀ x0_ ∈ x0.f1, ((Lit.int .i64 x0_.f0).wf = true ∧ (Lit.int .i64 x0_.f1).wf = true))) → (Lit.int .i64 a1).wf = true → (Lit.int .i64 a2).wf = true → (Lit.int .i64 a3).wf = true → (Lit.int .i64 a4).wf = true → ∃ k, thalweglaw06_BeaconOrder.f k x0.f0 x0.f1 a1 a2 a3 a4 = some true
end Go.Proofs.Ytaiklcpmlkpfjaa.P
namespace Go.Proofs.Ytaiklcpmlkpfjaa.P
open Go.RowKit Go.Proofs.YtaiklcpmlkpfjaaW.PrintWords Go.Proofs.YtaiklcpmlkpfjaaW.PrintLast Go.Proofs.YtaiklcpmlkpfjaaW.PrintMore
set_option maxHeartbeats 8000000 in
set_option maxRecDepth 100000 in
theorem wo_bad (n : Int) (A : Option Addr) (c : Nat) (Y : List S59) (id : Int) (w : World) (hr : k59.C w A Y.length Y) (hc : Y.length ≤ c) (K : Nat) (hK : beacon_Check.f K n Y = some 1) :
    Calls Try.prog 20 #[.agg #[.int .i64 n, .slice A Y.length c], .int .i64 id] w fun e w' => ∃ v1_ : Value, e = .returned (.tuple #[.agg #[.int .i64 0, v1_], .int .i64 1]) ∧ k59.R 59 w' w.heap.size (fun _ => True) v1_ [] ∧ Below w.heap.size w w' := by
  have hu25 := Try.underlying25
  have HR := Aside0.mk hr
  have HC := Aside0.mk hc
  have HK := Aside0.mk hK
  clear hr hc hK
  go_enter Try.func20, Try.ntmps20
  go_wp2_with (first
    | ((with_reducible refine gate_dst (N := 2) rfl ?_); refine box_event ?hg (N := 2) ?hd (cs := #[.int .i64 n, .slice A Y.length c]) (t := 25) ?hr ?_; (case hd => rfl); (case hg => rfl); (case hr => first | (go_simp; done) | (go_simp; rfl)); intro g3 hg w3 hbox hb; have HB3 := Aside0.mk hb; have G3 := Aside0.mk (Nat.le_of_eq hg.symm); have B3 := Aside0.mk hbox; clear hb hbox hg)
    | ((with_reducible refine gate_dst (N := 4) rfl ?_); refine box_event ?hg (N := 4) ?hd (cs := #[.int .i64 0, .slice none 0 0]) (t := 25) ?hr ?_; (case hd => rfl); (case hg => rfl); (case hr => first | (go_simp; done) | (go_simp; rfl)); intro g6 hg w6 hbox hb; have HB6 := Aside0.mk (below_step HB3.out hb); have G6 := Aside0.mk (show w.heap.size ≤ g6 by rw [hg]; exact below_size HB3.out); have D6 := Aside0.mk (show g3 ≠ g6 by rw [hg]; exact Nat.ne_of_lt (blk_lt B3.out)); have B36 := Aside0.mk (blk_below B3.out hb); have B66 := Aside0.mk hbox; clear hb hbox hg; have u0 := (blk_cell B36.out 0).trans rfl; have u1 := (blk_cell B36.out 1).trans rfl)
    | (go_at_call 22; (with_reducible refine (beacon_Check.calls K n A c Y 1 _ (Kd.C_below HR.out HB6.out) HC.out HK.out).mono ?_); rintro x_ ws ⟨rfl, hb⟩; have HB7 := Aside0.mk (below_step HB6.out hb); have B37 := Aside0.mk (blk_below B36.out hb); have B67 := Aside0.mk (blk_below B66.out hb); clear hb; have v0 := (blk_cell B37.out 0).trans rfl; have v1 := (blk_cell B37.out 1).trans rfl; have vf0 := blk_frozen B37.out 0; have vf1 := blk_frozen B37.out 1; have y0 := (blk_cell B67.out 0).trans rfl; have y1 := (blk_cell B67.out 1).trans rfl; have yf0 := blk_frozen B67.out 0; have yf1 := blk_frozen B67.out 1))
  refine bodyPost_ret (results_ct rfl _ _ g6 25 #[.int .i64 0, .slice none 0 0] (0, 0) _ rfl (blk_put (blk_put (B67.out) 0 (.int .i64 0) (cs' := #[.int .i64 0, .slice none 0 0]) rfl) 1 (.slice none 0 0) (cs' := #[.int .i64 0, .slice none 0 0]) rfl) Try.underlying25 rfl (by kernel_rfl)) rfl ?_
  exact ⟨_, rfl, Kd.R_nil _ _ _ _ _, below_set (below_set HB7.out G6.out) G6.out⟩
set_option maxHeartbeats 8000000 in
set_option maxRecDepth 100000 in
theorem wo_no (n : Int) (A : Option Addr) (c : Nat) (Y : List S59) (id : Int) (w : World) (hr : k59.C w A Y.length Y) (hc : Y.length ≤ c) (K : Nat) (hK : beacon_Check.f K n Y = some 0) (k : Nat) (hP : beacon_place.f n Y id = some ((k : Int), false)) :
    Calls Try.prog 20 #[.agg #[.int .i64 n, .slice A Y.length c], .int .i64 id] w fun e w' => ∃ v1_ : Value, e = .returned (.tuple #[.agg #[.int .i64 0, v1_], .int .i64 7]) ∧ k59.R 59 w' w.heap.size (fun _ => True) v1_ [] ∧ Below w.heap.size w w' := by
  have hu25 := Try.underlying25
  have HR := Aside0.mk hr
  have HC := Aside0.mk hc
  have HK := Aside0.mk hK
  have HP := Aside0.mk hP
  clear hr hc hK hP
  go_enter Try.func20, Try.ntmps20
  go_wp2_with (first
    | ((with_reducible refine gate_dst (N := 2) rfl ?_); refine box_event ?hg (N := 2) ?hd (cs := #[.int .i64 n, .slice A Y.length c]) (t := 25) ?hr ?_; (case hd => rfl); (case hg => rfl); (case hr => first | (go_simp; done) | (go_simp; rfl)); intro g3 hg w3 hbox hb; have HB3 := Aside0.mk hb; have G3 := Aside0.mk (Nat.le_of_eq hg.symm); have B3 := Aside0.mk hbox; clear hb hbox hg)
    | ((with_reducible refine gate_dst (N := 4) rfl ?_); refine box_event ?hg (N := 4) ?hd (cs := #[.int .i64 0, .slice none 0 0]) (t := 25) ?hr ?_; (case hd => rfl); (case hg => rfl); (case hr => first | (go_simp; done) | (go_simp; rfl)); intro g6 hg w6 hbox hb; have HB6 := Aside0.mk (below_step HB3.out hb); have G6 := Aside0.mk (show w.heap.size ≤ g6 by rw [hg]; exact below_size HB3.out); have D6 := Aside0.mk (show g3 ≠ g6 by rw [hg]; exact Nat.ne_of_lt (blk_lt B3.out)); have B36 := Aside0.mk (blk_below B3.out hb); have B66 := Aside0.mk hbox; clear hb hbox hg; have u0 := (blk_cell B36.out 0).trans rfl; have u1 := (blk_cell B36.out 1).trans rfl)
    | (go_at_call 22; (with_reducible refine (beacon_Check.calls K n A c Y 0 _ (Kd.C_below HR.out HB6.out) HC.out HK.out).mono ?_); rintro x_ ws ⟨rfl, hb⟩; have HB7 := Aside0.mk (below_step HB6.out hb); have B37 := Aside0.mk (blk_below B36.out hb); have B67 := Aside0.mk (blk_below B66.out hb); clear hb; have v0 := (blk_cell B37.out 0).trans rfl; have v1 := (blk_cell B37.out 1).trans rfl; have vf0 := blk_frozen B37.out 0; have vf1 := blk_frozen B37.out 1; have y0 := (blk_cell B67.out 0).trans rfl; have y1 := (blk_cell B67.out 1).trans rfl; have yf0 := blk_frozen B67.out 0; have yf1 := blk_frozen B67.out 1)
    | (go_at_call 30; (with_reducible refine (beacon_place.calls n A c Y id k false _ (Kd.C_below HR.out HB7.out) HC.out HP.out).mono ?_); rintro x_ w9 ⟨rfl, hb⟩; have HB9 := Aside0.mk (below_step HB7.out hb); have B39 := Aside0.mk (blk_below B37.out hb); have B69 := Aside0.mk (blk_below B67.out hb); clear hb; have w0 := (blk_cell B39.out 0).trans rfl; have w1 := (blk_cell B39.out 1).trans rfl; have y0 := (blk_cell B69.out 0).trans rfl; have y1 := (blk_cell B69.out 1).trans rfl; have yf0 := blk_frozen B69.out 0; have yf1 := blk_frozen B69.out 1))
  refine bodyPost_ret (results_ct rfl _ _ g6 25 #[.int .i64 0, .slice none 0 0] (0, 0) _ rfl (blk_put (blk_put (B69.out) 0 (.int .i64 0) (cs' := #[.int .i64 0, .slice none 0 0]) rfl) 1 (.slice none 0 0) (cs' := #[.int .i64 0, .slice none 0 0]) rfl) Try.underlying25 rfl (by kernel_rfl)) rfl ?_
  exact ⟨_, rfl, Kd.R_nil _ _ _ _ _, below_set (below_set HB9.out G6.out) G6.out⟩
set_option maxHeartbeats 8000000 in
set_option maxRecDepth 100000 in
theorem wo_yes (n : Int) (A : Option Addr) (c : Nat) (Y : List S59) (id : Int) (w : World) (hr : k59.C w A Y.length Y) (hc : Y.length ≤ c) (hl : Y.length ≤ 1000000000000) (K : Nat) (hK : beacon_Check.f K n Y = some 0) (k : Nat) (hP : beacon_place.f n Y id = some ((k : Int), true)) (hk : k < Y.length) :
    Calls Try.prog 20 #[.agg #[.int .i64 n, .slice A Y.length c], .int .i64 id] w fun e w' => ∃ v1_ : Value, e = .returned (.tuple #[.agg #[.int .i64 n, v1_], .int .i64 0]) ∧ k59.R 59 w' w.heap.size (fun _ => True) v1_ (Y.eraseIdx k) ∧ Below w.heap.size w w' := by
  have hu25 := Try.underlying25
  have HR := Aside0.mk hr
  have HC := Aside0.mk hc
  have HK := Aside0.mk hK
  have HP := Aside0.mk hP
  have HCL := Aside0.mk hl
  have HK2 := Aside0.mk hk
  have p1 : (k : Int) < (Y.length : Int) := by omega
  have p2 : (Y.length : Int) ≤ 1000000000000 := by omega
  clear hr hc hK hP hl
  go_enter Try.func20, Try.ntmps20
  go_wp2_with (first
    | ((with_reducible refine gate_dst (N := 2) rfl ?_); refine box_event ?hg (N := 2) ?hd (cs := #[.int .i64 n, .slice A Y.length c]) (t := 25) ?hr ?_; (case hd => rfl); (case hg => rfl); (case hr => first | (go_simp; done) | (go_simp; rfl)); intro g3 hg w3 hbox hb; have HB3 := Aside0.mk hb; have G3 := Aside0.mk (Nat.le_of_eq hg.symm); have B3 := Aside0.mk hbox; clear hb hbox hg)
    | ((with_reducible refine gate_dst (N := 4) rfl ?_); refine box_event ?hg (N := 4) ?hd (cs := #[.int .i64 0, .slice none 0 0]) (t := 25) ?hr ?_; (case hd => rfl); (case hg => rfl); (case hr => first | (go_simp; done) | (go_simp; rfl)); intro g6 hg w6 hbox hb; have HB6 := Aside0.mk (below_step HB3.out hb); have G6 := Aside0.mk (show w.heap.size ≤ g6 by rw [hg]; exact below_size HB3.out); have D6 := Aside0.mk (show g3 ≠ g6 by rw [hg]; exact Nat.ne_of_lt (blk_lt B3.out)); have B36 := Aside0.mk (blk_below B3.out hb); have B66 := Aside0.mk hbox; clear hb hbox hg; have u0 := (blk_cell B36.out 0).trans rfl; have u1 := (blk_cell B36.out 1).trans rfl)
    | (go_at_call 22; (with_reducible refine (beacon_Check.calls K n A c Y 0 _ (Kd.C_below HR.out HB6.out) HC.out HK.out).mono ?_); rintro x_ ws ⟨rfl, hb⟩; have HB7 := Aside0.mk (below_step HB6.out hb); have B37 := Aside0.mk (blk_below B36.out hb); have B67 := Aside0.mk (blk_below B66.out hb); clear hb; have v0 := (blk_cell B37.out 0).trans rfl; have v1 := (blk_cell B37.out 1).trans rfl; have vf0 := blk_frozen B37.out 0; have vf1 := blk_frozen B37.out 1; have y0 := (blk_cell B67.out 0).trans rfl; have y1 := (blk_cell B67.out 1).trans rfl; have yf0 := blk_frozen B67.out 0; have yf1 := blk_frozen B67.out 1)
    | (go_at_call 30; (with_reducible refine (beacon_place.calls n A c Y id k true _ (Kd.C_below HR.out HB7.out) HC.out HP.out).mono ?_); rintro x_ w9 ⟨rfl, hb⟩; have HB9 := Aside0.mk (below_step HB7.out hb); have B39 := Aside0.mk (blk_below B37.out hb); have B69 := Aside0.mk (blk_below B67.out hb); clear hb; have w0 := (blk_cell B39.out 0).trans rfl; have w1 := (blk_cell B39.out 1).trans rfl; have y0 := (blk_cell B69.out 0).trans rfl; have y1 := (blk_cell B69.out 1).trans rfl; have yf0 := blk_frozen B69.out 0; have yf1 := blk_frozen B69.out 1)
    | (go_at_call 29; (with_reducible refine (slices_CloneE.calls A c Y Y _ (Kd.C_below HR.out HB9.out) (clone_f HCL.out)).mono ?_); rintro x_ w8 ⟨u5, rfl, ho, hb⟩; obtain ⟨g5, c5, rfl, _, _, _⟩ := Kd.R_form ho (Nat.lt_of_le_of_lt (Nat.zero_le k) HK2.out); have ST := Aside0.mk (WiSt.of HB9.out B39.out B69.out G3.out G6.out D6.out ho hb (u5 := .slice (some ⟨g5, 0, none⟩) Y.length c5)); clear hb ho)
    | (go_at_call 35; (with_reducible refine (del_any g5 c5 k Y w8 w.heap.size ST.out.row (below_size ST.out.bl) HCL.out HK2.out).mono ?_); rintro x_ w10 ⟨rfl, ho, hg⟩; have ST4 := Aside0.mk (ST.out.app ho hg); clear ho hg; have x0 := (blk_cell ST4.out.b3 0).trans rfl; have x1 := (blk_cell ST4.out.b3 1).trans rfl; have xf1 := blk_frozen ST4.out.b3 1; have y0 := (blk_cell ST4.out.b6 0).trans rfl; have y1 := (blk_cell ST4.out.b6 1).trans rfl; have yf0 := blk_frozen ST4.out.b6 0; have yf1 := blk_frozen ST4.out.b6 1; have n63 : ¬ (g6 = g3) := fun e => ST4.out.d e.symm; have ST5 := Aside0.mk ST4.out.set1))
  refine bodyPost_ret (results_ct rfl _ _ g6 25 #[.int .i64 n, .slice (some ⟨g5, 0, none⟩) (Y.length - 1) c5] (0, 0) _ rfl (blk_put (blk_put ST5.out.b6 0 (.int .i64 n) (cs' := #[.int .i64 n, .slice none 0 0]) rfl) 1 (.slice (some ⟨g5, 0, none⟩) (Y.length - 1) c5) (cs' := #[.int .i64 n, .slice (some ⟨g5, 0, none⟩) (Y.length - 1) c5]) rfl) Try.underlying25 rfl (by kernel_rfl)) rfl ?_
  exact ⟨_, rfl, Kd.R_mono (Kd.R_far (p := ⟨g6, 1, none⟩) (Kd.R_far (p := ⟨g6, 0, none⟩) (Kd.R_types ST5.out.row ST5.out.b6 (by decide)) (fun _ hk => hk.2) _) (fun _ hk => hk.2) _) (fun _ _ => trivial), below_set (below_set ST5.out.bl ST5.out.n6) ST5.out.n6⟩
def withoutL (Y : List S59) (id : Int) : List S59 := Y.eraseIdx (bsAt Y id).toNat
def beacon_Without.f (n : Int) (Y : List S59) (id : Int) : Option (Int × List S59 × Int) := if Y.length ≤ 1000000000000 then (if rbB n Y = true then (if isAt Y id = true then some (n, withoutL Y id, 0) else some (0, [], 7)) else some (0, [], 1)) else none
theorem beacon_Without.calls (a0_0 : Int) (A0_1 : Option Addr) (c0_1 : Nat) (l0_1 : List S59) (a1 r1 : Int) (r2 : List S59) (r3 : Int) (w : World) (hr0_1 : Kd.C k59 w A0_1 l0_1.length l0_1) (hc0_1 : l0_1.length ≤ c0_1) (h : beacon_Without.f a0_0 l0_1 a1 = some (r1, r2, r3)) :
    Calls Try.prog 20 #[.agg #[.int .i64 a0_0, .slice A0_1 l0_1.length c0_1], .int .i64 a1] w fun e w' => ∃ v1_ : Value, e = .returned (.tuple #[.agg #[.int .i64 r1, v1_], .int .i64 r3]) ∧ Kd.R k59 59 w' w.heap.size (fun _ => True) v1_ r2 ∧ Below w.heap.size w w' := by
  unfold beacon_Without.f at h
  split at h
  · rename_i hl
    obtain ⟨K, hK⟩ := bncheck_ev a0_0 l0_1 hl
    have hK0 := hK K (Nat.le_refl _)
    by_cases hR : RBn a0_0 l0_1
    · rw [if_pos hR] at hK0
      rw [if_pos ((rbB_iff _ _).2 hR)] at h
      obtain ⟨p0, p1⟩ := bsAt_range l0_1 a1
      obtain ⟨k, hk⟩ := Int.eq_ofNat_of_zero_le p0
      have hP : beacon_place.f a0_0 l0_1 a1 = some ((k : Int), isAt l0_1 a1) := by
        unfold beacon_place.f isAt
        rw [if_pos hl, hk]
      by_cases hq : isAt l0_1 a1 = true
      · rw [hq] at hP
        rw [if_pos hq] at h
        simp only [Option.some.injEq, Prod.mk.injEq] at h
        obtain ⟨rfl, rfl, rfl⟩ := h
        have hk2 : k < l0_1.length := by
          unfold isAt at hq
          simp only [Bool.and_eq_true, decide_eq_true_eq] at hq
          omega
        have e : withoutL l0_1 a1 = l0_1.eraseIdx k := by unfold withoutL; rw [hk, Int.toNat_natCast]
        rw [e]
        exact wo_yes a0_0 A0_1 c0_1 l0_1 a1 w hr0_1 hc0_1 hl K hK0 k hP hk2
      · rw [show isAt l0_1 a1 = false by simpa using hq] at hP
        rw [if_neg hq] at h
        simp only [Option.some.injEq, Prod.mk.injEq] at h
        obtain ⟨rfl, rfl, rfl⟩ := h
        exact wo_no a0_0 A0_1 c0_1 l0_1 a1 w hr0_1 hc0_1 K hK0 k hP
    · rw [if_neg hR] at hK0
      rw [if_neg (fun hc => hR ((rbB_iff _ _).1 hc))] at h
      simp only [Option.some.injEq, Prod.mk.injEq] at h
      obtain ⟨rfl, rfl, rfl⟩ := h
      exact wo_bad a0_0 A0_1 c0_1 l0_1 a1 w hr0_1 hc0_1 K hK0
  · exact absurd h (by simp)
end Go.Proofs.Ytaiklcpmlkpfjaa.P
namespace Go.Proofs.Ytaiklcpmlkpfjaa.P
open Go.RowKit Go.Proofs.YtaiklcpmlkpfjaaW.PrintWords Go.Proofs.YtaiklcpmlkpfjaaW.PrintLast Go.Proofs.YtaiklcpmlkpfjaaW.PrintMore
def ixF (id : Int) : List S59 → Int → Int
  | [], _ => -1
  | o :: r, i => if o.f0 = id then i else ixF id r (i + 1)
set_option maxHeartbeats 8000000 in
set_option maxRecDepth 100000 in
theorem hd_pred (B : Nat) (id a b : Int) (w : World) (hc : w.cell? ⟨B, 0, none⟩ = some (.int .i64 id)) (hB : B < w.heap.size) :
    Calls Try.prog 34 #[.agg #[.int .i64 a, .int .i64 b], .pointer (some ⟨B, 0, none⟩)] w fun e w' => e = .returned (.bool (a == id)) ∧ Below w.heap.size w w' := by
  have HC := Aside0.mk hc
  have HB := Aside0.mk hB
  clear hc hB
  go_enter Try.func34, Try.ntmps34
  go_wp2_with (((with_reducible refine gate_dst (N := 2) rfl ?_); refine box_event ?hg (N := 2) ?hd (cs := #[.int .i64 a, .int .i64 b]) (t := 59) ?hr ?_; (case hd => rfl); (case hg => rfl); (case hr => first | (go_simp; done) | (go_simp; rfl)); intro gb hg w2 hbox hb; have HB2 := Aside0.mk hb; have x0 := (blk_cell hbox 0).trans rfl; have x1 := (hb.cell (p := ⟨B, 0, none⟩) HB.out).trans HC.out; clear hbox hb hg))
  go_ret
  exact ⟨rfl, HB2.out⟩
set_option maxHeartbeats 8000000 in
set_option maxRecDepth 100000 in
theorem hd_index (A : Option Addr) (c B : Nat) (id : Int) (Y : List S59) (w : World) (hr : Kd.C k59 w A Y.length Y) (hl : Y.length ≤ 1000000000000) (hc : w.cell? ⟨B, 0, none⟩ = some (.int .i64 id)) (hB : B < w.heap.size) :
    Calls Try.prog 33 #[.slice A Y.length c, .func (.func 34) #[] #[.pointer (some ⟨B, 0, none⟩)]] w fun e w' => e = .returned (.int .i64 (ixF id Y 0)) ∧ Below w.heap.size w w' := by
  have HR := Aside0.mk hr
  have HL := Aside0.mk hl
  have HC := Aside0.mk hc
  have HB := Aside0.mk hB
  obtain ⟨R, hR⟩ : ∃ R, R = ixF id Y 0 := ⟨_, rfl⟩
  rw [← hR]
  have HX := Aside0.mk hR.symm
  clear hr hl hc hB hR
  go_enter Try.func33, Try.ntmps33
  go_wp2
  go_loopg [5, 8] Y.length (fun kq v5 v8 wr => ∃ x : Int, v8 = .int .i64 x ∧ Aside0 (0 ≤ x) ∧ Aside0 (x + kq = Y.length) ∧ Aside0 (ixF id (Y.drop x.toNat) x = R) ∧ Aside0 (Below w.heap.size w wr))
  case atStart => exact ⟨0, rfl, ⟨by omega⟩, ⟨by omega⟩, HX, ⟨Below.refl _ _⟩⟩
  case round =>
    clear HX
    obtain ⟨x, rfl, H0, HI, HX, BL⟩ := hrel
    cases gk with
    | zero =>
      have hn : decide (x < (Y.length : Int)) = false := decide_eq_false (by have := HI.out; omega)
      have hx := HX.out
      rw [List.drop_eq_nil_of_le (by have := HI.out; omega)] at hx
      simp only [ixF] at hx
      subst hx
      go_wp2
      go_ret
      exact ⟨rfl, BL.out⟩
    | succ k1 =>
      have hlt := (show x < (Y.length : Int) by have := HI.out; omega)
      have h0 := H0.out
      obtain ⟨ad, e_, hx0, hx1⟩ := at_T59 HR.out x h0 hlt
      cases e_
      replace hx0 := (BL.out.cell (World.block_lt_of_cell? w _ hx0)).trans hx0
      replace hx1 := (BL.out.cell (World.block_lt_of_cell? w _ hx1)).trans hx1
      have hd : decide (x < (Y.length : Int)) = true := decide_eq_true hlt
      have hb0 : x < 9223372036854775807 := by have := HL.out; omega
      have hw : wrap64 (x + 1) = x + 1 := w64 (by omega) (by omega)
      have hx := HX.out
      have hg : Y.drop x.toNat = rd_T59 Y x :: Y.drop (x + 1).toNat := by
        have hi : x.toNat < Y.length := by omega
        rw [List.drop_eq_getElem_cons hi, show (x + 1).toNat = x.toNat + 1 by omega]
        congr 1
        unfold rd_T59
        rw [List.getD_eq_getElem?_getD, List.getElem?_eq_getElem hi]
        rfl
      rw [hg] at hx
      simp only [ixF] at hx
      clear hg HX
      have h0t := eq_true h0
      have hltt := eq_true hlt
      by_cases hq : (rd_T59 Y x).f0 = id
      · rw [if_pos hq] at hx
        subst hx
        have bq : ((rd_T59 Y x).f0 == id) = true := beq_iff_eq.mpr hq
        clear hq
        go_wp2_with (go_at_call 34; (refine (hd_pred B id _ _ _ ((BL.out.cell (p := ⟨B, 0, none⟩) HB.out).trans HC.out) (Nat.lt_of_lt_of_le HB.out BL.out.size)).mono ?_); rintro e2 w2 ⟨rfl, hb⟩; have BL2 := Aside0.mk (below_step BL.out hb); clear hb)
        go_ret
        exact ⟨rfl, BL2.out⟩
      · rw [if_neg hq] at hx
        have HX := Aside0.mk hx
        clear hx
        have bq : ((rd_T59 Y x).f0 == id) = false := beq_eq_false_iff_ne.mpr hq
        clear hq
        go_wp2_with (go_at_call 34; (refine (hd_pred B id _ _ _ ((BL.out.cell (p := ⟨B, 0, none⟩) HB.out).trans HC.out) (Nat.lt_of_lt_of_le HB.out BL.out.size)).mono ?_); rintro e2 w2 ⟨rfl, hb⟩; have BL2 := Aside0.mk (below_step BL.out hb); clear hb)
        go_roundg k1
        case measure => have := HI.out; omega
        case rel => exact ⟨x + 1, by first | rfl | simp [hw], ⟨by omega⟩, ⟨by have := HI.out; omega⟩, HX, BL2⟩
theorem ixF_range (id : Int) : ∀ (L : List S59) (i : Int), ixF id L i = -1 ∨ (i ≤ ixF id L i ∧ ixF id L i < i + L.length) := by
  intro L
  induction L with
  | nil => intro i; exact .inl rfl
  | cons o L ih =>
    intro i
    simp only [ixF, List.length_cons]
    split
    · exact .inr ⟨by omega, by omega⟩
    · rcases ih (i + 1) with h | h
      · exact .inl h
      · exact .inr ⟨by omega, by omega⟩
def beacon_Heard.f (n : Int) (Y : List S59) (id : Int) : Option (Int × Bool) := if Y.length ≤ 1000000000000 then some (if ixF id Y 0 < 0 then (0, false) else ((rd_T59 Y (ixF id Y 0)).f1, true)) else none
set_option maxHeartbeats 8000000 in
set_option maxRecDepth 100000 in
theorem beacon_Heard.calls (a0_0 : Int) (A0_1 : Option Addr) (c0_1 : Nat) (l0_1 : List S59) (a1 : Int) (r1 : Int) (r2 : Bool) (w : World) (hr0_1 : Kd.C k59 w A0_1 l0_1.length l0_1) (hc0_1 : l0_1.length ≤ c0_1) (h : beacon_Heard.f a0_0 l0_1 a1 = some (r1, r2)) :
    Calls Try.prog 17 #[.agg #[.int .i64 a0_0, .slice A0_1 l0_1.length c0_1], .int .i64 a1] w fun e w' => e = .returned (.tuple #[.int .i64 r1, .bool r2]) ∧ Below w.heap.size w w' := by
  have hu25 := Try.underlying25
  obtain ⟨hl, hs⟩ : l0_1.length ≤ 1000000000000 ∧ (if ixF a1 l0_1 0 < 0 then (0, false) else ((rd_T59 l0_1 (ixF a1 l0_1 0)).f1, true)) = (r1, r2) := by
    unfold beacon_Heard.f at h
    split at h
    · rename_i hc
      exact ⟨hc, Option.some.inj h⟩
    · exact absurd h (by simp)
  clear h
  have hrg := ixF_range a1 l0_1 0
  obtain ⟨j, hj⟩ : ∃ j, j = ixF a1 l0_1 0 := ⟨_, rfl⟩
  rw [← hj] at hs hrg
  have HJ := Aside0.mk hj
  have HL := Aside0.mk hl
  have HR := Aside0.mk hr0_1
  have HC := Aside0.mk hc0_1
  clear hl hr0_1 hc0_1 hj
  by_cases hq : j < 0
  · rw [if_pos hq] at hs
    simp only [Prod.mk.injEq] at hs
    obtain ⟨rfl, rfl⟩ := hs
    have bq : decide (j < 0) = true := decide_eq_true hq
    clear hq hrg
    go_enter Try.func17, Try.ntmps17
    go_wp2_with (first
      | ((with_reducible refine gate_dst (N := 2) rfl ?_); refine box_event ?hg (N := 2) ?hd (cs := #[.int .i64 a0_0, .slice A0_1 l0_1.length c0_1]) (t := 25) ?hr ?_; (case hd => rfl); (case hg => rfl); (case hr => first | (go_simp; done) | (go_simp; rfl)); intro g2 hg w2 hbox hb; have BL2 := Aside0.mk hb; have B2 := Aside0.mk hbox; clear hb hbox hg)
      | ((with_reducible refine gate_dst (N := 3) rfl ?_); refine box_event ?hg (N := 3) ?hd (cs := #[.int .i64 a1]) (t := 3) ?hr ?_; (case hd => rfl); (case hg => rfl); (case hr => first | (go_simp; done) | (go_simp; rfl)); intro g3 hg w3 hbox hb; have BL3 := Aside0.mk (below_step BL2.out hb); have B23 := Aside0.mk (blk_below B2.out hb); have B3 := Aside0.mk hbox; clear hb hbox hg; have u1 := (blk_cell B23.out 1).trans rfl)
      | (go_at_call 33; (with_reducible refine (hd_index A0_1 c0_1 g3 a1 l0_1 _ (Kd.C_below HR.out BL3.out) HL.out ((blk_cell B3.out 0).trans rfl) (blk_lt B3.out)).mono ?_); rintro e2 w4 ⟨he2, hb⟩; rw [← HJ.out] at he2; subst he2; have BL := Aside0.mk (below_step BL3.out hb); have B24 := Aside0.mk (blk_below B23.out hb); clear hb; have v1 := (blk_cell B24.out 1).trans rfl))
    go_ret2
    exact ⟨rfl, BL.out⟩
  · rw [if_neg hq] at hs
    simp only [Prod.mk.injEq] at hs
    obtain ⟨rfl, rfl⟩ := hs
    have bq : decide (j < 0) = false := decide_eq_false hq
    have p0 : 0 ≤ j := by omega
    have p1 : j < (l0_1.length : Int) := by omega
    clear hq hrg
    obtain ⟨ad, e_, hx0, hx1⟩ := at_T59 HR.out j p0 p1
    cases e_
    have X1 := Aside0.mk hx1
    clear hx0 hx1
    replace p0 := eq_true p0
    replace p1 := eq_true p1
    go_enter Try.func17, Try.ntmps17
    go_wp2_with (first
      | ((with_reducible refine gate_dst (N := 2) rfl ?_); refine box_event ?hg (N := 2) ?hd (cs := #[.int .i64 a0_0, .slice (some ad) l0_1.length c0_1]) (t := 25) ?hr ?_; (case hd => rfl); (case hg => rfl); (case hr => first | (go_simp; done) | (go_simp; rfl)); intro g2 hg w2 hbox hb; have BL2 := Aside0.mk hb; have B2 := Aside0.mk hbox; clear hb hbox hg)
      | ((with_reducible refine gate_dst (N := 3) rfl ?_); refine box_event ?hg (N := 3) ?hd (cs := #[.int .i64 a1]) (t := 3) ?hr ?_; (case hd => rfl); (case hg => rfl); (case hr => first | (go_simp; done) | (go_simp; rfl)); intro g3 hg w3 hbox hb; have BL3 := Aside0.mk (below_step BL2.out hb); have B23 := Aside0.mk (blk_below B2.out hb); have B3 := Aside0.mk hbox; clear hb hbox hg; have u1 := (blk_cell B23.out 1).trans rfl)
      | (go_at_call 33; (with_reducible refine (hd_index (some ad) c0_1 g3 a1 l0_1 _ (Kd.C_below HR.out BL3.out) HL.out ((blk_cell B3.out 0).trans rfl) (blk_lt B3.out)).mono ?_); rintro e2 w4 ⟨he2, hb⟩; rw [← HJ.out] at he2; subst he2; have BL := Aside0.mk (below_step BL3.out hb); have B24 := Aside0.mk (blk_below B23.out hb); clear hb; have v1 := (blk_cell B24.out 1).trans rfl; have hx1 := (BL.out.cell (World.block_lt_of_cell? w _ X1.out)).trans X1.out))
    go_ret2
    exact ⟨rfl, BL.out⟩
end Go.Proofs.Ytaiklcpmlkpfjaa.P
namespace Go.Proofs.Ytaiklcpmlkpfjaa.P
open Go.RowKit Go.Proofs.YtaiklcpmlkpfjaaW.PrintWords Go.Proofs.YtaiklcpmlkpfjaaW.PrintLast Go.Proofs.YtaiklcpmlkpfjaaW.PrintMore
open Classical
abbrev Srt (Y : List S59) : Prop := Y.Pairwise (fun a b => a.f0 < b.f0)
def putS : List S59 → Int → Int → List S59
  | [], id, ep => [⟨id, ep⟩]
  | o :: r, id, ep => if o.f0 < id then o :: putS r id ep else if o.f0 = id then ⟨id, ep⟩ :: r else ⟨id, ep⟩ :: o :: r
def delS : List S59 → Int → List S59
  | [], _ => []
  | o :: r, id => if o.f0 = id then r else o :: delS r id
def hearS : List S59 → Int → Int × Bool
  | [], _ => (0, false)
  | o :: r, id => if o.f0 = id then (o.f1, true) else hearS r id
theorem rd_nat (Y : List S59) (t : Nat) (h : t < Y.length) : rd_T59 Y (t : Int) = Y[t] := by
  unfold rd_T59
  rw [Int.toNat_natCast, List.getD_eq_getElem?_getD, List.getElem?_eq_getElem h]
  rfl
theorem rb_parts {n : Int} {Y : List S59} : RBn n Y ↔ EpR n ∧ (∀ o ∈ Y, 0 ≤ o.f0 ∧ o.f0 < 64 ∧ EpR o.f1) ∧ Srt Y := by
  constructor
  · intro h
    refine ⟨h.1, fun o ho => ?_, ?_⟩
    · obtain ⟨t, ht, rfl⟩ := List.mem_iff_getElem.1 ho
      have := h.2 t (by omega) (by omega)
      unfold AtR at this
      rw [rd_nat Y t ht] at this
      exact ⟨this.1, this.2.1, this.2.2.1⟩
    · rw [Srt, List.pairwise_iff_getElem]
      have key : ∀ (d s : Nat) (hs : s + d + 1 < Y.length), (Y[s]'(by omega)).f0 < (Y[s + d + 1]'hs).f0 := by
        intro d
        induction d with
        | zero =>
          intro s hs
          have := h.2 ((s + 1 : Nat) : Int) (by omega) (by omega)
          unfold AtR at this
          rcases this.2.2.2 with h0 | h0
          · omega
          · rw [show ((s + 1 : Nat) : Int) - 1 = (s : Int) by omega, rd_nat Y s (by omega), rd_nat Y (s + 1) (by omega)] at h0
            exact h0
        | succ d ih =>
          intro s hs
          have h1 := ih s (by omega)
          have := h.2 ((s + d + 2 : Nat) : Int) (by omega) (by omega)
          unfold AtR at this
          rcases this.2.2.2 with h0 | h0
          · omega
          · rw [show ((s + d + 2 : Nat) : Int) - 1 = ((s + d + 1 : Nat) : Int) by omega, rd_nat Y (s + d + 1) (by omega), rd_nat Y (s + d + 2) (by omega)] at h0
            exact Int.lt_trans h1 h0
      intro i j hi hj hij
      obtain ⟨d, rfl⟩ : ∃ d, j = i + d + 1 := ⟨j - i - 1, by omega⟩
      exact key d i hj
  · rintro ⟨h1, h2, h3⟩
    refine ⟨h1, fun i h0 hi => ?_⟩
    obtain ⟨t, rfl⟩ := Int.eq_ofNat_of_zero_le h0
    have ht : t < Y.length := by omega
    unfold AtR
    rw [rd_nat Y t ht]
    obtain ⟨a, b, c⟩ := h2 _ (List.getElem_mem ht)
    refine ⟨a, b, c, ?_⟩
    rcases Nat.eq_zero_or_pos t with h0 | h0
    · exact .inl (by omega)
    · refine .inr ?_
      rw [show ((t : Nat) : Int) - 1 = ((t - 1 : Nat) : Int) by omega, rd_nat Y (t - 1) (by omega)]
      exact List.pairwise_iff_getElem.1 h3 (t - 1) t (by omega) ht (by omega)
theorem mem_putS (id ep : Int) : ∀ (Y : List S59) (o : S59), o ∈ putS Y id ep → o = ⟨id, ep⟩ ∨ o ∈ Y := by
  intro Y
  induction Y with
  | nil => intro o h; simp [putS] at h; exact .inl h
  | cons a r ih =>
    intro o h
    simp only [putS] at h
    split at h
    · rcases List.mem_cons.1 h with h | h
      · exact .inr (by rw [h]; exact List.mem_cons_self ..)
      · rcases ih o h with h | h
        · exact .inl h
        · exact .inr (List.mem_cons_of_mem _ h)
    · split at h
      · rcases List.mem_cons.1 h with h | h
        · exact .inl h
        · exact .inr (List.mem_cons_of_mem _ h)
      · rcases List.mem_cons.1 h with h | h
        · exact .inl h
        · exact .inr h
theorem putS_has (id ep : Int) : ∀ (Y : List S59), (⟨id, ep⟩ : S59) ∈ putS Y id ep := by
  intro Y
  induction Y with
  | nil => simp [putS]
  | cons a r ih =>
    simp only [putS]
    split
    · exact List.mem_cons_of_mem _ ih
    · split <;> exact List.mem_cons_self ..
theorem srt_putS (id ep : Int) : ∀ (Y : List S59), Srt Y → Srt (putS Y id ep) := by
  intro Y
  induction Y with
  | nil => intro _; simp [putS, Srt]
  | cons a r ih =>
    intro h
    have h1 := List.pairwise_cons.1 h
    simp only [putS]
    split
    · refine List.pairwise_cons.2 ⟨fun o ho => ?_, ih h1.2⟩
      rcases mem_putS id ep r o ho with rfl | ho
      · assumption
      · exact h1.1 o ho
    · split
      · rename_i e
        exact List.pairwise_cons.2 ⟨fun o ho => by have := h1.1 o ho; show id < o.f0; omega, h1.2⟩
      · refine List.pairwise_cons.2 ⟨fun o ho => ?_, h⟩
        show id < o.f0
        rcases List.mem_cons.1 ho with rfl | ho
        · omega
        · have := h1.1 o ho
          omega
theorem rb_putS {n : Int} {Y : List S59} (h : RBn n Y) (id ep : Int) : RBn n (putS Y id ep) ↔ (0 ≤ id ∧ id < 64 ∧ EpR ep) := by
  obtain ⟨h1, h2, h3⟩ := rb_parts.1 h
  constructor
  · intro hh
    exact (rb_parts.1 hh).2.1 _ (putS_has id ep Y)
  · intro hh
    refine rb_parts.2 ⟨h1, fun o ho => ?_, srt_putS id ep Y h3⟩
    rcases mem_putS id ep Y o ho with rfl | ho
    · exact hh
    · exact h2 o ho
theorem putS_length (id ep : Int) : ∀ (Y : List S59), (putS Y id ep).length ≤ Y.length + 1 := by
  intro Y
  induction Y with
  | nil => simp [putS]
  | cons a r ih =>
    simp only [putS]
    split
    · simp only [List.length_cons]; omega
    · split <;> simp
theorem putS_comm (a b p q : Int) (h : a ≠ b) : ∀ (Y : List S59), putS (putS Y a p) b q = putS (putS Y b q) a p := by
  intro Y
  induction Y with
  | nil =>
    simp only [putS]
    rcases Int.lt_trichotomy a b with h1 | h1 | h1
    · rw [if_pos h1, if_neg (by omega), if_neg (by omega)]
    · exact absurd h1 h
    · rw [if_neg (by omega), if_neg (by omega), if_pos h1]
  | cons o r ih =>
    rcases Int.lt_trichotomy o.f0 a with h1 | h1 | h1 <;> rcases Int.lt_trichotomy o.f0 b with h2 | h2 | h2
    · simp only [putS, if_pos h1, if_pos h2, ih]
    · simp only [putS, if_pos h1, if_neg (show ¬ o.f0 < b by omega), if_pos h2, if_pos (show b < a by omega)]
    · simp only [putS, if_pos h1, if_neg (show ¬ o.f0 < b by omega), if_neg (show ¬ o.f0 = b by omega), if_pos (show b < a by omega)]
    · simp only [putS, if_neg (show ¬ o.f0 < a by omega), if_pos h1, if_pos h2, if_pos (show a < b by omega)]
    · exact absurd (h1.symm.trans h2) h
    · simp only [putS, if_neg (show ¬ o.f0 < a by omega), if_pos h1, if_neg (show ¬ o.f0 < b by omega), if_neg (show ¬ o.f0 = b by omega), if_neg (show ¬ a < b by omega), if_neg (show ¬ a = b by omega), if_pos (show b < a by omega)]
    · simp only [putS, if_neg (show ¬ o.f0 < a by omega), if_neg (show ¬ o.f0 = a by omega), if_pos h2, if_pos (show a < b by omega)]
    · simp only [putS, if_neg (show ¬ o.f0 < a by omega), if_neg (show ¬ o.f0 = a by omega), if_neg (show ¬ o.f0 < b by omega), if_pos h2, if_pos (show a < b by omega), if_neg (show ¬ b < a by omega), if_neg (show ¬ b = a by omega)]
    · rcases Int.lt_trichotomy a b with h3 | h3 | h3
      · simp only [putS, if_neg (show ¬ o.f0 < a by omega), if_neg (show ¬ o.f0 = a by omega), if_neg (show ¬ o.f0 < b by omega), if_neg (show ¬ o.f0 = b by omega), if_pos h3, if_neg (show ¬ b < a by omega), if_neg (show ¬ b = a by omega)]
      · exact absurd h3 h
      · simp only [putS, if_neg (show ¬ o.f0 < a by omega), if_neg (show ¬ o.f0 = a by omega), if_neg (show ¬ o.f0 < b by omega), if_neg (show ¬ o.f0 = b by omega), if_pos h3, if_neg (show ¬ a < b by omega), if_neg (show ¬ a = b by omega)]
theorem putS_twice (a p q : Int) : ∀ (Y : List S59), putS (putS Y a p) a q = putS Y a q := by
  intro Y
  induction Y with
  | nil => simp [putS]
  | cons o r ih =>
    rcases Int.lt_trichotomy o.f0 a with h1 | h1 | h1
    · simp only [putS, if_pos h1, ih]
    · simp only [putS, if_neg (show ¬ o.f0 < a by omega), if_pos h1, if_neg (Int.lt_irrefl a), if_true]
    · simp only [putS, if_neg (show ¬ o.f0 < a by omega), if_neg (show ¬ o.f0 = a by omega), if_neg (Int.lt_irrefl a), if_true]
theorem hear_none {id : Int} : ∀ (Y : List S59), (∀ o ∈ Y, o.f0 ≠ id) → hearS Y id = (0, false) := by
  intro Y
  induction Y with
  | nil => intro _; rfl
  | cons o r ih =>
    intro h
    simp only [hearS]
    rw [if_neg (h o (List.mem_cons_self ..)), ih (fun x hx => h x (List.mem_cons_of_mem _ hx))]
theorem bcmp_lt (a b : Int) : bcmp a b < 0 ↔ a < b := by unfold bcmp; split <;> (try split) <;> omega
theorem bcmp_eq (a b : Int) : bcmp a b = 0 ↔ a = b := by unfold bcmp; split <;> (try split) <;> omega
theorem bsF_spec (id : Int) (Y : List S59) (hs : Srt Y) : ∀ (k : Nat) (i j : Nat), i ≤ j → j ≤ Y.length → j - i < k → (∀ t (ht : t < Y.length), t < i → (Y[t]).f0 < id) → (∀ t (ht : t < Y.length), j ≤ t → id ≤ (Y[t]).f0) →
    ∃ r : Nat, bsF id Y k i j = r ∧ r ≤ Y.length ∧ (∀ t (ht : t < Y.length), t < r → (Y[t]).f0 < id) ∧ (∀ t (ht : t < Y.length), r ≤ t → id ≤ (Y[t]).f0) := by
  intro k
  induction k with
  | zero => intro i j h1 h2 h3; omega
  | succ k ih =>
    intro i j h1 h2 h3 h4 h5
    simp only [bsF]
    split
    · rename_i hij
      have hm : ((i : Int) + (j : Int)) / 2 = (((i + j) / 2 : Nat) : Int) := by omega
      have hml : (i + j) / 2 < Y.length := by omega
      rw [hm, rd_nat Y _ hml]
      split
      · rename_i hlt
        rw [bcmp_lt] at hlt
        rw [show (((i + j) / 2 : Nat) : Int) + 1 = (((i + j) / 2 + 1 : Nat) : Int) by omega]
        refine ih ((i + j) / 2 + 1) j (by omega) h2 (by omega) (fun t ht htl => ?_) h5
        rcases Nat.lt_or_ge t ((i + j) / 2) with h | h
        · exact Int.lt_trans (List.pairwise_iff_getElem.1 hs t ((i + j) / 2) ht hml h) hlt
        · obtain rfl : t = (i + j) / 2 := by omega
          exact hlt
      · rename_i hge
        rw [bcmp_lt] at hge
        refine ih i ((i + j) / 2) (by omega) (by omega) (by omega) h4 (fun t ht htl => ?_)
        rcases Nat.lt_or_ge ((i + j) / 2) t with h | h
        · have := List.pairwise_iff_getElem.1 hs ((i + j) / 2) t hml ht h
          omega
        · obtain rfl : t = (i + j) / 2 := by omega
          omega
    · exact ⟨i, rfl, by omega, h4, fun t ht htl => h5 t ht (by omega)⟩
theorem bs_parts (id : Int) (Y : List S59) (hs : Srt Y) : ∃ L R : List S59, Y = L ++ R ∧ bsAt Y id = L.length ∧ (∀ o ∈ L, o.f0 < id) ∧ (∀ o ∈ R, id ≤ o.f0) := by
  obtain ⟨r, h1, h2, h3, h4⟩ := bsF_spec id Y hs (Y.length + 1) 0 Y.length (Nat.zero_le _) (Nat.le_refl _) (by omega) (fun t _ h => by omega) (fun t ht h => by omega)
  refine ⟨Y.take r, Y.drop r, (List.take_append_drop r Y).symm, by rw [List.length_take, Nat.min_eq_left h2]; exact h1, fun o ho => ?_, fun o ho => ?_⟩
  · obtain ⟨t, ht, rfl⟩ := List.mem_iff_getElem.1 ho
    rw [List.length_take] at ht
    rw [List.getElem_take]
    exact h3 t (by omega) (by omega)
  · obtain ⟨t, ht, rfl⟩ := List.mem_iff_getElem.1 ho
    rw [List.length_drop] at ht
    rw [List.getElem_drop]
    exact h4 (r + t) (by omega) (by omega)
theorem put_app (id ep : Int) : ∀ (L R : List S59), (∀ o ∈ L, o.f0 < id) → putS (L ++ R) id ep = L ++ putS R id ep := by
  intro L R
  induction L with
  | nil => intro _; rfl
  | cons o r ih => intro h; simp only [List.cons_append, putS]; rw [if_pos (h o (List.mem_cons_self ..)), ih (fun x hx => h x (List.mem_cons_of_mem _ hx))]
theorem del_app (id : Int) : ∀ (L R : List S59), (∀ o ∈ L, o.f0 < id) → delS (L ++ R) id = L ++ delS R id := by
  intro L R
  induction L with
  | nil => intro _; rfl
  | cons o r ih => intro h; simp only [List.cons_append, delS]; rw [if_neg (by have := h o (List.mem_cons_self ..); omega), ih (fun x hx => h x (List.mem_cons_of_mem _ hx))]
theorem hear_app (id : Int) : ∀ (L R : List S59), (∀ o ∈ L, o.f0 < id) → hearS (L ++ R) id = hearS R id := by
  intro L R
  induction L with
  | nil => intro _; rfl
  | cons o r ih => intro h; simp only [List.cons_append, hearS]; rw [if_neg (by have := h o (List.mem_cons_self ..); omega), ih (fun x hx => h x (List.mem_cons_of_mem _ hx))]
theorem at_all (id ep : Int) (Y : List S59) (hs : Srt Y) : isAt Y id = (hearS Y id).2 ∧ withL Y id ep = putS Y id ep ∧ ((hearS Y id).2 = true → withoutL Y id = delS Y id) := by
  obtain ⟨L, R, rfl, hb, hL, hR⟩ := bs_parts id Y hs
  unfold withL withoutL isAt
  rw [hb, put_app id ep L R hL, del_app id L R hL, hear_app id L R hL, Int.toNat_natCast]
  cases R with
  | nil =>
    have : ¬ ((L.length : Int) < ((L ++ ([] : List S59)).length : Int)) := by simp
    simp only [decide_eq_false this, Bool.false_and, hearS, putS, Bool.false_eq_true, if_false]
    refine ⟨trivial, ?_, fun h => by cases h⟩
    simp
  | cons o r =>
    have h1 : ((L.length : Int) < ((L ++ o :: r).length : Int)) := by simp; omega
    have h2 : rd_T59 (L ++ o :: r) (L.length : Int) = o := by
      rw [rd_nat _ _ (by simp)]
      simp
    have h3 := hR o (List.mem_cons_self ..)
    rw [h2]
    simp only [decide_eq_true h1, Bool.true_and, hearS, putS, delS, if_neg (show ¬ o.f0 < id by omega)]
    by_cases he : o.f0 = id
    · have hc : (bcmp o.f0 id == 0) = true := by rw [beq_iff_eq]; exact (bcmp_eq _ _).2 he
      rw [hc, if_pos he, if_pos he]
      refine ⟨rfl, ?_, fun _ => ?_⟩
      · rw [if_pos rfl, he]
        simp
      · rw [if_pos he, List.eraseIdx_append_of_length_le (Nat.le_refl _)]
        simp
    · have hc : (bcmp o.f0 id == 0) = false := by rw [beq_eq_false_iff_ne]; exact fun h => he ((bcmp_eq _ _).1 h)
      have hn : hearS r id = (0, false) := by
        refine hear_none r (fun x hx => ?_)
        have hp := (List.pairwise_append.1 hs).2.1
        have := (List.pairwise_cons.1 hp).1 x hx
        omega
      rw [hc, if_neg he, if_neg he, hn]
      refine ⟨rfl, ?_, fun h => by cases h⟩
      simp
theorem with_eq (n : Int) (Y : List S59) (id ep : Int) (hl : Y.length ≤ 1000000000000) : beacon_With.f n Y id ep = some (if RBn n Y ∧ 0 ≤ id ∧ id < 64 ∧ EpR ep then (n, putS Y id ep, 0) else (0, [], 1)) := by
  unfold beacon_With.f
  rw [if_pos hl]
  by_cases h : RBn n Y ∧ 0 ≤ id ∧ id < 64 ∧ EpR ep
  · rw [if_pos h, if_pos ⟨(rbB_iff _ _).2 h.1, h.2.1, h.2.2.1, h.2.2.2.1, h.2.2.2.2⟩, (at_all id ep Y (rb_parts.1 h.1).2.2).2.1]
  · rw [if_neg h, if_neg (fun hh => h ⟨(rbB_iff _ _).1 hh.1, hh.2.1, hh.2.2.1, hh.2.2.2⟩)]
end Go.Proofs.Ytaiklcpmlkpfjaa.P
namespace Go.Proofs.Ytaiklcpmlkpfjaa.P
open Go.RowKit Go.Proofs.YtaiklcpmlkpfjaaW.PrintWords Go.Proofs.YtaiklcpmlkpfjaaW.PrintLast Go.Proofs.YtaiklcpmlkpfjaaW.PrintMore
section
variable {P : Program} {f : FuncId} {fn : Func}
theorem run_call_loadp (hf : P.funcs[f]? = some fn) (hname : (fn.name == "runtime.NumGoroutine") = false) (hb : fn.body.isNone = true) (hn : Extern.findNext fn = none)
    (he : Extern.find fn = some (Extern.Atomic.loadT .ptr)) {a : Addr} {x : Option Addr} {w : World} (hc : w.cell? a = some (.pointer x)) :
    (callFunc f #[.pointer (some a)]).run P w = .ok (.value (.pointer x)) w := by
  rw [run_callFunc_extern hf hname hb hn he]
  change (Sem.run P (do Extern.Atomic.read .ptr (← asAddr (.pointer (some a)))) w).andThen _ = _
  simp [Extern.Atomic.read, asAddr, hc, Result.andThen]
theorem run_call_casp (hf : P.funcs[f]? = some fn) (hname : (fn.name == "runtime.NumGoroutine") = false) (hb : fn.body.isNone = true) (hn : Extern.findNext fn = none)
    (he : Extern.find fn = some (Extern.Atomic.casT .ptr)) {a : Addr} {q : Option Addr} {w : World} (hc : w.cell? a = some (.pointer none)) (hz : w.frozen? a = false) :
    (callFunc f #[.pointer (some a), .pointer none, .pointer q]).run P w = .ok (.value (.bool true)) (w.setCell a (.pointer q)) := by
  rw [run_callFunc_extern hf hname hb hn he]
  change (Sem.run P (do
    let a' ← asAddr (.pointer (some a))
    if ← Extern.Atomic.touchesFrozen a' then unsupported (.unsafePointer "a write to bytes that a string shares")
    let eq ← match Extern.Atomic.T.ptr, ← Extern.Atomic.read .ptr a', Value.pointer none with
      | _, .int _ x, .int _ y => pure (x == y)
      | .ptr, .pointer x, .pointer y => samePointer x y
      | .int _, .pointer (some _), .int _ 0 | .int _, .int _ 0, .pointer (some _) => pure false
      | .int _, .pointer (some _), _ | .int _, _, .pointer (some _) => unsupported .addressObserved
      | _, _, _ => stuck "atomic.CompareAndSwap: old is no T"
    if eq then store a' (.pointer q) .atomic
    pure (Value.bool eq)) w).andThen _ = _
  simp [Extern.Atomic.touchesFrozen, Extern.Atomic.read, asAddr, viewAt, samePointer, World.shape?_isSome_of_cell? hc, hc, hz, run_store P w a (.pointer q) .atomic rfl, Result.andThen]
theorem run_convert_nil_to {src dst t : TypeId} (hs : P.underlying src = some (.pointer t)) (hd : P.underlying dst = some .unsafePointer) (w : World) : (convert src dst (.pointer none)).run P w = .ok (.pointer none) w := by
  simp [convert, Conv.unsafePointer, run_underlying hs, run_underlying hd, Result.andThen]
theorem run_convert_nil_from {src dst t : TypeId} (hs : P.underlying src = some .unsafePointer) (hd : P.underlying dst = some (.pointer t)) (w : World) : (convert src dst (.pointer none)).run P w = .ok (.pointer none) w := by
  simp [convert, Conv.unsafePointer, run_underlying hs, run_underlying hd, Result.andThen]
theorem run_convert_from {src dst t : TypeId} (hs : P.underlying src = some .unsafePointer) (hd : P.underlying dst = some (.pointer t)) (hsz : (P.info? t).map (fun i => decide (i.size = 0)) = some false) {g : Nat} {v : Value} (hl : liesAt P P.depth t (1 / P.cellsOf t) 0 t 1 = true)
    {w : World} (hb : w.heap[g]? = some (.cells #[v] t (0, 0))) : (convert src dst (.pointer (some ⟨g, 0, none⟩))).run P w = .ok (.pointer (some ⟨g, 0, none⟩)) w := by
  obtain ⟨i, hi, hz0⟩ := Option.map_eq_some_iff.1 hsz
  have hz : i.size ≠ 0 := by simpa using hz0
  have hsh : w.shape? g = some (t, 1) := by
    unfold World.shape?
    rw [hb]
    rfl
  simp [convert, Conv.unsafePointer, Conv.seenAt, viewAt, variablesAt, sizeOf, typeInfo, run_underlying hs, run_underlying hd, hi, hz, hsh, hl, Result.andThen]
end
end Go.Proofs.Ytaiklcpmlkpfjaa.P
namespace Go.Proofs.Ytaiklcpmlkpfjaa.P
open Go.RowKit Go.Proofs.YtaiklcpmlkpfjaaW.PrintWords Go.Proofs.YtaiklcpmlkpfjaaW.PrintLast Go.Proofs.YtaiklcpmlkpfjaaW.PrintMore
theorem wire_number_eq (l : List Int) (a n : Int) (hB : Bytes l) (hl : l.length ≤ 1000000000000) (h0 : 0 ≤ n) (h8 : n ≤ 8) : wire_number.f l a n = some (numSpec l a n) := by
  unfold wire_number.f
  rw [if_pos ⟨hl, h0, h8, hB⟩]
theorem numSpec_small (l : List Int) (a n : Int) (hB : Bytes l) (h7 : n ≤ 7) : 0 ≤ (numSpec l a n).1 ∧ (numSpec l a n).1 < 72057594037927936 := by
  unfold numSpec
  split
  · simp
  · split
    · simp
    · have hr := bev_range _ ((hB.drop a.toNat).take n.toNat)
      have hp : (256 : Int) ^ ((l.drop a.toNat).take n.toNat).length ≤ 256 ^ 7 := pow256_le _ _ (by rw [List.length_take]; omega)
      have e7 : (256 : Int) ^ 7 = 72057594037927936 := by decide
      exact ⟨hr.1, by show bev _ < _; omega⟩
theorem wire_Get_eq (l : List Int) (a n : Int) (hB : Bytes l) (hl : l.length ≤ 1000000000000) : wire_Get.f l a n = some (getSpec l a n) := by
  unfold wire_Get.f getSpec
  by_cases c : n < 1 ∨ 7 < n
  · rw [if_pos c]
    by_cases c1 : n < 1
    · rw [if_pos c1]
    · rw [if_neg c1, if_pos (show n > 7 by omega)]
  · rw [if_neg c]
    rw [if_neg (show ¬ n < 1 by omega), if_neg (show ¬ n > 7 by omega), wire_number_eq l a n hB hl (by omega) (by omega)]
    have hs := numSpec_small l a n hB (by omega)
    rw [Option.bind_some, w64 (by omega) (by omega)]
end Go.Proofs.Ytaiklcpmlkpfjaa.P
namespace Go.Proofs.Ytaiklcpmlkpfjaa.P
open Go.RowKit Go.Proofs.YtaiklcpmlkpfjaaW.PrintWords Go.Proofs.YtaiklcpmlkpfjaaW.PrintLast Go.Proofs.YtaiklcpmlkpfjaaW.PrintMore
theorem bp_load0 (g : Nat) (w : World) (hc : w.cell? ⟨g, 2, none⟩ = some (.pointer none)) :
    Calls Try.prog 25 #[.pointer (some ⟨g, 2, none⟩)] w fun e w' => e = .returned (.pointer none) ∧ w = w' := by
  have hld := run_call_loadp (P := Try.prog) Try.func39 (by kernel_rfl) (by kernel_rfl) (by kernel_rfl) (by kernel_rfl) hc
  have hcv := run_convert_nil_from (P := Try.prog) (src := 52) (dst := 48) Try.underlying52 Try.underlying48 w
  go_enter Try.func25, Try.ntmps25
  go_wp2
  go_ret
  exact ⟨rfl, rfl⟩
theorem bp_load1 (g gb : Nat) (e : Int) (w : World) (hc : w.cell? ⟨g, 2, none⟩ = some (.pointer (some ⟨gb, 0, none⟩))) (hb : w.heap[gb]? = some (.cells #[.int .i64 e] 26 (0, 0))) :
    Calls Try.prog 25 #[.pointer (some ⟨g, 2, none⟩)] w fun e w' => e = .returned (.pointer (some ⟨gb, 0, none⟩)) ∧ w = w' := by
  have hld := run_call_loadp (P := Try.prog) Try.func39 (by kernel_rfl) (by kernel_rfl) (by kernel_rfl) (by kernel_rfl) hc
  have hcv := run_convert_from (P := Try.prog) (src := 52) (dst := 48) Try.underlying52 Try.underlying48 (by kernel_rfl) (by kernel_rfl) hb
  clear hb
  go_enter Try.func25, Try.ntmps25
  go_wp2
  go_ret
  exact ⟨rfl, rfl⟩
theorem bp_cas (g gb : Nat) (v : Value) (w : World) (hc : w.cell? ⟨g, 2, none⟩ = some (.pointer none)) (hz : w.frozen? ⟨g, 2, none⟩ = false) (hb : w.cell? ⟨gb, 0, none⟩ = some v) :
    Calls Try.prog 38 #[.pointer (some ⟨g, 2, none⟩), .pointer none, .pointer (some ⟨gb, 0, none⟩)] w fun e w' => e = .returned (.bool true) ∧ w.setCell ⟨g, 2, none⟩ (.pointer (some ⟨gb, 0, none⟩)) = w' := by
  have hcs := run_call_casp (P := Try.prog) Try.func48 (by kernel_rfl) (by kernel_rfl) (by kernel_rfl) (by kernel_rfl) (q := some ⟨gb, 0, none⟩) hc hz
  have hc0 := run_convert_nil_to (P := Try.prog) (src := 48) (dst := 52) Try.underlying48 Try.underlying52 w
  have hc1 := run_convert_to_unsafe (P := Try.prog) (src := 48) (dst := 52) Try.underlying48 Try.underlying52 (by kernel_rfl) hb
  go_enter Try.func38, Try.ntmps38
  go_wp2
  go_ret
  exact ⟨rfl, rfl⟩
theorem bgrown_below {w w1 w2 : World} {g : Nat} (hb : Below w.heap.size w w1) (h : w1.grownBy w2 (some g)) : w.grownBy w2 (some g) :=
  ⟨h.os.trans hb.os, h.tape.trans hb.tape, h.output.trans hb.output, Nat.le_trans hb.size h.size, fun k hk hn => (h.block k (Nat.lt_of_lt_of_le hk hb.size) hn).trans (hb.block k hk)⟩
theorem bgrown_set {w : World} {g : Nat} {cs : Array Value} {t : TypeId} (hb : w.heap[g]? = some (.cells cs t (0, 0))) (i : Nat) (u : Value) : w.grownBy (w.setCell ⟨g, i, none⟩ u) (some g) :=
  ⟨rfl, rfl, rfl, by simp [World.setCell], fun k hk hn => Below.heap_setCell w ⟨g, i, none⟩ u k (fun e => hn (by rw [e]))⟩
def RdB (A : Option Addr) (n c : Nat) (at_ : Int) (p : Option Addr) : Array Value := #[.slice A n c, .int .i64 at_, .pointer p]
set_option maxHeartbeats 8000000 in
set_option maxRecDepth 100000 in
theorem bn_E (g gb : Nat) (A : Option Addr) (n c : Nat) (at_ e sz : Int) (w : World) (hb : w.heap[g]? = some (.cells (RdB A n c at_ (some ⟨gb, 0, none⟩)) 56 (0, 0))) (he : w.heap[gb]? = some (.cells #[.int .i64 e] 26 (0, 0))) :
    Calls Try.prog 24 #[.pointer (some ⟨g, 0, none⟩), .int .i64 sz] w fun x w' => x = .returned (.int .i64 0) ∧ w = w' := by
  have h2 : w.cell? ⟨g, 2, none⟩ = some (.pointer (some ⟨gb, 0, none⟩)) := (blk_cell hb 2).trans rfl
  have HE := Aside0.mk he
  clear hb he
  go_enter Try.func24, Try.ntmps24
  go_wp2_with (go_at_call 25; (with_reducible refine (bp_load1 g gb e _ h2 HE.out).mono ?_); rintro _ _ ⟨rfl, rfl⟩)
  go_ret
  exact ⟨rfl, rfl⟩
def bn_ok.T3 : Bool × List (List Nat × List Nat) := (true, [([], []), ([0], [0]), ([1], [1]), ([2], [2]), ([], []), ([4], [4]), ([5], [5]), ([6], [6]), ([], []), ([3, 7, 8], [3, 7, 8]), ([9], [9]), ([10], [10]), ([10], [10]), ([10], [10]), ([], []), ([11, 9, 0, 1, 2, 3, 4, 5, 6, 7, 8, 9, 10, 11, 14], [11]), ([12, 15, 0, 1, 2, 3, 4, 5, 6, 7, 8, 9, 10, 11, 12, 14, 15], [12]), ([14, 13, 16, 0, 1, 2, 3, 4, 5, 6, 7, 8, 9, 10, 11, 12, 13, 14, 15, 16], [13, 14])])
def bn_ok.B3 : List Nat := [0, 1, 3, 7, 0, 16, 48, 112, 0, 511, 1023, 2047, 2047, 2047, 0, 20479, 57343, 131071]
theorem bn_ok.tab3 : rtab .any (opsOf Try.f24 3) = bn_ok.T3 := by kernel_rfl
theorem bn_ok.bits3 : waitsOk bn_ok.T3.2 bn_ok.B3 = true := by kernel_rfl
set_option maxHeartbeats 8000000 in
set_option maxRecDepth 100000 in
theorem bn_ok (g : Nat) (A : Option Addr) (c : Nat) (l : List Int) (at_ sz s1 s2 s3 : Int) (w : World) (hG : getSpec l at_ sz = (s1, s2, s3)) (hs : s3 = 0) (hB : Bytes l) (hl : l.length ≤ 1000000000000) (hr : Kd.C (Kd.int .u8) w A l.length l) (hc : l.length ≤ c) (hb : w.heap[g]? = some (.cells (RdB A l.length c at_ none) 56 (0, 0))) :
    Calls Try.prog 24 #[.pointer (some ⟨g, 0, none⟩), .int .i64 sz] w fun x w' => x = .returned (.int .i64 s1) ∧ w'.heap[g]? = some (.cells (RdB A l.length c s2 none) 56 (0, 0)) ∧ w.grownBy w' (some g) := by
  have h2 : w.cell? ⟨g, 2, none⟩ = some (.pointer none) := (blk_cell hb 2).trans rfl
  have HBB := Aside0.mk hb
  have HG := Aside0.mk (show wire_Get.f l at_ sz = some (s1, s2, s3) by rw [wire_Get_eq _ _ _ hB hl, hG])
  have HR := Aside0.mk hr
  have HC := Aside0.mk hc
  subst hs
  clear hG hb hr hc hB hl
  go_enter Try.func24, Try.ntmps24
  go_upto_region 3 with (go_at_call 25; (with_reducible refine (bp_load0 g _ h2).mono ?_); rintro _ _ ⟨rfl, rfl⟩)
  clear h2
  have HBd := Aside0.mk (below_drew (Below.refl w.heap.size w))
  have BRd := Aside0.mk (show w.drew.heap[g]? = _ from HBB.out)
  refine start_ (n := 18) (S := fun w' => w'.cell? ⟨g, 0, none⟩ = some (.slice A l.length c) ∧ w'.cell? ⟨g, 1, none⟩ = some (.int .i64 at_)) (ds := [17]) #[false, false, false, false, false, false, false, false, false, false, false, false, false, false, false, false, false, false] (by kernel_rfl) rfl rfl ⟨(blk_cell BRd.out 0).trans rfl, (blk_cell BRd.out 1).trans rfl⟩ (fun hHeld => ?_); refine with_tabW bn_ok.tab3 bn_ok.bits3 (fun HT_ HW_ => ?_)
  refine pure_ (i := 0) (N := some 14) (v := ?_) (a' := ?_) #[true, false, false, false, false, false, false, false, false, false, false, false, false, false, false, false, false, false] rfl rfl (any_of HT_.out (by kernel_rfl)) (fun _ _ _ h => h) (Or.inl ⟨by rfl, ?_⟩) ?_ ?_
  rotate_left
  · intro w'
    go_simp
    with_reducible rfl
  rotate_left
  · simp only [Act.put, List.setIfInBounds_toArray, List.set_cons_zero, List.set_cons_succ, i64_w, i32_w]
    rfl
  refine pure_ (i := 1) (N := some 15) (v := ?_) (a' := ?_) #[true, true, false, false, false, false, false, false, false, false, false, false, false, false, false, false, false, false] rfl rfl (any_of HT_.out (by kernel_rfl)) (fun _ _ _ h => h) (Or.inl ⟨by rfl, ?_⟩) ?_ ?_
  rotate_left
  · intro w'
    go_simp
    with_reducible rfl
  rotate_left
  · simp only [Act.put, List.setIfInBounds_toArray, List.set_cons_zero, List.set_cons_succ, i64_w, i32_w]
    rfl
  refine pure_ (i := 2) (N := some 16) (v := ?_) (a' := ?_) #[true, true, true, false, false, false, false, false, false, false, false, false, false, false, false, false, false, false] rfl rfl (any_of HT_.out (by kernel_rfl)) (fun _ _ _ h => h) (Or.inl ⟨by rfl, ?_⟩) ?_ ?_
  rotate_left
  · intro w'
    go_simp
    with_reducible rfl
  rotate_left
  · simp only [Act.put, List.setIfInBounds_toArray, List.set_cons_zero, List.set_cons_succ, i64_w, i32_w]
    rfl
  refine pure_ (i := 4) (N := some 18) (v := ?_) (a' := ?_) #[true, true, true, false, true, false, false, false, false, false, false, false, false, false, false, false, false, false] rfl rfl (any_of HT_.out (by kernel_rfl)) (fun _ _ _ h => h) (Or.inl ⟨by rfl, ?_⟩) ?_ ?_
  rotate_left
  · intro w'
    go_simp
    with_reducible rfl
  rotate_left
  · simp only [Act.put, List.setIfInBounds_toArray, List.set_cons_zero, List.set_cons_succ, i64_w, i32_w]
    rfl
  refine pure_ (i := 5) (N := some 19) (v := ?_) (a' := ?_) #[true, true, true, false, true, true, false, false, false, false, false, false, false, false, false, false, false, false] rfl rfl (any_of HT_.out (by kernel_rfl)) (fun _ _ _ h => h) (Or.inl ⟨by rfl, ?_⟩) ?_ ?_
  rotate_left
  · intro w'
    go_simp
    with_reducible rfl
  rotate_left
  · simp only [Act.put, List.setIfInBounds_toArray, List.set_cons_zero, List.set_cons_succ, i64_w, i32_w]
    rfl
  refine pure_ (i := 6) (N := some 20) (v := ?_) (a' := ?_) #[true, true, true, false, true, true, true, false, false, false, false, false, false, false, false, false, false, false] rfl rfl (any_of HT_.out (by kernel_rfl)) (fun _ _ _ h => h) (Or.inl ⟨by rfl, ?_⟩) ?_ ?_
  rotate_left
  · intro w'
    go_simp
    with_reducible rfl
  rotate_left
  · simp only [Act.put, List.setIfInBounds_toArray, List.set_cons_zero, List.set_cons_succ, i64_w, i32_w]
    rfl
  refine pure_ (i := 8) (N := some 22) (v := ?_) (a' := ?_) #[true, true, true, false, true, true, true, false, true, false, false, false, false, false, false, false, false, false] rfl rfl (any_of HT_.out (by kernel_rfl)) (fun _ _ _ h => h) (Or.inl ⟨by rfl, ?_⟩) ?_ ?_
  rotate_left
  · intro w'
    go_simp
    with_reducible rfl
  rotate_left
  · simp only [Act.put, List.setIfInBounds_toArray, List.set_cons_zero, List.set_cons_succ, i64_w, i32_w]
    rfl
  refine take_ (i := 3) (N := some 17) (v := ?_) (a' := ?_) #[true, true, true, true, true, true, true, false, true, false, false, false, false, false, false, false, false, false] rfl rfl (take_ofW HT_.out HW_.out (by kernel_rfl)) (fun _ _ _ h => h) (Or.inl ⟨by rfl, ?_⟩) hHeld ?_ ?_
  rotate_left
  · rintro w' ⟨s0, s1⟩
    go_simp
    with_reducible rfl
  rotate_left
  · simp only [Act.put, List.setIfInBounds_toArray, List.set_cons_zero, List.set_cons_succ, i64_w, i32_w]
    rfl
  refine take_ (i := 7) (N := some 21) (v := ?_) (a' := ?_) #[true, true, true, true, true, true, true, true, true, false, false, false, false, false, false, false, false, false] rfl rfl (take_ofW HT_.out HW_.out (by kernel_rfl)) (fun _ _ _ h => h) (Or.inl ⟨by rfl, ?_⟩) hHeld ?_ ?_
  rotate_left
  · rintro w' ⟨s0, s1⟩
    go_simp
    with_reducible rfl
  rotate_left
  · simp only [Act.put, List.setIfInBounds_toArray, List.set_cons_zero, List.set_cons_succ, i64_w, i32_w]
    rfl
  refine join_ (σ := Nat) 3 #[true, true, true, true, true, true, true, true, true, true, true, true, true, true, true, false, false, false] (fun s_ => [(23, .tuple #[.int .i64 s1, .int .i64 s2, .int .i64 0]), (13, .tuple #[.int .i64 s1, .int .i64 s2, .int .i64 0]), (24, .int .i64 s1), (25, .int .i64 s2), (26, .int .i64 0), (7, .pointer (some ⟨s_, 0, none⟩))]) (fun s_ w' => (w'.cell? ⟨g, 0, none⟩ = some (.slice A l.length c) ∧ w'.cell? ⟨g, 1, none⟩ = some (.int .i64 at_)) ∧ Aside0 (w'.heap[s_]? = some (.cells #[.int .i64 0] 26 (0, 0))) ∧ Aside0 (w'.heap[g]? = some (.cells (RdB A l.length c at_ none) 56 (0, 0))) ∧ Aside0 (Below w.heap.size w w') ∧ Aside0 (w.heap.size ≤ s_)) ?_ ?_
  rotate_left
  · intro hCont
    refine two_ (i := 9) (j := 14) (Ni := some 23) (Nj := some 7) #[true, true, true, true, true, true, true, true, true, true, false, false, false, false, false, false, false, false] #[true, true, true, true, true, true, true, true, true, false, false, false, false, false, true, false, false, false] rfl rfl rfl rfl (two_of HT_.out (by kernel_rfl)) (by decide) (by decide) (fun K hK => ?_) (fun K hK => ?_)
    · skip
      refine goes_ Try.func37 (by kernel_rfl) rfl #[.slice A l.length c, .int .i64 at_, .int .i64 sz] (by rfl) rfl rfl (by simp only [List.map_toArray, List.map_cons, List.map_nil]; rfl) ?_
      with_reducible refine (wire_Get.calls A c l at_ sz _ _ _ _ (Kd.C_below HR.out HBd.out) HC.out HG.out).mono ?_
      rintro e w7 ⟨rfl, hb7⟩
      refine ⟨_, rfl, ?_⟩
      have HBn := Aside0.mk (below_step HBd.out hb7)
      have BRn := Aside0.mk (blk_below BRd.out hb7)
      clear HBd BRd hb7
      have HBd := HBn
      have BRd := BRn
      clear HBn BRn
      refine hK.out _ _ ⟨(blk_cell BRd.out 0).trans rfl, (blk_cell BRd.out 1).trans rfl⟩ (fun hHeld => ?_)
      clear hK K
      refine norm_ (a' := ?_) ?_ ?_
      rotate_left
      · show Act.put _ (some 23) _ = _
        simp only [Act.put, List.setIfInBounds_toArray, List.set_cons_zero, List.set_cons_succ, i64_w, i32_w]
        rfl
      refine pure_ (i := 10) (N := some 13) (v := ?_) (a' := ?_) #[true, true, true, true, true, true, true, true, true, true, true, false, false, false, false, false, false, false] rfl rfl (any_of HT_.out (by kernel_rfl)) (fun _ _ _ h => h) (Or.inl ⟨by rfl, ?_⟩) ?_ ?_
      rotate_left
      · intro w'
        go_simp
        with_reducible rfl
      rotate_left
      · simp only [Act.put, List.setIfInBounds_toArray, List.set_cons_zero, List.set_cons_succ, i64_w, i32_w]
        rfl
      refine pure_ (i := 11) (N := some 24) (v := ?_) (a' := ?_) #[true, true, true, true, true, true, true, true, true, true, true, true, false, false, false, false, false, false] rfl rfl (any_of HT_.out (by kernel_rfl)) (fun _ _ _ h => h) (Or.inl ⟨by rfl, ?_⟩) ?_ ?_
      rotate_left
      · intro w'
        go_simp
        with_reducible rfl
      rotate_left
      · simp only [Act.put, List.setIfInBounds_toArray, List.set_cons_zero, List.set_cons_succ, i64_w, i32_w]
        rfl
      refine pure_ (i := 12) (N := some 25) (v := ?_) (a' := ?_) #[true, true, true, true, true, true, true, true, true, true, true, true, true, false, false, false, false, false] rfl rfl (any_of HT_.out (by kernel_rfl)) (fun _ _ _ h => h) (Or.inl ⟨by rfl, ?_⟩) ?_ ?_
      rotate_left
      · intro w'
        go_simp
        with_reducible rfl
      rotate_left
      · simp only [Act.put, List.setIfInBounds_toArray, List.set_cons_zero, List.set_cons_succ, i64_w, i32_w]
        rfl
      refine pure_ (i := 13) (N := some 26) (v := ?_) (a' := ?_) #[true, true, true, true, true, true, true, true, true, true, true, true, true, true, false, false, false, false] rfl rfl (any_of HT_.out (by kernel_rfl)) (fun _ _ _ h => h) (Or.inl ⟨by rfl, ?_⟩) ?_ ?_
      rotate_left
      · intro w'
        go_simp
        with_reducible rfl
      rotate_left
      · simp only [Act.put, List.setIfInBounds_toArray, List.set_cons_zero, List.set_cons_succ, i64_w, i32_w]
        rfl
      refine one_ (i := 14) (N := some 7) #[true, true, true, true, true, true, true, true, true, true, true, true, true, true, true, false, false, false] rfl rfl (one_of HT_.out (by kernel_rfl)) (by decide) (fun K hK => ?_)
      refine box_step ?hg (N := 7) ?hd (cs := #[.int .i64 0]) (t := 26) ?hr ?_
      (case hd => rfl)
      (case hg => rfl)
      (case hr => first | (go_simp; done) | (go_simp; rfl))
      intro g3 hg w8 hbox hb
      have HBn := Aside0.mk (below_step HBd.out hb)
      have BRn := Aside0.mk (blk_below BRd.out hb)
      have B3d := Aside0.mk hbox
      have G3 := Aside0.mk (show w.heap.size ≤ g3 by rw [hg]; exact below_size HBd.out)
      clear HBd BRd hb hbox hg
      have HBd := HBn
      have BRd := BRn
      clear HBn BRn
      refine hK.out _ _ ⟨(blk_cell BRd.out 0).trans rfl, (blk_cell BRd.out 1).trans rfl⟩ (fun hHeld => ?_)
      clear hK K
      refine norm_ (a' := ?_) ?_ ?_
      rotate_left
      · show Act.put _ (some 7) _ = _
        simp only [Act.put, List.setIfInBounds_toArray, List.set_cons_zero, List.set_cons_succ, i64_w, i32_w]
        rfl
      exact norm_ (by simp only [putAll, Act.put, List.setIfInBounds_toArray, List.set_cons_zero, List.set_cons_succ]) (hCont g3 _ ⟨hHeld, B3d, BRd, HBd, G3⟩)
    · skip
      refine box_step ?hg (N := 7) ?hd (cs := #[.int .i64 0]) (t := 26) ?hr ?_
      (case hd => rfl)
      (case hg => rfl)
      (case hr => first | (go_simp; done) | (go_simp; rfl))
      intro g3 hg w8 hbox hb
      have HBn := Aside0.mk (below_step HBd.out hb)
      have BRn := Aside0.mk (blk_below BRd.out hb)
      have B3d := Aside0.mk hbox
      have G3 := Aside0.mk (show w.heap.size ≤ g3 by rw [hg]; exact below_size HBd.out)
      clear HBd BRd hb hbox hg
      have HBd := HBn
      have BRd := BRn
      clear HBn BRn
      refine hK.out _ _ ⟨(blk_cell BRd.out 0).trans rfl, (blk_cell BRd.out 1).trans rfl⟩ (fun hHeld => ?_)
      clear hK K
      refine norm_ (a' := ?_) ?_ ?_
      rotate_left
      · show Act.put _ (some 7) _ = _
        simp only [Act.put, List.setIfInBounds_toArray, List.set_cons_zero, List.set_cons_succ, i64_w, i32_w]
        rfl
      refine one_ (i := 9) (N := some 23) #[true, true, true, true, true, true, true, true, true, true, false, false, false, false, true, false, false, false] rfl rfl (one_of HT_.out (by kernel_rfl)) (by decide) (fun K hK => ?_)
      refine goes_ Try.func37 (by kernel_rfl) rfl #[.slice A l.length c, .int .i64 at_, .int .i64 sz] (by rfl) rfl rfl (by simp only [List.map_toArray, List.map_cons, List.map_nil]; rfl) ?_
      with_reducible refine (wire_Get.calls A c l at_ sz _ _ _ _ (Kd.C_below HR.out HBd.out) HC.out HG.out).mono ?_
      rintro e w7 ⟨rfl, hb7⟩
      refine ⟨_, rfl, ?_⟩
      have HBn := Aside0.mk (below_step HBd.out hb7)
      have BRn := Aside0.mk (blk_below BRd.out hb7)
      have B3n := Aside0.mk (blk_below B3d.out hb7)
      clear HBd BRd B3d hb7
      have HBd := HBn
      have BRd := BRn
      have B3d := B3n
      clear HBn BRn B3n
      refine hK.out _ _ ⟨(blk_cell BRd.out 0).trans rfl, (blk_cell BRd.out 1).trans rfl⟩ (fun hHeld => ?_)
      clear hK K
      refine norm_ (a' := ?_) ?_ ?_
      rotate_left
      · show Act.put _ (some 23) _ = _
        simp only [Act.put, List.setIfInBounds_toArray, List.set_cons_zero, List.set_cons_succ, i64_w, i32_w]
        rfl
      refine pure_ (i := 10) (N := some 13) (v := ?_) (a' := ?_) #[true, true, true, true, true, true, true, true, true, true, true, false, false, false, true, false, false, false] rfl rfl (any_of HT_.out (by kernel_rfl)) (fun _ _ _ h => h) (Or.inl ⟨by rfl, ?_⟩) ?_ ?_
      rotate_left
      · intro w'
        go_simp
        with_reducible rfl
      rotate_left
      · simp only [Act.put, List.setIfInBounds_toArray, List.set_cons_zero, List.set_cons_succ, i64_w, i32_w]
        rfl
      refine pure_ (i := 11) (N := some 24) (v := ?_) (a' := ?_) #[true, true, true, true, true, true, true, true, true, true, true, true, false, false, true, false, false, false] rfl rfl (any_of HT_.out (by kernel_rfl)) (fun _ _ _ h => h) (Or.inl ⟨by rfl, ?_⟩) ?_ ?_
      rotate_left
      · intro w'
        go_simp
        with_reducible rfl
      rotate_left
      · simp only [Act.put, List.setIfInBounds_toArray, List.set_cons_zero, List.set_cons_succ, i64_w, i32_w]
        rfl
      refine pure_ (i := 12) (N := some 25) (v := ?_) (a' := ?_) #[true, true, true, true, true, true, true, true, true, true, true, true, true, false, true, false, false, false] rfl rfl (any_of HT_.out (by kernel_rfl)) (fun _ _ _ h => h) (Or.inl ⟨by rfl, ?_⟩) ?_ ?_
      rotate_left
      · intro w'
        go_simp
        with_reducible rfl
      rotate_left
      · simp only [Act.put, List.setIfInBounds_toArray, List.set_cons_zero, List.set_cons_succ, i64_w, i32_w]
        rfl
      refine pure_ (i := 13) (N := some 26) (v := ?_) (a' := ?_) #[true, true, true, true, true, true, true, true, true, true, true, true, true, true, true, false, false, false] rfl rfl (any_of HT_.out (by kernel_rfl)) (fun _ _ _ h => h) (Or.inl ⟨by rfl, ?_⟩) ?_ ?_
      rotate_left
      · intro w'
        go_simp
        with_reducible rfl
      rotate_left
      · simp only [Act.put, List.setIfInBounds_toArray, List.set_cons_zero, List.set_cons_succ, i64_w, i32_w]
        rfl
      exact norm_ (by simp only [putAll, Act.put, List.setIfInBounds_toArray, List.set_cons_zero, List.set_cons_succ]) (hCont g3 _ ⟨hHeld, B3d, BRd, HBd, G3⟩)
  rintro g3 w8 ⟨hHeld, B3, BR, HB, G3⟩
  clear BRd HBd
  have u0 : w8.cell? ⟨g3, 0, none⟩ = some (.int .i64 0) := (blk_cell B3.out 0).trans rfl
  have uf0 := blk_frozen B3.out 0
  refine norm_ (a' := ?_) ?_ ?_
  rotate_left
  · simp only [putAll, Act.put, List.setIfInBounds_toArray, List.set_cons_zero, List.set_cons_succ]
    rfl
  refine pure_ (i := 15) (N := some 5) (v := ?_) (a' := ?_) #[true, true, true, true, true, true, true, true, true, true, true, true, true, true, true, true, false, false] rfl rfl (any_of HT_.out (by kernel_rfl)) (fun _ _ _ h => h) (Or.inl ⟨by rfl, ?_⟩) ?_ ?_
  rotate_left
  · intro w'
    go_simp
    with_reducible rfl
  rotate_left
  · simp only [Act.put, List.setIfInBounds_toArray, List.set_cons_zero, List.set_cons_succ, i64_w, i32_w]
    rfl
  refine pure_ (i := 16) (N := some 6) (v := ?_) (a' := ?_) #[true, true, true, true, true, true, true, true, true, true, true, true, true, true, true, true, true, false] rfl rfl (any_of HT_.out (by kernel_rfl)) (fun _ _ _ h => h) (Or.inl ⟨by rfl, ?_⟩) ?_ ?_
  rotate_left
  · intro w'
    go_simp
    with_reducible rfl
  rotate_left
  · simp only [Act.put, List.setIfInBounds_toArray, List.set_cons_zero, List.set_cons_succ, i64_w, i32_w]
    rfl
  refine last_ (i := 17) (N := none) #[true, true, true, true, true, true, true, true, true, true, true, true, true, true, true, true, true, true] rfl rfl (one_of HT_.out (by kernel_rfl)) (by decide) (fun K hK => ?_)
  refine skip_ (w1 := ?_) (by rfl) rfl ?_ ?_
  rotate_left
  · go_simp
    rfl
  refine hK.out _ _ ?_
  clear hK K
  refine done_ (done_of HT_.out (by kernel_rfl)) ?_
  clear HT_ HW_ hHeld u0 uf0
  have nr3 : g ≠ g3 := Nat.ne_of_lt (Nat.lt_of_lt_of_le (blk_lt HBB.out) G3.out)
  have C3 := Aside0.mk (show (w8.setCell ⟨g3, 0, none⟩ (.int .i64 0)).heap[g3]? = some (.cells #[.int .i64 0] 26 (0, 0)) from blk_put B3.out 0 _ rfl)
  have CR := Aside0.mk (show (w8.setCell ⟨g3, 0, none⟩ (.int .i64 0)).heap[g]? = some (.cells (RdB A l.length c at_ none) 56 (0, 0)) from blk_far (p := ⟨g3, 0, none⟩) BR.out nr3 _)
  have CB := Aside0.mk (show Below w.heap.size w (w8.setCell ⟨g3, 0, none⟩ (.int .i64 0)) from below_set HB.out G3.out)
  clear B3 BR HB
  generalize (w8.setCell ⟨g3, 0, none⟩ (.int .i64 0)) = w9 at C3 CR CB ⊢
  have y0 : w9.cell? ⟨g3, 0, none⟩ = some (.int .i64 0) := (blk_cell C3.out 0).trans rfl
  have k1 : w9.cell? ⟨g, 1, none⟩ = some (.int .i64 at_) := (blk_cell CR.out 1).trans rfl
  have kf := blk_frozen CR.out 1
  have n3 : g3 ≠ g := nr3.symm
  go_wp2
  go_ret
  exact ⟨rfl, blk_put CR.out 1 _ rfl, bgrown_below CB.out (bgrown_set CR.out _ _)⟩
def bn_x.T3 : Bool × List (List Nat × List Nat) := (true, [([], []), ([0], [0]), ([1], [1]), ([2], [2]), ([], []), ([4], [4]), ([5], [5]), ([6], [6]), ([], []), ([3, 7, 8], [3, 7, 8]), ([9], [9]), ([10], [10]), ([10], [10]), ([10], [10]), ([], []), ([11, 9, 0, 1, 2, 3, 4, 5, 6, 7, 8, 9, 10, 11, 14], [11]), ([12, 15, 0, 1, 2, 3, 4, 5, 6, 7, 8, 9, 10, 11, 12, 14, 15], [12]), ([14, 13, 16, 0, 1, 2, 3, 4, 5, 6, 7, 8, 9, 10, 11, 12, 13, 14, 15, 16], [13, 14])])
def bn_x.B3 : List Nat := [0, 1, 3, 7, 0, 16, 48, 112, 0, 511, 1023, 2047, 2047, 2047, 0, 20479, 57343, 131071]
theorem bn_x.tab3 : rtab .any (opsOf Try.f24 3) = bn_x.T3 := by kernel_rfl
theorem bn_x.bits3 : waitsOk bn_x.T3.2 bn_x.B3 = true := by kernel_rfl
set_option maxHeartbeats 8000000 in
set_option maxRecDepth 100000 in
theorem bn_x (g : Nat) (A : Option Addr) (c : Nat) (l : List Int) (at_ sz s1 s2 s3 : Int) (w : World) (hG : getSpec l at_ sz = (s1, s2, s3)) (hs : ¬ s3 = 0) (hB : Bytes l) (hl : l.length ≤ 1000000000000) (hr : Kd.C (Kd.int .u8) w A l.length l) (hc : l.length ≤ c) (hb : w.heap[g]? = some (.cells (RdB A l.length c at_ none) 56 (0, 0))) :
    Calls Try.prog 24 #[.pointer (some ⟨g, 0, none⟩), .int .i64 sz] w fun x w' => x = .returned (.int .i64 0) ∧ ∃ gb, w'.heap[g]? = some (.cells (RdB A l.length c at_ (some ⟨gb, 0, none⟩)) 56 (0, 0)) ∧ w'.heap[gb]? = some (.cells #[.int .i64 s3] 26 (0, 0)) ∧ w.heap.size ≤ gb ∧ w.grownBy w' (some g) := by
  have h2 : w.cell? ⟨g, 2, none⟩ = some (.pointer none) := (blk_cell hb 2).trans rfl
  have HBB := Aside0.mk hb
  have HG := Aside0.mk (show wire_Get.f l at_ sz = some (s1, s2, s3) by rw [wire_Get_eq _ _ _ hB hl, hG])
  have HR := Aside0.mk hr
  have HC := Aside0.mk hc
  have b1 : (s3 != 0) = true := bne_iff_ne.mpr hs
  clear hs
  clear hG hb hr hc hB hl
  go_enter Try.func24, Try.ntmps24
  go_upto_region 3 with (go_at_call 25; (with_reducible refine (bp_load0 g _ h2).mono ?_); rintro _ _ ⟨rfl, rfl⟩)
  clear h2
  have HBd := Aside0.mk (below_drew (Below.refl w.heap.size w))
  have BRd := Aside0.mk (show w.drew.heap[g]? = _ from HBB.out)
  refine start_ (n := 18) (S := fun w' => w'.cell? ⟨g, 0, none⟩ = some (.slice A l.length c) ∧ w'.cell? ⟨g, 1, none⟩ = some (.int .i64 at_)) (ds := [17]) #[false, false, false, false, false, false, false, false, false, false, false, false, false, false, false, false, false, false] (by kernel_rfl) rfl rfl ⟨(blk_cell BRd.out 0).trans rfl, (blk_cell BRd.out 1).trans rfl⟩ (fun hHeld => ?_); refine with_tabW bn_x.tab3 bn_x.bits3 (fun HT_ HW_ => ?_)
  refine pure_ (i := 0) (N := some 14) (v := ?_) (a' := ?_) #[true, false, false, false, false, false, false, false, false, false, false, false, false, false, false, false, false, false] rfl rfl (any_of HT_.out (by kernel_rfl)) (fun _ _ _ h => h) (Or.inl ⟨by rfl, ?_⟩) ?_ ?_
  rotate_left
  · intro w'
    go_simp
    with_reducible rfl
  rotate_left
  · simp only [Act.put, List.setIfInBounds_toArray, List.set_cons_zero, List.set_cons_succ, i64_w, i32_w]
    rfl
  refine pure_ (i := 1) (N := some 15) (v := ?_) (a' := ?_) #[true, true, false, false, false, false, false, false, false, false, false, false, false, false, false, false, false, false] rfl rfl (any_of HT_.out (by kernel_rfl)) (fun _ _ _ h => h) (Or.inl ⟨by rfl, ?_⟩) ?_ ?_
  rotate_left
  · intro w'
    go_simp
    with_reducible rfl
  rotate_left
  · simp only [Act.put, List.setIfInBounds_toArray, List.set_cons_zero, List.set_cons_succ, i64_w, i32_w]
    rfl
  refine pure_ (i := 2) (N := some 16) (v := ?_) (a' := ?_) #[true, true, true, false, false, false, false, false, false, false, false, false, false, false, false, false, false, false] rfl rfl (any_of HT_.out (by kernel_rfl)) (fun _ _ _ h => h) (Or.inl ⟨by rfl, ?_⟩) ?_ ?_
  rotate_left
  · intro w'
    go_simp
    with_reducible rfl
  rotate_left
  · simp only [Act.put, List.setIfInBounds_toArray, List.set_cons_zero, List.set_cons_succ, i64_w, i32_w]
    rfl
  refine pure_ (i := 4) (N := some 18) (v := ?_) (a' := ?_) #[true, true, true, false, true, false, false, false, false, false, false, false, false, false, false, false, false, false] rfl rfl (any_of HT_.out (by kernel_rfl)) (fun _ _ _ h => h) (Or.inl ⟨by rfl, ?_⟩) ?_ ?_
  rotate_left
  · intro w'
    go_simp
    with_reducible rfl
  rotate_left
  · simp only [Act.put, List.setIfInBounds_toArray, List.set_cons_zero, List.set_cons_succ, i64_w, i32_w]
    rfl
  refine pure_ (i := 5) (N := some 19) (v := ?_) (a' := ?_) #[true, true, true, false, true, true, false, false, false, false, false, false, false, false, false, false, false, false] rfl rfl (any_of HT_.out (by kernel_rfl)) (fun _ _ _ h => h) (Or.inl ⟨by rfl, ?_⟩) ?_ ?_
  rotate_left
  · intro w'
    go_simp
    with_reducible rfl
  rotate_left
  · simp only [Act.put, List.setIfInBounds_toArray, List.set_cons_zero, List.set_cons_succ, i64_w, i32_w]
    rfl
  refine pure_ (i := 6) (N := some 20) (v := ?_) (a' := ?_) #[true, true, true, false, true, true, true, false, false, false, false, false, false, false, false, false, false, false] rfl rfl (any_of HT_.out (by kernel_rfl)) (fun _ _ _ h => h) (Or.inl ⟨by rfl, ?_⟩) ?_ ?_
  rotate_left
  · intro w'
    go_simp
    with_reducible rfl
  rotate_left
  · simp only [Act.put, List.setIfInBounds_toArray, List.set_cons_zero, List.set_cons_succ, i64_w, i32_w]
    rfl
  refine pure_ (i := 8) (N := some 22) (v := ?_) (a' := ?_) #[true, true, true, false, true, true, true, false, true, false, false, false, false, false, false, false, false, false] rfl rfl (any_of HT_.out (by kernel_rfl)) (fun _ _ _ h => h) (Or.inl ⟨by rfl, ?_⟩) ?_ ?_
  rotate_left
  · intro w'
    go_simp
    with_reducible rfl
  rotate_left
  · simp only [Act.put, List.setIfInBounds_toArray, List.set_cons_zero, List.set_cons_succ, i64_w, i32_w]
    rfl
  refine take_ (i := 3) (N := some 17) (v := ?_) (a' := ?_) #[true, true, true, true, true, true, true, false, true, false, false, false, false, false, false, false, false, false] rfl rfl (take_ofW HT_.out HW_.out (by kernel_rfl)) (fun _ _ _ h => h) (Or.inl ⟨by rfl, ?_⟩) hHeld ?_ ?_
  rotate_left
  · rintro w' ⟨s0, s1⟩
    go_simp
    with_reducible rfl
  rotate_left
  · simp only [Act.put, List.setIfInBounds_toArray, List.set_cons_zero, List.set_cons_succ, i64_w, i32_w]
    rfl
  refine take_ (i := 7) (N := some 21) (v := ?_) (a' := ?_) #[true, true, true, true, true, true, true, true, true, false, false, false, false, false, false, false, false, false] rfl rfl (take_ofW HT_.out HW_.out (by kernel_rfl)) (fun _ _ _ h => h) (Or.inl ⟨by rfl, ?_⟩) hHeld ?_ ?_
  rotate_left
  · rintro w' ⟨s0, s1⟩
    go_simp
    with_reducible rfl
  rotate_left
  · simp only [Act.put, List.setIfInBounds_toArray, List.set_cons_zero, List.set_cons_succ, i64_w, i32_w]
    rfl
  refine join_ (σ := Nat) 3 #[true, true, true, true, true, true, true, true, true, true, true, true, true, true, true, false, false, false] (fun s_ => [(23, .tuple #[.int .i64 s1, .int .i64 s2, .int .i64 s3]), (13, .tuple #[.int .i64 s1, .int .i64 s2, .int .i64 s3]), (24, .int .i64 s1), (25, .int .i64 s2), (26, .int .i64 s3), (7, .pointer (some ⟨s_, 0, none⟩))]) (fun s_ w' => (w'.cell? ⟨g, 0, none⟩ = some (.slice A l.length c) ∧ w'.cell? ⟨g, 1, none⟩ = some (.int .i64 at_)) ∧ Aside0 (w'.heap[s_]? = some (.cells #[.int .i64 0] 26 (0, 0))) ∧ Aside0 (w'.heap[g]? = some (.cells (RdB A l.length c at_ none) 56 (0, 0))) ∧ Aside0 (Below w.heap.size w w') ∧ Aside0 (w.heap.size ≤ s_)) ?_ ?_
  rotate_left
  · intro hCont
    refine two_ (i := 9) (j := 14) (Ni := some 23) (Nj := some 7) #[true, true, true, true, true, true, true, true, true, true, false, false, false, false, false, false, false, false] #[true, true, true, true, true, true, true, true, true, false, false, false, false, false, true, false, false, false] rfl rfl rfl rfl (two_of HT_.out (by kernel_rfl)) (by decide) (by decide) (fun K hK => ?_) (fun K hK => ?_)
    · skip
      refine goes_ Try.func37 (by kernel_rfl) rfl #[.slice A l.length c, .int .i64 at_, .int .i64 sz] (by rfl) rfl rfl (by simp only [List.map_toArray, List.map_cons, List.map_nil]; rfl) ?_
      with_reducible refine (wire_Get.calls A c l at_ sz _ _ _ _ (Kd.C_below HR.out HBd.out) HC.out HG.out).mono ?_
      rintro e w7 ⟨rfl, hb7⟩
      refine ⟨_, rfl, ?_⟩
      have HBn := Aside0.mk (below_step HBd.out hb7)
      have BRn := Aside0.mk (blk_below BRd.out hb7)
      clear HBd BRd hb7
      have HBd := HBn
      have BRd := BRn
      clear HBn BRn
      refine hK.out _ _ ⟨(blk_cell BRd.out 0).trans rfl, (blk_cell BRd.out 1).trans rfl⟩ (fun hHeld => ?_)
      clear hK K
      refine norm_ (a' := ?_) ?_ ?_
      rotate_left
      · show Act.put _ (some 23) _ = _
        simp only [Act.put, List.setIfInBounds_toArray, List.set_cons_zero, List.set_cons_succ, i64_w, i32_w]
        rfl
      refine pure_ (i := 10) (N := some 13) (v := ?_) (a' := ?_) #[true, true, true, true, true, true, true, true, true, true, true, false, false, false, false, false, false, false] rfl rfl (any_of HT_.out (by kernel_rfl)) (fun _ _ _ h => h) (Or.inl ⟨by rfl, ?_⟩) ?_ ?_
      rotate_left
      · intro w'
        go_simp
        with_reducible rfl
      rotate_left
      · simp only [Act.put, List.setIfInBounds_toArray, List.set_cons_zero, List.set_cons_succ, i64_w, i32_w]
        rfl
      refine pure_ (i := 11) (N := some 24) (v := ?_) (a' := ?_) #[true, true, true, true, true, true, true, true, true, true, true, true, false, false, false, false, false, false] rfl rfl (any_of HT_.out (by kernel_rfl)) (fun _ _ _ h => h) (Or.inl ⟨by rfl, ?_⟩) ?_ ?_
      rotate_left
      · intro w'
        go_simp
        with_reducible rfl
      rotate_left
      · simp only [Act.put, List.setIfInBounds_toArray, List.set_cons_zero, List.set_cons_succ, i64_w, i32_w]
        rfl
      refine pure_ (i := 12) (N := some 25) (v := ?_) (a' := ?_) #[true, true, true, true, true, true, true, true, true, true, true, true, true, false, false, false, false, false] rfl rfl (any_of HT_.out (by kernel_rfl)) (fun _ _ _ h => h) (Or.inl ⟨by rfl, ?_⟩) ?_ ?_
      rotate_left
      · intro w'
        go_simp
        with_reducible rfl
      rotate_left
      · simp only [Act.put, List.setIfInBounds_toArray, List.set_cons_zero, List.set_cons_succ, i64_w, i32_w]
        rfl
      refine pure_ (i := 13) (N := some 26) (v := ?_) (a' := ?_) #[true, true, true, true, true, true, true, true, true, true, true, true, true, true, false, false, false, false] rfl rfl (any_of HT_.out (by kernel_rfl)) (fun _ _ _ h => h) (Or.inl ⟨by rfl, ?_⟩) ?_ ?_
      rotate_left
      · intro w'
        go_simp
        with_reducible rfl
      rotate_left
      · simp only [Act.put, List.setIfInBounds_toArray, List.set_cons_zero, List.set_cons_succ, i64_w, i32_w]
        rfl
      refine one_ (i := 14) (N := some 7) #[true, true, true, true, true, true, true, true, true, true, true, true, true, true, true, false, false, false] rfl rfl (one_of HT_.out (by kernel_rfl)) (by decide) (fun K hK => ?_)
      refine box_step ?hg (N := 7) ?hd (cs := #[.int .i64 0]) (t := 26) ?hr ?_
      (case hd => rfl)
      (case hg => rfl)
      (case hr => first | (go_simp; done) | (go_simp; rfl))
      intro g3 hg w8 hbox hb
      have HBn := Aside0.mk (below_step HBd.out hb)
      have BRn := Aside0.mk (blk_below BRd.out hb)
      have B3d := Aside0.mk hbox
      have G3 := Aside0.mk (show w.heap.size ≤ g3 by rw [hg]; exact below_size HBd.out)
      clear HBd BRd hb hbox hg
      have HBd := HBn
      have BRd := BRn
      clear HBn BRn
      refine hK.out _ _ ⟨(blk_cell BRd.out 0).trans rfl, (blk_cell BRd.out 1).trans rfl⟩ (fun hHeld => ?_)
      clear hK K
      refine norm_ (a' := ?_) ?_ ?_
      rotate_left
      · show Act.put _ (some 7) _ = _
        simp only [Act.put, List.setIfInBounds_toArray, List.set_cons_zero, List.set_cons_succ, i64_w, i32_w]
        rfl
      exact norm_ (by simp only [putAll, Act.put, List.setIfInBounds_toArray, List.set_cons_zero, List.set_cons_succ]) (hCont g3 _ ⟨hHeld, B3d, BRd, HBd, G3⟩)
    · skip
      refine box_step ?hg (N := 7) ?hd (cs := #[.int .i64 0]) (t := 26) ?hr ?_
      (case hd => rfl)
      (case hg => rfl)
      (case hr => first | (go_simp; done) | (go_simp; rfl))
      intro g3 hg w8 hbox hb
      have HBn := Aside0.mk (below_step HBd.out hb)
      have BRn := Aside0.mk (blk_below BRd.out hb)
      have B3d := Aside0.mk hbox
      have G3 := Aside0.mk (show w.heap.size ≤ g3 by rw [hg]; exact below_size HBd.out)
      clear HBd BRd hb hbox hg
      have HBd := HBn
      have BRd := BRn
      clear HBn BRn
      refine hK.out _ _ ⟨(blk_cell BRd.out 0).trans rfl, (blk_cell BRd.out 1).trans rfl⟩ (fun hHeld => ?_)
      clear hK K
      refine norm_ (a' := ?_) ?_ ?_
      rotate_left
      · show Act.put _ (some 7) _ = _
        simp only [Act.put, List.setIfInBounds_toArray, List.set_cons_zero, List.set_cons_succ, i64_w, i32_w]
        rfl
      refine one_ (i := 9) (N := some 23) #[true, true, true, true, true, true, true, true, true, true, false, false, false, false, true, false, false, false] rfl rfl (one_of HT_.out (by kernel_rfl)) (by decide) (fun K hK => ?_)
      refine goes_ Try.func37 (by kernel_rfl) rfl #[.slice A l.length c, .int .i64 at_, .int .i64 sz] (by rfl) rfl rfl (by simp only [List.map_toArray, List.map_cons, List.map_nil]; rfl) ?_
      with_reducible refine (wire_Get.calls A c l at_ sz _ _ _ _ (Kd.C_below HR.out HBd.out) HC.out HG.out).mono ?_
      rintro e w7 ⟨rfl, hb7⟩
      refine ⟨_, rfl, ?_⟩
      have HBn := Aside0.mk (below_step HBd.out hb7)
      have BRn := Aside0.mk (blk_below BRd.out hb7)
      have B3n := Aside0.mk (blk_below B3d.out hb7)
      clear HBd BRd B3d hb7
      have HBd := HBn
      have BRd := BRn
      have B3d := B3n
      clear HBn BRn B3n
      refine hK.out _ _ ⟨(blk_cell BRd.out 0).trans rfl, (blk_cell BRd.out 1).trans rfl⟩ (fun hHeld => ?_)
      clear hK K
      refine norm_ (a' := ?_) ?_ ?_
      rotate_left
      · show Act.put _ (some 23) _ = _
        simp only [Act.put, List.setIfInBounds_toArray, List.set_cons_zero, List.set_cons_succ, i64_w, i32_w]
        rfl
      refine pure_ (i := 10) (N := some 13) (v := ?_) (a' := ?_) #[true, true, true, true, true, true, true, true, true, true, true, false, false, false, true, false, false, false] rfl rfl (any_of HT_.out (by kernel_rfl)) (fun _ _ _ h => h) (Or.inl ⟨by rfl, ?_⟩) ?_ ?_
      rotate_left
      · intro w'
        go_simp
        with_reducible rfl
      rotate_left
      · simp only [Act.put, List.setIfInBounds_toArray, List.set_cons_zero, List.set_cons_succ, i64_w, i32_w]
        rfl
      refine pure_ (i := 11) (N := some 24) (v := ?_) (a' := ?_) #[true, true, true, true, true, true, true, true, true, true, true, true, false, false, true, false, false, false] rfl rfl (any_of HT_.out (by kernel_rfl)) (fun _ _ _ h => h) (Or.inl ⟨by rfl, ?_⟩) ?_ ?_
      rotate_left
      · intro w'
        go_simp
        with_reducible rfl
      rotate_left
      · simp only [Act.put, List.setIfInBounds_toArray, List.set_cons_zero, List.set_cons_succ, i64_w, i32_w]
        rfl
      refine pure_ (i := 12) (N := some 25) (v := ?_) (a' := ?_) #[true, true, true, true, true, true, true, true, true, true, true, true, true, false, true, false, false, false] rfl rfl (any_of HT_.out (by kernel_rfl)) (fun _ _ _ h => h) (Or.inl ⟨by rfl, ?_⟩) ?_ ?_
      rotate_left
      · intro w'
        go_simp
        with_reducible rfl
      rotate_left
      · simp only [Act.put, List.setIfInBounds_toArray, List.set_cons_zero, List.set_cons_succ, i64_w, i32_w]
        rfl
      refine pure_ (i := 13) (N := some 26) (v := ?_) (a' := ?_) #[true, true, true, true, true, true, true, true, true, true, true, true, true, true, true, false, false, false] rfl rfl (any_of HT_.out (by kernel_rfl)) (fun _ _ _ h => h) (Or.inl ⟨by rfl, ?_⟩) ?_ ?_
      rotate_left
      · intro w'
        go_simp
        with_reducible rfl
      rotate_left
      · simp only [Act.put, List.setIfInBounds_toArray, List.set_cons_zero, List.set_cons_succ, i64_w, i32_w]
        rfl
      exact norm_ (by simp only [putAll, Act.put, List.setIfInBounds_toArray, List.set_cons_zero, List.set_cons_succ]) (hCont g3 _ ⟨hHeld, B3d, BRd, HBd, G3⟩)
  rintro g3 w8 ⟨hHeld, B3, BR, HB, G3⟩
  clear BRd HBd
  have u0 : w8.cell? ⟨g3, 0, none⟩ = some (.int .i64 0) := (blk_cell B3.out 0).trans rfl
  have uf0 := blk_frozen B3.out 0
  refine norm_ (a' := ?_) ?_ ?_
  rotate_left
  · simp only [putAll, Act.put, List.setIfInBounds_toArray, List.set_cons_zero, List.set_cons_succ]
    rfl
  refine pure_ (i := 15) (N := some 5) (v := ?_) (a' := ?_) #[true, true, true, true, true, true, true, true, true, true, true, true, true, true, true, true, false, false] rfl rfl (any_of HT_.out (by kernel_rfl)) (fun _ _ _ h => h) (Or.inl ⟨by rfl, ?_⟩) ?_ ?_
  rotate_left
  · intro w'
    go_simp
    with_reducible rfl
  rotate_left
  · simp only [Act.put, List.setIfInBounds_toArray, List.set_cons_zero, List.set_cons_succ, i64_w, i32_w]
    rfl
  refine pure_ (i := 16) (N := some 6) (v := ?_) (a' := ?_) #[true, true, true, true, true, true, true, true, true, true, true, true, true, true, true, true, true, false] rfl rfl (any_of HT_.out (by kernel_rfl)) (fun _ _ _ h => h) (Or.inl ⟨by rfl, ?_⟩) ?_ ?_
  rotate_left
  · intro w'
    go_simp
    with_reducible rfl
  rotate_left
  · simp only [Act.put, List.setIfInBounds_toArray, List.set_cons_zero, List.set_cons_succ, i64_w, i32_w]
    rfl
  refine last_ (i := 17) (N := none) #[true, true, true, true, true, true, true, true, true, true, true, true, true, true, true, true, true, true] rfl rfl (one_of HT_.out (by kernel_rfl)) (by decide) (fun K hK => ?_)
  refine skip_ (w1 := ?_) (by rfl) rfl ?_ ?_
  rotate_left
  · go_simp
    rfl
  refine hK.out _ _ ?_
  clear hK K
  refine done_ (done_of HT_.out (by kernel_rfl)) ?_
  clear HT_ HW_ hHeld u0 uf0
  have nr3 : g ≠ g3 := Nat.ne_of_lt (Nat.lt_of_lt_of_le (blk_lt HBB.out) G3.out)
  have C3 := Aside0.mk (show (w8.setCell ⟨g3, 0, none⟩ (.int .i64 s3)).heap[g3]? = some (.cells #[.int .i64 s3] 26 (0, 0)) from blk_put B3.out 0 _ rfl)
  have CR := Aside0.mk (show (w8.setCell ⟨g3, 0, none⟩ (.int .i64 s3)).heap[g]? = some (.cells (RdB A l.length c at_ none) 56 (0, 0)) from blk_far (p := ⟨g3, 0, none⟩) BR.out nr3 _)
  have CB := Aside0.mk (show Below w.heap.size w (w8.setCell ⟨g3, 0, none⟩ (.int .i64 s3)) from below_set HB.out G3.out)
  clear B3 BR HB
  generalize (w8.setCell ⟨g3, 0, none⟩ (.int .i64 s3)) = w9 at C3 CR CB ⊢
  have y0 : w9.cell? ⟨g3, 0, none⟩ = some (.int .i64 s3) := (blk_cell C3.out 0).trans rfl
  have k1 : w9.cell? ⟨g, 2, none⟩ = some (.pointer none) := (blk_cell CR.out 2).trans rfl
  have kf := blk_frozen CR.out 2
  have n3 : g3 ≠ g := nr3.symm
  go_wp2_with (go_at_call 38; (with_reducible refine (bp_cas g g3 _ _ k1 kf y0).mono ?_); rintro _ _ ⟨rfl, rfl⟩)
  go_ret
  exact ⟨rfl, g3, blk_put CR.out 2 _ rfl, blk_far (p := ⟨g, 2, none⟩) C3.out n3 _, G3.out, bgrown_below CB.out (bgrown_set CR.out _ _)⟩
end Go.Proofs.Ytaiklcpmlkpfjaa.P
namespace Go.Proofs.Ytaiklcpmlkpfjaa.P
open Go.RowKit Go.Proofs.YtaiklcpmlkpfjaaW.PrintWords Go.Proofs.YtaiklcpmlkpfjaaW.PrintLast Go.Proofs.YtaiklcpmlkpfjaaW.PrintMore
open Classical
def rbN (l : List Int) (n at_ e : Int) : Int × Int × Int := if e = 0 then (if (getSpec l at_ n).2.2 = 0 then ((getSpec l at_ n).1, (getSpec l at_ n).2.1, 0) else (0, at_, (getSpec l at_ n).2.2)) else (0, at_, e)
def PE (w : World) (p : Option Addr) (e : Int) : Prop := (p = none ∧ e = 0) ∨ ∃ gb, p = some ⟨gb, 0, none⟩ ∧ ¬ e = 0 ∧ w.heap[gb]? = some (.cells #[.int .i64 e] 26 (0, 0))
theorem PE.nil (w : World) : PE w none 0 := Or.inl ⟨rfl, rfl⟩
theorem bn_number (g : Nat) (A : Option Addr) (c : Nat) (l : List Int) (at_ e sz v at2 e2 : Int) (p : Option Addr) (w : World) (hN : rbN l sz at_ e = (v, at2, e2)) (hB : Bytes l) (hl : l.length ≤ 1000000000000) (hr : Kd.C (Kd.int .u8) w A l.length l) (hc : l.length ≤ c)
    (hb : w.heap[g]? = some (.cells (RdB A l.length c at_ p) 56 (0, 0))) (hp : PE w p e) :
    Calls Try.prog 24 #[.pointer (some ⟨g, 0, none⟩), .int .i64 sz] w fun x w' => x = .returned (.int .i64 v) ∧ ∃ p2, w'.heap[g]? = some (.cells (RdB A l.length c at2 p2) 56 (0, 0)) ∧ PE w' p2 e2 ∧ w.grownBy w' (some g) := by
  unfold rbN at hN
  rcases hp with ⟨rfl, he⟩ | ⟨gb, rfl, he, hgb⟩
  · rw [if_pos he] at hN
    obtain ⟨s1, s2, s3, hG⟩ : ∃ s1 s2 s3, getSpec l at_ sz = (s1, s2, s3) := ⟨_, _, _, rfl⟩
    rw [hG] at hN
    by_cases hs : s3 = 0
    · rw [if_pos hs] at hN
      simp only [Prod.mk.injEq] at hN
      obtain ⟨rfl, rfl, rfl⟩ := hN
      refine (bn_ok g A c l at_ sz s1 s2 s3 w hG hs hB hl hr hc hb).mono ?_
      rintro x w' ⟨rfl, h1, h2⟩
      exact ⟨rfl, none, h1, .inl ⟨rfl, rfl⟩, h2⟩
    · rw [if_neg hs] at hN
      simp only [Prod.mk.injEq] at hN
      obtain ⟨rfl, rfl, rfl⟩ := hN
      refine (bn_x g A c l at_ sz s1 s2 s3 w hG hs hB hl hr hc hb).mono ?_
      rintro x w' ⟨rfl, gb, h1, h3, _, h2⟩
      exact ⟨rfl, _, h1, .inr ⟨gb, rfl, hs, h3⟩, h2⟩
  · rw [if_neg he] at hN
    simp only [Prod.mk.injEq] at hN
    obtain ⟨rfl, rfl, rfl⟩ := hN
    refine (bn_E g gb A l.length c at_ e sz w hb hgb).mono ?_
    rintro x w' ⟨rfl, rfl⟩
    exact ⟨rfl, _, hb, .inr ⟨gb, rfl, he, hgb⟩, rfl, rfl, rfl, Nat.le_refl _, fun _ _ _ => rfl⟩
def blL (l : List Int) : Nat → List S59 → Int → Int → List S59 × Int × Int
  | 0, Y, at_, e => (Y, at_, e)
  | m + 1, Y, at_, e => blL l m (Y ++ [⟨(rbN l 1 at_ e).1, (rbN l 4 (rbN l 1 at_ e).2.1 (rbN l 1 at_ e).2.2).1⟩]) (rbN l 4 (rbN l 1 at_ e).2.1 (rbN l 1 at_ e).2.2).2.1 (rbN l 4 (rbN l 1 at_ e).2.1 (rbN l 1 at_ e).2.2).2.2
def bnFin (n : Int) (Y : List S59) (at_ e : Int) : Int × List S59 × Int × Int := if e = 0 then (if RBn n Y then (n, Y, at_, 0) else (0, [], 0, 4)) else (0, [], 0, e)
def bnRest (l : List Int) (n m p2 e2 : Int) : Int × List S59 × Int × Int := bnFin n (blL l m.toNat [] p2 e2).1 (blL l m.toNat [] p2 e2).2.1 (blL l m.toNat [] p2 e2).2.2
def bnGo (l : List Int) (a : Int) : Int × List S59 × Int × Int := bnRest l (rbN l 4 a 0).1 (rbN l 1 (rbN l 4 a 0).2.1 (rbN l 4 a 0).2.2).1 (rbN l 1 (rbN l 4 a 0).2.1 (rbN l 4 a 0).2.2).2.1 (rbN l 1 (rbN l 4 a 0).2.1 (rbN l 4 a 0).2.2).2.2
instance (l : List Int) : Decidable (Bytes l) := by unfold Bytes; exact List.decidableBAll _ _
def beacon_Parse.f (l : List Int) (a : Int) : Option (Int × List S59 × Int × Int) := if l.length ≤ 1000000000000 ∧ Bytes l then some (bnGo l a) else none
theorem rbN_one {l : List Int} (hB : Bytes l) {a e v p f : Int} (h : rbN l 1 a e = (v, p, f)) : 0 ≤ v ∧ v ≤ 255 := by
  unfold rbN at h
  split at h
  · split at h
    · rename_i h0
      have hw := get_was l hB a 1 (by omega) (by omega) h0
      simp only [Prod.mk.injEq] at h
      obtain ⟨rfl, _, _⟩ := h
      rw [show ((1 : Nat) : Int) = 1 from rfl, show (256 : Int) ^ 1 = 256 by decide] at hw
      omega
    · simp only [Prod.mk.injEq] at h; omega
  · simp only [Prod.mk.injEq] at h; omega
theorem PE.below {w w' : World} {p : Option Addr} {e : Int} (h : PE w p e) (hb : Below w.heap.size w w') : PE w' p e := by
  rcases h with h | ⟨gb, h1, h2, h3⟩
  · exact .inl h
  · exact .inr ⟨gb, h1, h2, blk_below h3 hb⟩
theorem PE.grown {w w' : World} {p : Option Addr} {e : Int} {b : Option Nat} (h : PE w p e) (hg : w.grownBy w' b) (hb : ∀ gb o, w.heap[gb]? = some (.cells o 26 (0, 0)) → some gb ≠ b) : PE w' p e := by
  rcases h with h | ⟨gb, h1, h2, h3⟩
  · exact .inl h
  · exact .inr ⟨gb, h1, h2, blk_grown h3 hg (hb gb _ h3)⟩
theorem PE.set {w : World} {p : Option Addr} {e : Int} {g i : Nat} {u : Value} (h : PE w p e) (hb : ∀ gb o, w.heap[gb]? = some (.cells o 26 (0, 0)) → gb ≠ g) : PE (w.setCell ⟨g, i, none⟩ u) p e := by
  rcases h with h | ⟨gb, h1, h2, h3⟩
  · exact .inl h
  · exact .inr ⟨gb, h1, h2, blk_far (p := ⟨g, i, none⟩) h3 (hb gb _ h3) _⟩
structure BnSt (w0 w : World) (A : Option Addr) (n c g4 g7 g8 : Nat) (at_ e N : Int) (u : Value) (Y : List S59) : Prop where
  bl : Below w0.heap.size w0 w
  b4 : w.heap[g4]? = some (.cells #[.int .i64 0, .slice none 0 0] 25 (0, 0))
  br : ∃ p, w.heap[g7]? = some (.cells (RdB A n c at_ p) 56 (0, 0)) ∧ PE w p e
  b8 : w.heap[g8]? = some (.cells #[.int .i64 N, u] 25 (0, 0))
  row : Kd.R k59 59 w w0.heap.size (fun _ => True) u Y
  n4 : w0.heap.size ≤ g4
  n7 : w0.heap.size ≤ g7
  n8 : w0.heap.size ≤ g8
  d48 : g4 ≠ g8
theorem BnSt.below {w0 w : World} {A : Option Addr} {n c g4 g7 g8 : Nat} {at_ e N : Int} {u : Value} {Y : List S59} {w' : World} (h : BnSt w0 w A n c g4 g7 g8 at_ e N u Y) (hb : Below w.heap.size w w') : BnSt w0 w' A n c g4 g7 g8 at_ e N u Y := by
  obtain ⟨p, h1, h2⟩ := h.br
  exact ⟨below_step h.bl hb, blk_below h.b4 hb, ⟨p, blk_below h1 hb, h2.below hb⟩, blk_below h.b8 hb, Kd.R_below h.row hb, h.n4, h.n7, h.n8, h.d48⟩
theorem BnSt.drew {w0 w : World} {A : Option Addr} {n c g4 g7 g8 : Nat} {at_ e N : Int} {u : Value} {Y : List S59} (h : BnSt w0 w A n c g4 g7 g8 at_ e N u Y) : BnSt w0 w.drew A n c g4 g7 g8 at_ e N u Y := h.below (below_drew (Below.refl _ _))
theorem BnSt.call {w0 w : World} {A : Option Addr} {n c g4 g7 g8 : Nat} {at_ e N : Int} {u : Value} {Y : List S59} {w' : World} {at2 e2 : Int} {p2 : Option Addr} (h : BnSt w0 w A n c g4 g7 g8 at_ e N u Y) (hb : w'.heap[g7]? = some (.cells (RdB A n c at2 p2) 56 (0, 0))) (hp : PE w' p2 e2) (hg : w.grownBy w' (some g7)) : BnSt w0 w' A n c g4 g7 g8 at2 e2 N u Y := by
  obtain ⟨p, h1, h2⟩ := h.br
  exact ⟨pw_below_grown h.bl (some g7) (below_size h.bl) hg (fun k_ e_ => by cases e_; exact h.n7), blk_grown h.b4 hg (fun e_ => blk_ne h.b4 h1 (by decide) (Option.some.inj e_)), ⟨p2, hb, hp⟩, blk_grown h.b8 hg (fun e_ => blk_ne h.b8 h1 (by decide) (Option.some.inj e_)),
    Kd.R_mono (Kd.R_grown (Kd.R_types h.row h1 (by decide)) hg (fun k hk e_ => hk.2 (Option.some.inj e_))) (fun _ _ => trivial), h.n4, h.n7, h.n8, h.d48⟩
theorem BnSt.set0 {w0 w : World} {A : Option Addr} {n c g4 g7 g8 : Nat} {at_ e N : Int} {u : Value} {Y : List S59} (h : BnSt w0 w A n c g4 g7 g8 at_ e N u Y) (N2 : Int) : BnSt w0 (w.setCell ⟨g8, 0, none⟩ (.int .i64 N2)) A n c g4 g7 g8 at_ e N2 u Y := by
  obtain ⟨p, h1, h2⟩ := h.br
  exact ⟨below_set h.bl h.n8, blk_far (p := ⟨g8, 0, none⟩) h.b4 h.d48 _, ⟨p, blk_far (p := ⟨g8, 0, none⟩) h1 (blk_ne h1 h.b8 (by decide)) _, h2.set (fun gb o ho => blk_ne ho h.b8 (by decide))⟩, blk_put h.b8 0 _ rfl,
    Kd.R_mono (Kd.R_set h.row h.b8 (by decide) 0 _) (fun _ _ => trivial), h.n4, h.n7, h.n8, h.d48⟩
theorem BnSt.set1 {w0 w : World} {A : Option Addr} {n c g4 g7 g8 : Nat} {at_ e N : Int} {u : Value} {Y : List S59} (h : BnSt w0 w A n c g4 g7 g8 at_ e N u Y) {u2 : Value} {Y2 : List S59} (hr : Kd.R k59 59 w w0.heap.size (fun _ => True) u2 Y2) : BnSt w0 (w.setCell ⟨g8, 1, none⟩ u2) A n c g4 g7 g8 at_ e N u2 Y2 := by
  obtain ⟨p, h1, h2⟩ := h.br
  exact ⟨below_set h.bl h.n8, blk_far (p := ⟨g8, 1, none⟩) h.b4 h.d48 _, ⟨p, blk_far (p := ⟨g8, 1, none⟩) h1 (blk_ne h1 h.b8 (by decide)) _, h2.set (fun gb o ho => blk_ne ho h.b8 (by decide))⟩, blk_put h.b8 1 _ rfl,
    Kd.R_mono (Kd.R_set hr h.b8 (by decide) 1 _) (fun _ _ => trivial), h.n4, h.n7, h.n8, h.d48⟩
theorem BnSt.app8 {w0 w : World} {A : Option Addr} {n c g4 g7 g8 : Nat} {at_ e N : Int} {u : Value} {Y : List S59} {w' : World} (h : BnSt w0 w A n c g4 g7 g8 at_ e N u Y) (hg : w.grownBy w' u.ownBlock) : w'.heap[g8]? = some (.cells #[.int .i64 N, u] 25 (0, 0)) := blk_grown h.b8 hg (Kd.R_ne h.row h.b8 (by decide))
theorem BnSt.app {w0 w : World} {A : Option Addr} {n c g4 g7 g8 : Nat} {at_ e N : Int} {u : Value} {Y : List S59} {w' : World} {u2 : Value} {Y2 : List S59} (h : BnSt w0 w A n c g4 g7 g8 at_ e N u Y) (hr : Kd.R k59 59 w' w0.heap.size (fun _ => True) u2 Y2) (hb : Below w0.heap.size w0 w') (hg : w.grownBy w' u.ownBlock) : BnSt w0 (w'.setCell ⟨g8, 1, none⟩ u2) A n c g4 g7 g8 at_ e N u2 Y2 := by
  obtain ⟨p, h1, h2⟩ := h.br
  have b8 := h.app8 hg
  have b4 := blk_grown h.b4 hg (Kd.R_ne h.row h.b4 (by decide))
  have b7 := blk_grown h1 hg (Kd.R_ne h.row h1 (by decide))
  have pe := h2.grown hg (fun gb o ho => Kd.R_ne h.row ho (by decide))
  exact ⟨below_set hb h.n8, blk_far (p := ⟨g8, 1, none⟩) b4 h.d48 _, ⟨p, blk_far (p := ⟨g8, 1, none⟩) b7 (blk_ne b7 b8 (by decide)) _, pe.set (fun gb o ho => blk_ne ho b8 (by decide))⟩, blk_put b8 1 _ rfl,
    Kd.R_mono (Kd.R_set hr b8 (by decide) 1 _) (fun _ _ => trivial), h.n4, h.n7, h.n8, h.d48⟩
structure BnEc (w0 w : World) (A : Option Addr) (n c g4 g7 g8 g9 : Nat) (at_ e N : Int) (u : Value) (Y : List S59) (x y : Int) : Prop where
  st : BnSt w0 w A n c g4 g7 g8 at_ e N u Y
  b9 : w.heap[g9]? = some (.cells #[.int .i64 x, .int .i64 y] 59 (0, 0))
  away : Kd.R k59 59 w w0.heap.size (fun k => True ∧ k ≠ g9) u Y
  n9 : w0.heap.size ≤ g9
theorem BnEc.new {w0 w : World} {A : Option Addr} {n c g4 g7 g8 : Nat} {at_ e N : Int} {u : Value} {Y : List S59} {w' : World} {g9 : Nat} (h : BnSt w0 w A n c g4 g7 g8 at_ e N u Y) (hb : Below w.heap.size w w') (h9 : w'.heap[g9]? = some (.cells #[.int .i64 0, .int .i64 0] 59 (0, 0))) (hg : w.heap.size ≤ g9) : BnEc w0 w' A n c g4 g7 g8 g9 at_ e N u Y 0 0 :=
  ⟨h.below hb, h9, Kd.R_below (Kd.R_elderB h.row g9 hg) hb, Nat.le_trans (below_size h.bl) hg⟩
theorem BnEc.set {w0 w : World} {A : Option Addr} {n c g4 g7 g8 : Nat} {at_ e N : Int} {u : Value} {Y : List S59} {g9 : Nat} {x y x2 y2 : Int} (h : BnEc w0 w A n c g4 g7 g8 g9 at_ e N u Y x y) (i : Nat) (z : Int) (hs : (#[Value.int .i64 x, .int .i64 y] : Array Value).setIfInBounds i (.int .i64 z) = #[.int .i64 x2, .int .i64 y2]) : BnEc w0 (w.setCell ⟨g9, i, none⟩ (.int .i64 z)) A n c g4 g7 g8 g9 at_ e N u Y x2 y2 := by
  obtain ⟨p, h1, h2⟩ := h.st.br
  have far := Kd.R_far (p := ⟨g9, i, none⟩) h.away (fun _ hk => hk.2) (.int .i64 z)
  exact ⟨⟨below_set h.st.bl h.n9, blk_far (p := ⟨g9, i, none⟩) h.st.b4 (blk_ne h.st.b4 h.b9 (by decide)) _, ⟨p, blk_far (p := ⟨g9, i, none⟩) h1 (blk_ne h1 h.b9 (by decide)) _, h2.set (fun gb o ho => blk_ne ho h.b9 (by decide))⟩, blk_far (p := ⟨g9, i, none⟩) h.st.b8 (blk_ne h.st.b8 h.b9 (by decide)) _,
    Kd.R_mono far (fun _ _ => trivial), h.st.n4, h.st.n7, h.st.n8, h.st.d48⟩, blk_put h.b9 i _ hs, far, h.n9⟩
theorem BnEc.call {w0 w : World} {A : Option Addr} {n c g4 g7 g8 : Nat} {at_ e N : Int} {u : Value} {Y : List S59} {g9 : Nat} {x y : Int} {w' : World} {at2 e2 : Int} {p2 : Option Addr} (h : BnEc w0 w A n c g4 g7 g8 g9 at_ e N u Y x y) (hb : w'.heap[g7]? = some (.cells (RdB A n c at2 p2) 56 (0, 0))) (hp : PE w' p2 e2) (hg : w.grownBy w' (some g7)) : BnEc w0 w' A n c g4 g7 g8 g9 at2 e2 N u Y x y := by
  obtain ⟨p, h1, h2⟩ := h.st.br
  exact ⟨h.st.call hb hp hg, blk_grown h.b9 hg (fun e_ => blk_ne h.b9 h1 (by decide) (Option.some.inj e_)), Kd.R_mono (Kd.R_grown (Kd.R_types h.away h1 (by decide)) hg (fun k hk e_ => hk.2 (Option.some.inj e_))) (fun _ hk => hk.1), h.n9⟩
def beacon_Parse.T11 : Bool × List (List Nat × List Nat) := (true, [([], []), ([], []), ([1], [1]), ([2], [2]), ([0, 0], [0]), ([4, 0, 4], []), ([3, 5, 0, 1, 2, 3, 4, 5], [3])])
def beacon_Parse.B11 : List Nat := [0, 0, 2, 6, 1, 17, 63]
theorem beacon_Parse.tab11 : rtab .any (opsOf Try.f8 11) = beacon_Parse.T11 := by kernel_rfl
theorem beacon_Parse.bits11 : waitsOk beacon_Parse.T11.2 beacon_Parse.B11 = true := by kernel_rfl
def beacon_Parse.T14 : Bool × List (List Nat × List Nat) := (true, [([], []), ([], []), ([1], [1]), ([2], [2]), ([3], [3]), ([0, 0], [0]), ([4, 5, 0, 1, 2, 3, 4, 5], [4]), ([6, 0, 1, 2, 3, 4, 5, 6], [])])
def beacon_Parse.B14 : List Nat := [0, 0, 2, 6, 14, 1, 63, 127]
theorem beacon_Parse.tab14 : rtab .any (opsOf Try.f8 14) = beacon_Parse.T14 := by kernel_rfl
theorem beacon_Parse.bits14 : waitsOk beacon_Parse.T14.2 beacon_Parse.B14 = true := by kernel_rfl
set_option maxHeartbeats 8000000 in
set_option maxRecDepth 100000 in
theorem beacon_Parse.calls (A0 : Option Addr) (c0 : Nat) (l0 : List Int) (a1 : Int) (r1 : Int) (r2 : List S59) (r3 r4 : Int) (w : World) (hr0 : Kd.C (Kd.int .u8) w A0 l0.length l0) (hc0 : l0.length ≤ c0) (h : beacon_Parse.f l0 a1 = some (r1, r2, r3, r4)) :
    Calls Try.prog 8 #[.slice A0 l0.length c0, .int .i64 a1] w fun e w' => ∃ v1_ : Value, e = .returned (.tuple #[.agg #[.int .i64 r1, v1_], .int .i64 r3, .int .i64 r4]) ∧ Kd.R k59 59 w' w.heap.size (fun _ => True) v1_ r2 ∧ Below w.heap.size w w' := by
  have hu25 := Try.underlying25
  have hu59 := Try.underlying59
  have hu56 := Try.underlying56
  obtain ⟨hL, hB, hP⟩ : l0.length ≤ 1000000000000 ∧ Bytes l0 ∧ bnGo l0 a1 = (r1, r2, r3, r4) := by
    unfold beacon_Parse.f at h
    split at h
    · rename_i hc
      exact ⟨hc.1, hc.2, Option.some.inj h⟩
    · exact absurd h (by simp)
  clear h
  unfold bnGo at hP
  obtain ⟨n, p1, e1, h1⟩ : ∃ n p e, rbN l0 4 a1 0 = (n, p, e) := ⟨_, _, _, rfl⟩
  rw [h1] at hP
  simp only at hP
  obtain ⟨m, p2, e2, h2⟩ : ∃ n p e, rbN l0 1 p1 e1 = (n, p, e) := ⟨_, _, _, rfl⟩
  rw [h2] at hP
  simp only [bnRest] at hP
  have hm := rbN_one hB h2
  obtain ⟨M, rfl⟩ := Int.eq_ofNat_of_zero_le hm.1
  rw [Int.toNat_natCast] at hP
  obtain ⟨Y, at3, e3, hz⟩ : ∃ Y at3 e3, blL l0 M [] p2 e2 = (Y, at3, e3) := ⟨_, _, _, rfl⟩
  rw [hz] at hP
  simp only [bnFin] at hP
  have HL := Aside0.mk hL
  have HY := Aside0.mk hB
  have HR0 := Aside0.mk hr0
  have HC0 := Aside0.mk hc0
  have H1 := Aside0.mk h1
  have H2 := Aside0.mk h2
  have HZ := Aside0.mk hz
  have HP := Aside0.mk hP
  have HM := Aside0.mk hm.2
  clear hL hB hr0 hc0 h1 h2 hz hP hm
  go_enter Try.func8, Try.ntmps8
  go_upto_region 3 with (first
    | ((with_reducible refine gate_dst (N := 4) rfl ?_); refine box_event ?hg (N := 4) ?hd (cs := #[.int .i64 0, .slice none 0 0]) (t := 25) ?hr ?_; (case hd => rfl); (case hg => rfl); (case hr => first | (go_simp; done) | (go_simp; rfl)); intro g4 hg w4 hbox hb; have HB4 := Aside0.mk hb; have G4 := Aside0.mk (Nat.le_of_eq hg.symm); have B4 := Aside0.mk hbox; clear hb hbox hg)
    | ((with_reducible refine gate_dst (N := 14) rfl ?_); refine box_event ?hg (N := 14) ?hd (cs := RdB A0 l0.length c0 a1 none) (t := 56) ?hr ?_; (case hd => rfl); (case hg => rfl); (case hr => first | (go_simp; done) | (go_simp; rfl)); intro g7 hg w5 hbox hb; have HB5 := Aside0.mk (below_step HB4.out hb); have G7 := Aside0.mk (show w.heap.size ≤ g7 by rw [hg]; exact below_size HB4.out); have B45 := Aside0.mk (blk_below B4.out hb); have BR := Aside0.mk hbox; clear hb hbox hg HB4 B4)
    | (go_at_call 24; (with_reducible refine (bn_number g7 A0 c0 l0 a1 0 4 _ _ _ none _ H1.out HY.out HL.out (Kd.C_below HR0.out HB5.out) HC0.out BR.out (PE.nil w5)).mono ?_); rintro x_ w16 ⟨rfl, pp1, hbx, hpx, hgr⟩; have HB6 := Aside0.mk (pw_below_grown HB5.out (some g7) (below_size HB5.out) hgr (fun k_ e_ => by cases e_; exact G7.out)); have B46 := Aside0.mk (blk_grown B45.out hgr (fun e_ => blk_ne B45.out BR.out (by decide) (Option.some.inj e_))); have BR6 := Aside0.mk hbx; have PE6 := Aside0.mk hpx; clear hbx hpx hgr HB5 B45 BR)
    | ((with_reducible refine gate_dst (N := 8) rfl ?_); refine box_event ?hg (N := 8) ?hd (cs := #[.int .i64 0, .slice none 0 0]) (t := 25) ?hr ?_; (case hd => rfl); (case hg => rfl); (case hr => first | (go_simp; done) | (go_simp; rfl)); intro g8 hg w8 hbox hb; have ST0 := Aside0.mk (BnSt.mk (c := c0) (below_step HB6.out hb) (blk_below B46.out hb) ⟨pp1, blk_below BR6.out hb, PE.below PE6.out hb⟩ hbox (Kd.R_nil _ _ _ _ _) G4.out G7.out (by rw [hg]; exact below_size HB6.out) (by rw [hg]; exact Nat.ne_of_lt (blk_lt B46.out))); clear hb hbox hg; have u0 := (blk_cell ST0.out.b8 0).trans rfl; have u1 := (blk_cell ST0.out.b8 1).trans rfl; have uf0 := blk_frozen ST0.out.b8 0; have uf1 := blk_frozen ST0.out.b8 1))
  have ST := Aside0.mk ((ST0.out.set0 n).set1 (u2 := .slice none 0 0) (Y2 := []) (Kd.R_nil _ _ _ _ _))
  clear ST0 u0 u1 uf0 uf1
  generalize ((w8.setCell ⟨g8, 0, none⟩ (.int .i64 n)).setCell ⟨g8, 1, none⟩ (.slice none 0 0)) = wq at ST ⊢
  obtain ⟨pp, hbr, hpe⟩ := ST.out.br
  go_wp2_with ((go_at_call 24; (with_reducible refine (bn_number g7 A0 c0 l0 p1 e1 1 _ _ _ _ _ H2.out HY.out HL.out (Kd.C_below HR0.out ST.out.bl) HC0.out hbr hpe).mono ?_); rintro x_ w19 ⟨rfl, pp2, hbx, hpx, hgr⟩; have STn := Aside0.mk (ST.out.call hbx hpx hgr); clear hbx hpx hgr))
  clear ST hbr hpe
  have ST := STn
  clear STn
  go_loopg [20] M (fun kq v20 wr => ∃ (i : Nat) (at_ e : Int) (u : Value) (Z : List S59), v20 = .int .i64 i ∧ Aside0 (i + kq = M) ∧ Aside0 (blL l0 kq Z at_ e = (Y, at3, e3)) ∧ Aside0 (Z.length = i) ∧ Aside0 (BnSt w wr A0 l0.length c0 g4 g7 g8 at_ e n u Z))
  case atStart => exact ⟨0, p2, e2, .slice none 0 0, [], rfl, ⟨by omega⟩, HZ, ⟨rfl⟩, ST⟩
  case round =>
    clear ST HZ
    obtain ⟨i, at_, e, u, Z, rfl, HI, HZ, HN, ST⟩ := hrel
    cases gk with
    | zero =>
      obtain rfl : i = M := by have := HI.out; omega
      have hz := HZ.out
      simp only [blL, Prod.mk.injEq] at hz
      obtain ⟨rfl, rfl, rfl⟩ := hz
      clear HZ HI
      obtain ⟨pp, hbr, hpe⟩ := ST.out.br
      obtain ⟨Au, cu, eu⟩ := Kd.R_slice ST.out.row
      subst eu
      rcases hpe with ⟨rfl, he⟩ | ⟨gb, rfl, he, hgb⟩
      · subst he
        have hP := HP.out
        rw [if_pos rfl] at hP
        have h2 : wr.cell? ⟨g7, 2, none⟩ = some (.pointer none) := (blk_cell hbr 2).trans rfl
        have k0 : wr.cell? ⟨g8, 0, none⟩ = some (.int .i64 n) := (blk_cell ST.out.b8 0).trans rfl
        have k1 : wr.cell? ⟨g8, 1, none⟩ = some (.slice Au Z.length cu) := (blk_cell ST.out.b8 1).trans rfl
        obtain ⟨K, hK⟩ := (bncheck_ev n Z (by have := HN.out; have := HM.out; omega)).rounds
        by_cases hR : RBn n Z
        · rw [if_pos hR] at hP hK
          simp only [Prod.mk.injEq] at hP
          obtain ⟨rfl, rfl, rfl, rfl⟩ := hP
          have HK := Aside0.mk hK
          clear hK hR HP
          go_upto_region 14 with (first
            | (go_at_call 25; (with_reducible refine (bp_load0 g7 _ h2).mono ?_); rintro _ _ ⟨rfl, rfl⟩)
            | (go_at_call 22; (with_reducible refine (beacon_Check.calls K n Au cu Z 0 _ (Kd.R_reads' ST.out.row).2.2 (Kd.R_reads' ST.out.row).2.1 HK.out).mono ?_); rintro x_ ws ⟨rfl, hb⟩; have STn := Aside0.mk (ST.out.below hb); clear hb; have y0 := (blk_cell STn.out.b4 0).trans rfl; have y1 := (blk_cell STn.out.b4 1).trans rfl; have yf0 := blk_frozen STn.out.b4 0; have yf1 := blk_frozen STn.out.b4 1))
          clear y0 y1 yf0 yf1 k0 k1 h2 hbr ST
          have ST := Aside0.mk STn.out.drew
          clear STn
          obtain ⟨pp7, hb7, hp7⟩ := ST.out.br
          refine start_ (n := 8) (S := fun w' => w'.cell? ⟨g8, 0, none⟩ = some (.int .i64 n) ∧ w'.cell? ⟨g8, 1, none⟩ = some (.slice Au Z.length cu) ∧ w'.cell? ⟨g7, 1, none⟩ = some (.int .i64 at_)) (ds := []) #[false, false, false, false, false, false, false, false] (by kernel_rfl) rfl rfl ⟨(blk_cell ST.out.b8 0).trans rfl, (blk_cell ST.out.b8 1).trans rfl, (blk_cell hb7 1).trans rfl⟩ (fun hHeld => ?_); refine with_tabW beacon_Parse.tab14 beacon_Parse.bits14 (fun HT_ HW_ => ?_)
          generalize ws.drew = wd at ST hHeld ⊢
          have o0 : wd.cell? ⟨g4, 0, none⟩ = some (.int .i64 0) := (blk_cell ST.out.b4 0).trans rfl
          have o1 : wd.cell? ⟨g4, 1, none⟩ = some (.slice none 0 0) := (blk_cell ST.out.b4 1).trans rfl
          have of0 := blk_frozen ST.out.b4 0
          have of1 := blk_frozen ST.out.b4 1
          have n84 : g8 ≠ g4 := ST.out.d48.symm
          have n74 : g7 ≠ g4 := by obtain ⟨_, h7, _⟩ := ST.out.br; exact blk_ne h7 ST.out.b4 (by decide)
          refine pure_ (i := 1) (N := some 52) (v := ?_) (a' := ?_) #[false, true, false, false, false, false, false, false] rfl rfl (any_of HT_.out (by kernel_rfl)) (fun _ _ _ h => h) (Or.inl ⟨by rfl, ?_⟩) ?_ ?_
          rotate_left
          · intro w'
            go_simp
            with_reducible rfl
          rotate_left
          · simp only [Act.put, List.setIfInBounds_toArray, List.set_cons_zero, List.set_cons_succ, i64_w, i32_w]
            rfl
          refine pure_ (i := 2) (N := some 53) (v := ?_) (a' := ?_) #[false, true, true, false, false, false, false, false] rfl rfl (any_of HT_.out (by kernel_rfl)) (fun _ _ _ h => h) (Or.inl ⟨by rfl, ?_⟩) ?_ ?_
          rotate_left
          · intro w'
            go_simp
            with_reducible rfl
          rotate_left
          · simp only [Act.put, List.setIfInBounds_toArray, List.set_cons_zero, List.set_cons_succ, i64_w, i32_w]
            rfl
          refine pure_ (i := 3) (N := some 54) (v := ?_) (a' := ?_) #[false, true, true, true, false, false, false, false] rfl rfl (any_of HT_.out (by kernel_rfl)) (fun _ _ _ h => h) (Or.inl ⟨by rfl, ?_⟩) ?_ ?_
          rotate_left
          · intro w'
            go_simp
            with_reducible rfl
          rotate_left
          · simp only [Act.put, List.setIfInBounds_toArray, List.set_cons_zero, List.set_cons_succ, i64_w, i32_w]
            rfl
          refine take_ (i := 0) (N := some 51) (v := ?_) (a' := ?_) #[true, true, true, true, false, false, false, false] rfl rfl (take_ofW HT_.out HW_.out (by kernel_rfl)) (fun _ _ _ h => h) (Or.inl ⟨by rfl, ?_⟩) hHeld ?_ ?_
          rotate_left
          · rintro w' ⟨s0, s1, s2⟩
            go_simp
            with_reducible rfl
          rotate_left
          · simp only [Act.put, List.setIfInBounds_toArray, List.set_cons_zero, List.set_cons_succ, i64_w, i32_w]
            rfl
          refine take_ (i := 4) (N := some 55) (v := ?_) (a' := ?_) #[true, true, true, true, true, false, false, false] rfl rfl (take_ofW HT_.out HW_.out (by kernel_rfl)) (fun _ _ _ h => h) (Or.inl ⟨by rfl, ?_⟩) hHeld ?_ ?_
          rotate_left
          · rintro w' ⟨s0, s1, s2⟩
            go_simp
            with_reducible rfl
          rotate_left
          · simp only [Act.put, List.setIfInBounds_toArray, List.set_cons_zero, List.set_cons_succ, i64_w, i32_w]
            rfl
          refine one_ (i := 5) (N := none) #[true, true, true, true, true, true, false, false] rfl rfl (one_of HT_.out (by kernel_rfl)) (by decide) (fun K hK => ?_)
          refine skip_ (w1 := ?_) (by rfl) rfl ?_ ?_
          rotate_left
          · go_simp
            rfl
          refine hK.out _ _ ?_ (fun hHeld2 => ?_)
          · refine ⟨?_, ?_, ?_⟩
            · (repeat (first | refine (cell_far n84 _).trans ?_ | refine (cell_far n74 _).trans ?_)); exact hHeld.1
            · (repeat (first | refine (cell_far n84 _).trans ?_ | refine (cell_far n74 _).trans ?_)); exact hHeld.2.1
            · (repeat (first | refine (cell_far n84 _).trans ?_ | refine (cell_far n74 _).trans ?_)); exact hHeld.2.2
          clear hHeld
          have hHeld := hHeld2
          clear hHeld2
          clear hK K
          refine pure_ (i := 6) (N := some 5) (v := ?_) (a' := ?_) #[true, true, true, true, true, true, true, false] rfl rfl (any_of HT_.out (by kernel_rfl)) (fun _ _ _ h => h) (Or.inl ⟨by rfl, ?_⟩) ?_ ?_
          rotate_left
          · intro w'
            go_simp
            with_reducible rfl
          rotate_left
          · simp only [Act.put, List.setIfInBounds_toArray, List.set_cons_zero, List.set_cons_succ, i64_w, i32_w]
            rfl
          refine pure_ (i := 7) (N := some 6) (v := ?_) (a' := ?_) #[true, true, true, true, true, true, true, true] rfl rfl (any_of HT_.out (by kernel_rfl)) (fun _ _ _ h => h) (Or.inl ⟨by rfl, ?_⟩) ?_ ?_
          rotate_left
          · intro w'
            go_simp
            with_reducible rfl
          rotate_left
          · simp only [Act.put, List.setIfInBounds_toArray, List.set_cons_zero, List.set_cons_succ, i64_w, i32_w]
            rfl
          refine done_ (done_of HT_.out (by kernel_rfl)) ?_
          clear HT_ HW_
          try go_wp2
          refine bodyPost_ret (results_ctt rfl _ _ g4 25 #[.int .i64 n, .slice Au Z.length cu] (0, 0) _ rfl (blk_put (blk_put ST.out.b4 0 (.int .i64 n) (cs' := #[.int .i64 n, .slice none 0 0]) rfl) 1 (.slice Au Z.length cu) (cs' := #[.int .i64 n, .slice Au Z.length cu]) rfl) Try.underlying25 rfl (by kernel_rfl)) rfl ?_
          exact ⟨_, rfl, Kd.R_mono (Kd.R_far (p := ⟨g4, 1, none⟩) (Kd.R_far (p := ⟨g4, 0, none⟩) (Kd.R_types ST.out.row ST.out.b4 (by decide)) (fun _ hk => hk.2) _) (fun _ hk => hk.2) _) (fun _ _ => trivial), below_set (below_set ST.out.bl ST.out.n4) ST.out.n4⟩
        · rw [if_neg hR] at hP hK
          simp only [Prod.mk.injEq] at hP
          obtain ⟨rfl, rfl, rfl, rfl⟩ := hP
          have HK := Aside0.mk hK
          clear hK hR HP
          go_wp2_with (first
            | (go_at_call 25; (with_reducible refine (bp_load0 g7 _ h2).mono ?_); rintro _ _ ⟨rfl, rfl⟩)
            | (go_at_call 22; (with_reducible refine (beacon_Check.calls K n Au cu Z 1 _ (Kd.R_reads' ST.out.row).2.2 (Kd.R_reads' ST.out.row).2.1 HK.out).mono ?_); rintro x_ ws ⟨rfl, hb⟩; have STn := Aside0.mk (ST.out.below hb); clear hb; have y0 := (blk_cell STn.out.b4 0).trans rfl; have y1 := (blk_cell STn.out.b4 1).trans rfl; have yf0 := blk_frozen STn.out.b4 0; have yf1 := blk_frozen STn.out.b4 1))
          clear ST
          have ST := STn
          refine bodyPost_ret (results_ctt rfl _ _ g4 25 #[.int .i64 0, .slice none 0 0] (0, 0) _ rfl (blk_put (blk_put ST.out.b4 0 (.int .i64 0) (cs' := #[.int .i64 0, .slice none 0 0]) rfl) 1 (.slice none 0 0) (cs' := #[.int .i64 0, .slice none 0 0]) rfl) Try.underlying25 rfl (by kernel_rfl)) rfl ?_
          exact ⟨_, rfl, Kd.R_nil _ _ _ _ _, below_set (below_set ST.out.bl ST.out.n4) ST.out.n4⟩
      · have hP := HP.out
        rw [if_neg he] at hP
        simp only [Prod.mk.injEq] at hP
        obtain ⟨rfl, rfl, rfl, rfl⟩ := hP
        have GB := Aside0.mk hgb
        have h2 : wr.cell? ⟨g7, 2, none⟩ = some (.pointer (some ⟨gb, 0, none⟩)) := (blk_cell hbr 2).trans rfl
        clear hgb hbr he HP
        go_upto_region 11 with ((go_at_call 25; (with_reducible refine (bp_load1 g7 gb e _ h2 GB.out).mono ?_); rintro _ _ ⟨rfl, rfl⟩))
        clear h2
        have STd := Aside0.mk ST.out.drew
        clear ST
        have ST := STd
        clear STd
        have GBd := Aside0.mk (show wr.drew.heap[gb]? = _ from GB.out)
        clear GB
        have GB := GBd
        clear GBd
        refine start_ (n := 7) (S := fun w' => w'.cell? ⟨gb, 0, none⟩ = some (.int .i64 e)) (ds := []) #[false, false, false, false, false, false, false] (by kernel_rfl) rfl rfl ((blk_cell GB.out 0).trans rfl) (fun hHeld => ?_); refine with_tabW beacon_Parse.tab11 beacon_Parse.bits11 (fun HT_ HW_ => ?_)
        generalize wr.drew = wd at ST hHeld GB ⊢
        have o0 : wd.cell? ⟨g4, 0, none⟩ = some (.int .i64 0) := (blk_cell ST.out.b4 0).trans rfl
        have o1 : wd.cell? ⟨g4, 1, none⟩ = some (.slice none 0 0) := (blk_cell ST.out.b4 1).trans rfl
        have of0 := blk_frozen ST.out.b4 0
        have of1 := blk_frozen ST.out.b4 1
        have nb4 : gb ≠ g4 := blk_ne GB.out ST.out.b4 (by decide)
        refine pure_ (i := 0) (N := some 42) (v := ?_) (a' := ?_) #[true, false, false, false, false, false, false] rfl rfl (any_of HT_.out (by kernel_rfl)) (fun _ _ _ h => h) (Or.inl ⟨by rfl, ?_⟩) ?_ ?_
        rotate_left
        · intro w'
          go_simp
          with_reducible rfl
        rotate_left
        · simp only [Act.put, List.setIfInBounds_toArray, List.set_cons_zero, List.set_cons_succ, i64_w, i32_w]
          rfl
        refine pure_ (i := 1) (N := some 43) (v := ?_) (a' := ?_) #[true, true, false, false, false, false, false] rfl rfl (any_of HT_.out (by kernel_rfl)) (fun _ _ _ h => h) (Or.inl ⟨by rfl, ?_⟩) ?_ ?_
        rotate_left
        · intro w'
          go_simp
          with_reducible rfl
        rotate_left
        · simp only [Act.put, List.setIfInBounds_toArray, List.set_cons_zero, List.set_cons_succ, i64_w, i32_w]
          rfl
        refine pure_ (i := 2) (N := some 44) (v := ?_) (a' := ?_) #[true, true, true, false, false, false, false] rfl rfl (any_of HT_.out (by kernel_rfl)) (fun _ _ _ h => h) (Or.inl ⟨by rfl, ?_⟩) ?_ ?_
        rotate_left
        · intro w'
          go_simp
          with_reducible rfl
        rotate_left
        · simp only [Act.put, List.setIfInBounds_toArray, List.set_cons_zero, List.set_cons_succ, i64_w, i32_w]
          rfl
        refine take_ (i := 3) (N := some 45) (v := ?_) (a' := ?_) #[true, true, true, true, false, false, false] rfl rfl (take_ofW HT_.out HW_.out (by kernel_rfl)) (fun _ _ _ h => h) (Or.inl ⟨by rfl, ?_⟩) hHeld ?_ ?_
        rotate_left
        · intro w' s0
          go_simp
          with_reducible rfl
        rotate_left
        · simp only [Act.put, List.setIfInBounds_toArray, List.set_cons_zero, List.set_cons_succ, i64_w, i32_w]
          rfl
        refine one_ (i := 4) (N := none) #[true, true, true, true, true, false, false] rfl rfl (one_of HT_.out (by kernel_rfl)) (by decide) (fun K hK => ?_)
        refine skip_ (w1 := ?_) (by rfl) rfl ?_ ?_
        rotate_left
        · go_simp
          rfl
        refine hK.out _ _ ?_ (fun hHeld2 => ?_)
        · (repeat (first | refine (cell_far nb4 _).trans ?_)); exact hHeld
        clear hHeld
        have hHeld := hHeld2
        clear hHeld2
        clear hK K
        refine pure_ (i := 5) (N := some 5) (v := ?_) (a' := ?_) #[true, true, true, true, true, true, false] rfl rfl (any_of HT_.out (by kernel_rfl)) (fun _ _ _ h => h) (Or.inl ⟨by rfl, ?_⟩) ?_ ?_
        rotate_left
        · intro w'
          go_simp
          with_reducible rfl
        rotate_left
        · simp only [Act.put, List.setIfInBounds_toArray, List.set_cons_zero, List.set_cons_succ, i64_w, i32_w]
          rfl
        refine pure_ (i := 6) (N := some 6) (v := ?_) (a' := ?_) #[true, true, true, true, true, true, true] rfl rfl (any_of HT_.out (by kernel_rfl)) (fun _ _ _ h => h) (Or.inl ⟨by rfl, ?_⟩) ?_ ?_
        rotate_left
        · intro w'
          go_simp
          with_reducible rfl
        rotate_left
        · simp only [Act.put, List.setIfInBounds_toArray, List.set_cons_zero, List.set_cons_succ, i64_w, i32_w]
          rfl
        refine done_ (done_of HT_.out (by kernel_rfl)) ?_
        clear HT_ HW_
        try go_wp2
        refine bodyPost_ret (results_ctt rfl _ _ g4 25 #[.int .i64 0, .slice none 0 0] (0, 0) _ rfl (blk_put (blk_put ST.out.b4 0 (.int .i64 0) (cs' := #[.int .i64 0, .slice none 0 0]) rfl) 1 (.slice none 0 0) (cs' := #[.int .i64 0, .slice none 0 0]) rfl) Try.underlying25 rfl (by kernel_rfl)) rfl ?_
        exact ⟨_, rfl, Kd.R_nil _ _ _ _ _, below_set (below_set ST.out.bl ST.out.n4) ST.out.n4⟩
    | succ k1 =>
      have hz := HZ.out
      simp only [blL] at hz
      obtain ⟨x, q1, f1, hx⟩ : ∃ x q f, rbN l0 1 at_ e = (x, q, f) := ⟨_, _, _, rfl⟩
      rw [hx] at hz
      simp only at hz
      obtain ⟨y, q2, f2, hy⟩ : ∃ x q f, rbN l0 4 q1 f1 = (x, q, f) := ⟨_, _, _, rfl⟩
      rw [hy] at hz
      simp only at hz
      clear HZ
      have HZ := Aside0.mk hz
      have HX := Aside0.mk hx
      have HV := Aside0.mk hy
      clear hz hx hy
      have hlt : decide ((i : Int) < (M : Int)) = true := decide_eq_true (by have := HI.out; omega)
      have hltn : decide (i < M) = true := decide_eq_true (by have := HI.out; omega)
      have hi0 : (0 : Int) ≤ (i : Int) := by omega
      have hi1 : (i : Int) < 256 := by have := HI.out; have := HM.out; omega
      obtain ⟨pp, hbr, hpe⟩ := ST.out.br
      go_upto_region 6 with (first
        | (go_at_call 24; (with_reducible refine (bn_number g7 A0 c0 l0 at_ e 1 _ _ _ _ _ HX.out HY.out HL.out (Kd.C_below HR0.out ST.out.bl) HC0.out hbr hpe).mono ?_); rintro x_ w23 ⟨rfl, pp3, hbx, hpx, hgr⟩; have STn := Aside0.mk (ST.out.call hbx hpx hgr); clear hbx hpx hgr ST hbr hpe; have ST := STn; clear STn)
        | ((with_reducible refine gate_dst (N := 9) rfl ?_); refine box_event ?hg (N := 9) ?hd (cs := #[.int .i64 0, .int .i64 0]) (t := 59) ?hr ?_; (case hd => rfl); (case hg => rfl); (case hr => first | (go_simp; done) | (go_simp; rfl)); intro g9 hg w9 hbox hb; have E9 := Aside0.mk (BnEc.new ST.out hb hbox (Nat.le_of_eq hg.symm)); clear hb hbox hg ST; have v0 := (blk_cell E9.out.b9 0).trans rfl; have v1 := (blk_cell E9.out.b9 1).trans rfl; have vf0 := blk_frozen E9.out.b9 0; have vf1 := blk_frozen E9.out.b9 1))
      have E2 := Aside0.mk ((E9.out.set (x2 := x) (y2 := 0) 0 x rfl).set (x2 := x) (y2 := 0) 1 0 rfl)
      clear E9 v0 v1 vf0 vf1
      generalize ((w9.setCell ⟨g9, 0, none⟩ (.int .i64 x)).setCell ⟨g9, 1, none⟩ (.int .i64 0)) = wa at E2 ⊢
      obtain ⟨pp, hbr, hpe⟩ := E2.out.st.br
      go_upto_region 7 with ((go_at_call 24; (with_reducible refine (bn_number g7 A0 c0 l0 q1 f1 4 _ _ _ _ _ HV.out HY.out HL.out (Kd.C_below HR0.out E2.out.st.bl) HC0.out hbr hpe).mono ?_); rintro x_ w26 ⟨rfl, pp4, hbx, hpx, hgr⟩; have E3 := Aside0.mk (E2.out.call hbx hpx hgr); clear hbx hpx hgr E2 hbr hpe; have z1 := (blk_cell E3.out.b9 1).trans rfl; have zf1 := blk_frozen E3.out.b9 1))
      have E4 := Aside0.mk (E3.out.set (x2 := x) (y2 := y) 1 y rfl)
      clear E3 z1 zf1
      generalize (w26.setCell ⟨g9, 1, none⟩ (.int .i64 y)) = wb at E4 ⊢
      have m0 : wb.cell? ⟨g8, 1, none⟩ = some u := (blk_cell E4.out.st.b8 1).trans rfl
      have m1 : wb.cell? ⟨g9, 0, none⟩ = some (.int .i64 x) := (blk_cell E4.out.b9 0).trans rfl
      have m2 : wb.cell? ⟨g9, 1, none⟩ = some (.int .i64 y) := (blk_cell E4.out.b9 1).trans rfl
      obtain ⟨Z2, hZ2⟩ : ∃ Z2 : List S59, Z2 = Z ++ [(⟨x, y⟩ : S59)] := ⟨_, rfl⟩
      have NZ := Aside0.mk hZ2
      clear hZ2
      go_wp2_with (((with_reducible refine gate_builtin (b := .append) (xs := #[.tmp 29, .tmp 31]) rfl ?_); at_builtin; refine Kd.R_append k59 (w0 := w) w.heap.size rfl (.tmp 29) (.tmp 31) 23 59 (.agg #[(.int .i64 0), (.int .i64 0)]) 16 rfl Try.underlying23 info59 rfl (by decide) (by omega) u Z (⟨x, y⟩ : S59) [.int .i64 x, .int .i64 y] (fun _ => True) (fun _ => False) rfl rfl ?aP (fun _ hk => hk.elim) ?aF ?aO ?aB ?aS ?aL ?_; (case aP => exact k59_mkM _ _ _ (⟨x, y⟩ : S59)); (case aB => exact E4.out.st.bl); (case aF => exact (fun _ _ => trivial)); (case aO => exact E4.out.st.row); (case aS => exact below_size E4.out.st.bl); (case aL => have := HN.out; have := HI.out; have := HM.out; omega); intro v2 w2 ho hb hg hat; rw [← NZ.out] at ho; obtain ⟨A2, c2, ev2⟩ := Kd.R_slice ho; subst ev2; have hc1 : w2.cell? ⟨g8, 1, none⟩ = some u := (blk_cell (E4.out.st.app8 hg) 1).trans rfl; have hf1 := blk_frozen (E4.out.st.app8 hg) 1; have STn := Aside0.mk (E4.out.st.app ho hb hg); clear ho hb hg hat))
      go_roundg k1
      case measure => have := HI.out; omega
      case rel => exact ⟨i + 1, q2, f2, _, Z2, by simp, ⟨by have := HI.out; omega⟩, ⟨by rw [NZ.out]; exact HZ.out⟩, ⟨by rw [NZ.out, List.length_append, HN.out]; rfl⟩, STn⟩
end Go.Proofs.Ytaiklcpmlkpfjaa.P
namespace Go.Proofs.Ytaiklcpmlkpfjaa.P
open Go.RowKit Go.Proofs.YtaiklcpmlkpfjaaW.PrintWords Go.Proofs.YtaiklcpmlkpfjaaW.PrintLast Go.Proofs.YtaiklcpmlkpfjaaW.PrintMore
attribute [local go_sem] max2_int min2_int max_two min_two max_three min_three max_four min_four   -- for this text's walks alone
mutual
def thalwegref01_Get.j0 : Nat → List Int → Int → Int → Bool → Option (Int × Int × Int)
  | 0, _, _, _, _ => none
  | k + 1, x0, x1, x2, x26 => if x26 = true then (some (0, 0, 1)) else (if (wrap64 ((x0.length : Int) - x1)) < x2 then (some (0, 0, 6)) else (thalwegref01_Get.l0 k x0 x1 x2 0 0))
def thalwegref01_Get.l0 : Nat → List Int → Int → Int → Int → Int → Option (Int × Int × Int)
  | 0, _, _, _, _, _ => none
  | k + 1, x0, x1, x2, x9, x10 => if x10 < x2 then (if 0 ≤ (wrap64 (x1 + x10)) then (if (wrap64 (x1 + x10)) < (x0.length : Int) then (thalwegref01_Get.l0 k x0 x1 x2 (wrap64 ((wrap64 (256 * x9)) + (wrap64 (rd x0 (wrap64 (x1 + x10)))))) (wrap64 (x10 + 1))) else (none)) else (none)) else (some (x9, wrap64 (x1 + x2), 0))
end
def thalwegref01_Get.f (k : Nat) (l0 : List Int) (a1 : Int) (a2 : Int) : Option (Int × Int × Int) := if a2 < 1 then (thalwegref01_Get.j0 k l0 a1 a2 true) else (if a2 > 7 then (thalwegref01_Get.j0 k l0 a1 a2 true) else (if a1 < 0 then (thalwegref01_Get.j0 k l0 a1 a2 true) else (thalwegref01_Get.j0 k l0 a1 a2 (decide (a1 > (l0.length : Int))))))
theorem thalwegref01_Get.mono_l : ∀ k, (∀ y0 y1 y2 y3, LeO (thalwegref01_Get.j0 k y0 y1 y2 y3) (thalwegref01_Get.j0 (k + 1) y0 y1 y2 y3)) ∧ (∀ y0 y1 y2 y3 y4, LeO (thalwegref01_Get.l0 k y0 y1 y2 y3 y4) (thalwegref01_Get.l0 (k + 1) y0 y1 y2 y3 y4))
  | 0 => ⟨fun _ _ _ _ r h => by simp [thalwegref01_Get.j0] at h, fun _ _ _ _ _ r h => by simp [thalwegref01_Get.l0] at h⟩
  | k + 1 => by
    obtain ⟨ih0, ih1⟩ := thalwegref01_Get.mono_l k
    refine ⟨?_, ?_⟩
    · intro y0 y1 y2 y3
      unfold thalwegref01_Get.j0
      repeat' first
      | (with_reducible exact ih0 _ _ _ _)
      | (with_reducible exact ih1 _ _ _ _ _)
      | (with_reducible exact LeO.refl _)
      | (with_reducible exact LeO.none _)
      | (with_reducible refine LeO.ite ?_ ?_)
      | (with_reducible refine LeO.bind ?_ (fun _ => ?_))
      | exact ih0 _ _ _ _
      | exact ih1 _ _ _ _ _
      | exact LeO.none _
      | refine LeO.ite ?_ ?_
      | refine LeO.bind ?_ (fun _ => ?_)
    · intro y0 y1 y2 y3 y4
      unfold thalwegref01_Get.l0
      repeat' first
      | (with_reducible exact ih0 _ _ _ _)
      | (with_reducible exact ih1 _ _ _ _ _)
      | (with_reducible exact LeO.refl _)
      | (with_reducible exact LeO.none _)
      | (with_reducible refine LeO.ite ?_ ?_)
      | (with_reducible refine LeO.bind ?_ (fun _ => ?_))
      | exact ih0 _ _ _ _
      | exact ih1 _ _ _ _ _
      | exact LeO.none _
      | refine LeO.ite ?_ ?_
      | refine LeO.bind ?_ (fun _ => ?_)
theorem thalwegref01_Get.mono : ∀ a0 a1 a2 k, LeO (thalwegref01_Get.f k a0 a1 a2) (thalwegref01_Get.f (k + 1) a0 a1 a2) := by
  intro a0 a1 a2 k
  obtain ⟨ih0, ih1⟩ := thalwegref01_Get.mono_l k
  unfold thalwegref01_Get.f
  repeat' first
      | (with_reducible exact ih0 _ _ _ _)
      | (with_reducible exact ih1 _ _ _ _ _)
      | (with_reducible exact LeO.refl _)
      | (with_reducible exact LeO.none _)
      | (with_reducible refine LeO.ite ?_ ?_)
      | (with_reducible refine LeO.bind ?_ (fun _ => ?_))
      | exact ih0 _ _ _ _
      | exact ih1 _ _ _ _ _
      | exact LeO.none _
      | refine LeO.ite ?_ ?_
      | refine LeO.bind ?_ (fun _ => ?_)
set_option maxHeartbeats 8000000 in
set_option maxRecDepth 100000 in
theorem thalwegref01_Get.calls (k : Nat) (A0 : Option Addr) (c0 : Nat) (l0 : List Int) (a1 : Int) (a2 : Int) (r1 : Int) (r2 : Int) (r3 : Int) (w : World) (hr0 : Kd.C (Kd.int .u8) w A0 l0.length l0) (hc0 : l0.length ≤ c0) (h : thalwegref01_Get.f k l0 a1 a2 = some (r1, r2, r3)) :
    Calls Try.prog 26 #[.slice A0 l0.length c0, .int .i64 a1, .int .i64 a2] w fun e w' => e = .returned (.tuple #[.int .i64 r1, .int .i64 r2, .int .i64 r3]) ∧ Drawn0 w w' := by
  have HR0 := Aside0.mk hr0
  have HC0 := Aside0.mk hc0
  clear hr0 hc0
  have H : (if a2 < 1 then (thalwegref01_Get.j0 k l0 a1 a2 true) else (if a2 > 7 then (thalwegref01_Get.j0 k l0 a1 a2 true) else (if a1 < 0 then (thalwegref01_Get.j0 k l0 a1 a2 true) else (thalwegref01_Get.j0 k l0 a1 a2 (decide (a1 > (l0.length : Int))))))) = some (r1, r2, r3) := h
  clear h
  have HC4 := Aside0.mk H
  clear H
  go_enter Try.func26, Try.ntmps26
  go_upto_region 1 with (fail)
  go_cut [26] (fun v26 wc => ∃ (kq : Nat) (x26_3 : Bool), v26 = .bool x26_3 ∧ Aside0 (thalwegref01_Get.j0 kq l0 a1 a2 x26_3 = some (r1, r2, r3)) ∧ Aside0 (kq ≤ k) ∧ Drawn0 w wc)
  case first =>
    have H := HC4.out
    clear HC4
    by_cases c5 : a2 < 1
    · rw [if_pos c5] at H
      have c5b0 : decide (a2 < 1) = true := decide_eq_true c5
      clear c5
      (first | rw [c5b0] | (simp only [i64_w, i32_w]; rw [c5b0]) | rw [c5b1] | skip)
      have H' := Aside0.mk H
      clear H
      go_wp2
      go_meet
      case rel => exact ⟨_, (true), (by first | rfl | (simp; done) | (simp [*]; done)), H', ⟨by first | omega | exact Nat.le_refl _⟩, by repeat (first | exact Drawn0.refl _ | apply Drawn0.step)⟩
    · rw [if_neg c5] at H
      have c5b0 : decide (a2 < 1) = false := decide_eq_false c5
      clear c5
      (first | rw [c5b0] | (simp only [i64_w, i32_w]; rw [c5b0]) | rw [c5b1] | skip)
      by_cases c6 : a2 > 7
      · rw [if_pos c6] at H
        have c6b0 : decide (7 < a2) = true := decide_eq_true c6
        clear c6
        have H' := Aside0.mk H
        clear H
        go_wp2
        go_meet
        case rel => exact ⟨_, (true), (by first | rfl | (simp; done) | (simp [*]; done)), H', ⟨by first | omega | exact Nat.le_refl _⟩, by repeat (first | exact Drawn0.refl _ | apply Drawn0.step)⟩
      · rw [if_neg c6] at H
        have c6b0 : decide (7 < a2) = false := decide_eq_false c6
        clear c6
        by_cases c7 : a1 < 0
        · rw [if_pos c7] at H
          have c7b0 : decide (a1 < 0) = true := decide_eq_true c7
          clear c7
          have H' := Aside0.mk H
          clear H
          go_wp2
          go_meet
          case rel => exact ⟨_, (true), (by first | rfl | (simp; done) | (simp [*]; done)), H', ⟨by first | omega | exact Nat.le_refl _⟩, by repeat (first | exact Drawn0.refl _ | apply Drawn0.step)⟩
        · rw [if_neg c7] at H
          have c7b0 : decide (a1 < 0) = false := decide_eq_false c7
          clear c7
          have H' := Aside0.mk H
          clear H
          go_wp2
          go_meet
          case rel => exact ⟨_, (decide (a1 > (l0.length : Int))), (by first | rfl | (simp; done) | (simp [*]; done)), H', ⟨by first | omega | exact Nat.le_refl _⟩, by repeat (first | exact Drawn0.refl _ | apply Drawn0.step)⟩
  case rest =>
    clear HC4
    try clear c2
    try clear p2
    try clear c5
    try clear c5b0
    try clear c6
    try clear c6b0
    try clear c7
    try clear c7b0
    obtain ⟨kq, x26_3, rfl, HA, HJ3, ⟨mc3, rfl⟩⟩ := hcut
    cases kq with
    | zero => exact absurd HA.out (by simp [thalwegref01_Get.j0])
    | succ kj3 =>
      have H := HA.out
      clear HA
      simp only [thalwegref01_Get.j0] at H
      by_cases c8 : x26_3 = true
      · subst c8
        have H1 : (some (0, 0, 1)) = some (r1, r2, r3) := by rw [if_pos rfl] at H; exact H
        clear H
        have H := H1
        clear H1
        simp only [Option.some.injEq, Prod.mk.injEq] at H
        obtain ⟨rfl, rfl, rfl⟩ := H
        go_wp2
        go_ret3
        exact ⟨by first | rfl | (simp; done) | (simp [*]; done), by repeat (first | exact Drawn0.refl _ | apply Drawn0.step)⟩
      · replace c8 := Bool.eq_false_iff.mpr c8
        subst c8
        have H1 : (if (wrap64 ((l0.length : Int) - a1)) < a2 then (some (0, 0, 6)) else (thalwegref01_Get.l0 kj3 l0 a1 a2 0 0)) = some (r1, r2, r3) := by rw [if_neg (show ¬ (false = true) by decide)] at H; exact H
        clear H
        have H := H1
        clear H1
        by_cases c9 : (wrap64 ((l0.length : Int) - a1)) < a2
        · rw [if_pos c9] at H
          have c9b0 : decide ((wrap64 ((l0.length : Int) - a1)) < a2) = true := decide_eq_true c9
          clear c9
          simp only [Option.some.injEq, Prod.mk.injEq] at H
          obtain ⟨rfl, rfl, rfl⟩ := H
          go_wp2
          go_ret3
          exact ⟨by first | rfl | (simp; done) | (simp [*]; done), by repeat (first | exact Drawn0.refl _ | apply Drawn0.step)⟩
        · rw [if_neg c9] at H
          have c9b0 : decide ((wrap64 ((l0.length : Int) - a1)) < a2) = false := decide_eq_false c9
          clear c9
          have H' := Aside0.mk H
          clear H
          go_wp2
          go_loopg [9, 10] kj3 (fun kq v9 v10 w' => ∃ (x9_2 : Int) (x10_2 : Int), v9 = .int .i64 x9_2 ∧ v10 = .int .i64 x10_2 ∧ Aside0 (thalwegref01_Get.l0 kq l0 a1 a2 x9_2 x10_2 = some (r1, r2, r3)) ∧ Aside0 (kq ≤ kj3) ∧ Drawn0 w w')
          case atStart => exact ⟨(0), (0), (by first | rfl | (simp; done) | (simp [*]; done)), (by first | rfl | (simp; done) | (simp [*]; done)), H', ⟨Nat.le_refl _⟩, by repeat (first | exact Drawn0.refl _ | apply Drawn0.step)⟩
          case round =>
            clear H'
            try clear c2
            try clear p2
            try clear c3
            try clear c5
            try clear c5b0
            try clear c6
            try clear c6b0
            try clear p6
            try clear c7
            try clear c7b0
            try clear c8
            try clear c9
            try clear c9b0
            try clear p2
            obtain ⟨x9_2, x10_2, rfl, rfl, HA, HK2, ⟨m2, rfl⟩⟩ := hrel
            cases gk with
            | zero => exact absurd HA.out (by simp [thalwegref01_Get.l0])
            | succ k2 =>
              have H := HA.out
              clear HA
              simp only [thalwegref01_Get.l0] at H
              by_cases c10 : x10_2 < a2
              · rw [if_pos c10] at H
                have c10b0 : decide (x10_2 < a2) = true := decide_eq_true c10
                clear c10
                obtain ⟨ji11, hji11⟩ : ∃ j_ : Int, (wrap64 (a1 + x10_2)) = j_ := ⟨_, rfl⟩
                replace H : (if 0 ≤ (ji11) then (if (ji11) < (l0.length : Int) then (thalwegref01_Get.l0 k2 l0 a1 a2 (wrap64 ((wrap64 (256 * x9_2)) + (wrap64 (rd l0 (ji11))))) (wrap64 (x10_2 + 1))) else (none)) else (none)) = some (r1, r2, r3) := by first | (rw [hji11] at H; exact H) | (simp only [hji11] at H ⊢; exact H)
                have hji11w : (IntKind.i64.wrap (a1 + x10_2)) = ji11 := (i64_w _).trans hji11
                by_cases c12 : 0 ≤ (ji11)
                rotate_left
                · rw [if_neg c12] at H
                  exact absurd H (by simp)
                rw [if_pos c12] at H
                have c12b0 : decide (0 ≤ (ji11)) = true := decide_eq_true c12
                clear c12
                by_cases c13 : (ji11) < (l0.length : Int)
                rotate_left
                · rw [if_neg c13] at H
                  exact absurd H (by simp)
                rw [if_pos c13] at H
                have c13b0 : decide ((ji11) < (l0.length : Int)) = true := decide_eq_true c13
                clear c13
                have H' := Aside0.mk H
                clear H
                have p117 : 0 ≤ ((ji11) : Int) := of_decide_eq_true (by first | (with_reducible assumption) | assumption)
                have q117 : (ji11) < (l0.length : Int) := of_decide_eq_true (by first | (with_reducible assumption) | assumption)
                obtain ⟨ad117, e117, hx117_0⟩ := Kd.at_int HR0.out (ji11) p117 q117
                cases e117
                replace p117 := eq_true p117
                replace q117 := eq_true q117
                go_wp2
                go_roundg k2
                case measure => have := HJ3.out; have := HK2.out; omega
                case rel => exact ⟨(wrap64 ((wrap64 (256 * x9_2)) + (wrap64 (rd l0 (ji11))))), (wrap64 (x10_2 + 1)), (by first | rfl | (simp; done) | (simp only [← hji11] <;> (first | rfl | simp)) | (simp [*]; done)), (by first | rfl | (simp; done) | (simp [*]; done)), H', ⟨by have := HJ3.out; have := HK2.out; omega⟩, by repeat (first | exact Drawn0.refl _ | apply Drawn0.step)⟩
              · rw [if_neg c10] at H
                have c10b0 : decide (x10_2 < a2) = false := decide_eq_false c10
                clear c10
                simp only [Option.some.injEq, Prod.mk.injEq] at H
                obtain ⟨rfl, rfl, rfl⟩ := H
                go_wp2
                go_ret3
                exact ⟨by first | rfl | (simp; done) | (simp [*]; done), by repeat (first | exact Drawn0.refl _ | apply Drawn0.step)⟩
end Go.Proofs.Ytaiklcpmlkpfjaa.P
