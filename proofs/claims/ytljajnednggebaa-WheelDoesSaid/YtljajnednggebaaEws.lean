/- Layer 11: (*Wheel).Set. -/
import Derived.Test.YtljajnednggebaaEwd
namespace Go.Proofs.Ytljajnednggebaa.P
set_option linter.unusedSimpArgs false
set_option linter.unusedVariables false
open Go.RowKit Go.Maps Go.Proofs.YtljajnednggebaaW.PrintWords Go.Proofs.YtljajnednggebaaW.PrintLast Go.Proofs.YtljajnednggebaaW.PrintMore
theorem lit1_step {P : Program} {ops : Array Oper} {o : Oper} {a : Act} {Q : Exit → Act → World → Prop} {Kc : Act → World → Prop} {W : World} (hw : Region.wanted o (yielded ops a.tmps) = true) {N : Tmp} (_hd : o.dst = some N) {cs : Array Value} {t : TypeId} {n : Nat}
    (hrun : (execOp a.eval o).run P W = .ok (.value (.slice (some ⟨W.heap.size, 0, none⟩) n n)) (W.alloc (.cells cs t (0, 0))))
    (h : ∀ g, g = W.heap.size → ∀ w1, w1.heap[g]? = some (.cells cs t (0, 0)) → Below W.heap.size W w1 → Kc (a.put o.dst (.slice (some ⟨g, 0, none⟩) n n)) w1) : if Region.wanted o (yielded ops a.tmps) = true then Oper.wp P o a W Kc Q else Kc (a.put o.dst undef) W :=
  event_step hw hrun (h _ rfl _ (blk_new W _) (below_alloc (Below.refl _ _) _))
theorem R_some {w : World} {base : Nat} {ok : Nat → Prop} {v : Value} {X : List S35} (h : k35.R 35 w base ok v X) : ∃ A m c, v = .slice A m c := by
  obtain ⟨A, c, e, _⟩ := Kd.R_reads h
  exact ⟨A, _, c, e⟩
theorem ins_ab (A : Option Addr) (c i : Nat) (X : List S35) (x0 x1 : Int) (h : Nat) (w : World) (base : Nat) (hR : k35.R 35 w base (fun _ => True) (.slice A X.length c) X) (hbs : base ≤ w.heap.size) (hv : w.heap[h]? = some (.cells #[.int .i64 x0, .int .i64 x1] 35 (0, 0))) (hne : some h ≠ (Value.slice A X.length c).ownBlock) (hl : X.length ≤ 1000000000000) (hi : i ≤ X.length) :
    Calls Try.prog 25 #[.slice A X.length c, .int .i64 i, .slice (some ⟨h, 0, none⟩) 1 1] w fun e w' => ∃ v', e = .returned v' ∧ k35.R 35 w' base (fun _ => True) v' (X.take i ++ ⟨x0, x1⟩ :: X.drop i) ∧ w.grownBy w' (Value.slice A X.length c).ownBlock ∧ (v'.ownBlock = (Value.slice A X.length c).ownBlock ∨ ∃ b, v'.ownBlock = some b ∧ w.heap.size ≤ b) :=
  ins_any A c i X ⟨x0, x1⟩ h w base hR hbs hv hne hl hi
theorem Wm.wh {w0 ws w : World} {F : Nat → Prop} {g gm N : Nat} {u : Value} {L : List S35} (h : Wm w0 ws F w g gm N u u L L) (ho : Okt L) : Wh w0 ws F w g N L := ⟨ho, .inr ⟨gm, u, h⟩⟩
theorem mapOf_put {E : DataW Unit} {L : List S35} {key t : Int} (hm : IsMap E) (h : MapOf E L) (hn : tm L key = none) : MapOf (E.put (KI key) (.lit (.int .i64 t))) (putL L ⟨t, key⟩) := by
  intro k2 hk2
  rw [tm_put L k2 ((tm_none L).1 hn)]
  by_cases e : k2 = key
  · subst e
    rw [if_pos rfl]
    refine ⟨fun a ha => ?_, fun hh => by cases hh⟩
    injection ha with ha
    subst ha
    exact ⟨has_put_same hm (by simp [WideAt.IsKeyLit]) _, atKey_put_same hm (by simp [WideAt.IsKeyLit]) _ _⟩
  · rw [if_neg (fun he => e he.symm)]
    obtain ⟨h1, h2⟩ := h k2 hk2
    refine ⟨fun a ha => ?_, fun hn => ?_⟩
    · rw [has_put_other (KI_ne e), atKey_put_other (KI_ne e)]; exact h1 a ha
    · rw [has_put_other (KI_ne e)]; exact h2 hn
theorem drop_shorter {L : List S35} {key a : Int} (hs : TS L) (hk : KD L) (h : tm L key = some a) : (dropL L key).length < L.length := by
  obtain ⟨k, _, hkl, he⟩ := drop_at key a L hs hk h
  rw [← he, List.length_eraseIdx_of_lt hkl]
  omega
theorem okt_put {L : List S35} (h : Okt L) (key t : Int) (hk : wf64 key) (ht : wf64 t) (hl : (dropL L key).length < 1024) : Okt (setL L key t) := by
  have hd := okt_drop h key
  have hf : ∀ o ∈ dropL L key, o.f1 ≠ key := fun o ho => (mem_dropL.1 ho).2
  refine ⟨ts_putL _ hd.1 hf, kd_putL _ hd.2.1 hf, fun o ho => ?_, ?_⟩
  · rcases (mem_putL _ o).1 ho with rfl | ho
    · exact ⟨ht, hk⟩
    · exact hd.2.2.1 o ho
  · unfold setL
    rw [putL_length]
    omega
def setE (L : List S35) (key t : Int) : Int := if t < 0 ∨ t > 1000000000000 ∨ key < 0 then 1 else if tm L key = none ∧ L.length ≥ 1024 then 8 else 0
def setR (L : List S35) (key t : Int) : List S35 := if setE L key t = 0 then setL L key t else L
set_option maxHeartbeats 8000000 in
set_option maxRecDepth 100000 in
theorem set_bad (g : Nat) (key t : Int) (w : World) (h : t < 0 ∨ (¬ t < 0 ∧ t > 1000000000000) ∨ (¬ t < 0 ∧ ¬ t > 1000000000000 ∧ key < 0)) :
    Calls Try.prog 10 #[.pointer (some ⟨g, 0, none⟩), .int .i64 key, .int .i64 t] w fun e w' => e = .returned (.int .i64 1) ∧ w = w' := by
  rcases h with h1 | ⟨h1, h2⟩ | ⟨h1, h2, h3⟩
  · have q1 : decide (t < 0) = true := decide_eq_true h1
    clear h1
    go_enter Try.func10, Try.ntmps10
    go_wp2
    go_ret
    exact ⟨rfl, rfl⟩
  · have q1 : decide (t < 0) = false := decide_eq_false h1
    have q2 : decide (t > 1000000000000) = true := decide_eq_true h2
    clear h1 h2
    go_enter Try.func10, Try.ntmps10
    go_wp2
    go_ret
    exact ⟨rfl, rfl⟩
  · have q1 : decide (t < 0) = false := decide_eq_false h1
    have q2 : decide (t > 1000000000000) = false := decide_eq_false h2
    have q3 : decide (key < 0) = true := decide_eq_true h3
    clear h1 h2 h3
    go_enter Try.func10, Try.ntmps10
    go_wp2
    go_ret
    exact ⟨rfl, rfl⟩
set_option maxHeartbeats 8000000 in
set_option maxRecDepth 100000 in
theorem set_full {w0 ws w : World} {F : Nat → Prop} {g N : Nat} {L : List S35} (hW : Wh w0 ws F w g N L) (key t : Int) (hk : wf64 key) (h1 : ¬ t < 0) (h2 : ¬ t > 1000000000000) (h3 : ¬ key < 0) (hnone : tm L key = none) (hlen : L.length ≥ 1024) :
    Calls Try.prog 10 #[.pointer (some ⟨g, 0, none⟩), .int .i64 key, .int .i64 t] w fun e w' => e = .returned (.int .i64 8) ∧ ∃ gm u, Wm w0 ws F w' g gm N u u L L := by
  have HW := Aside0.mk hW
  have q1 : decide (t < 0) = false := decide_eq_false h1
  have q2 : decide (t > 1000000000000) = false := decide_eq_false h2
  have q3 : decide (key < 0) = false := decide_eq_false h3
  have q4 : decide ((L.length : Int) ≥ 1024) = true := decide_eq_true (by omega)
  have hnot : ∀ (x : Bool) (w : World), (Op.unary .not (.bool x)).run Try.prog w = .ok (.bool (!x)) w := fun _ _ => rfl
  clear hW h1 h2 h3 hlen
  go_enter Try.func10, Try.ntmps10
  go_wp2_with (first
    | (go_at_call 21; (with_reducible refine (times_any HW.out).mono ?_); rintro x_ w1 ⟨gm, u, rfl, hM⟩; have M1 := Aside0.mk hM; obtain ⟨D, nD, ho, hn, hmo⟩ := hM.mp; have HO := Aside0.mk ho; have HN := Aside0.mk hn; have hmk := hmo key hk; have hhas := hmk.2 hnone; obtain ⟨A5, c5, rfl, _, _⟩ := Kd.R_reads M1.out.row; have r3 := (blk_cell M1.out.b 3).trans rfl; have r4 := (blk_cell M1.out.b 4).trans rfl; clear hM ho hn hmo hmk)
    | (at_lookup; refine wpList_lookup_own_ok_int _ rfl _ _ 61 rfl 3 3 .i64 wlaw3 Try.underlying61 Try.underlying3 (wzero3 _) gm nD D rfl HO.out _ _ rfl (keyOf_int_mk Try.underlying3 hk) ?_; intro cv hat hwc; clear hat hwc))
  go_ret
  exact ⟨rfl, gm, _, M1.out⟩
def wst.T10 : Bool × List (List Nat × List Nat) := (true, [([], []), ([0], [0]), ([1], [1]), ([2], [2]), ([], []), ([3, 4], [3, 4]), ([5], [5]), ([6], [6]), ([6], [6]), ([7, 5, 0, 1, 2, 3, 4, 5, 6, 7], [7]), ([8, 9, 0, 1, 2, 3, 4, 5, 6, 7, 8, 9], [8])])
def wst.B10 : List Nat := [0, 1, 3, 7, 0, 31, 63, 127, 127, 255, 1023]
theorem wst.tab10 : rtab .any (opsOf Try.f10 10) = wst.T10 := by kernel_rfl
theorem wst.bits10 : waitsOk wst.T10.2 wst.B10 = true := by kernel_rfl
def wst.T11 : Bool × List (List Nat × List Nat) := (true, [([], []), ([], []), ([1], [1]), ([2], [2]), ([3], [3]), ([], []), ([], []), ([6], [6]), ([4, 5, 7], [4, 5, 7]), ([0, 0, 1, 2, 3, 4, 5, 6, 7, 8], [0]), ([9, 0, 1, 2, 3, 4, 5, 6, 7, 8], [9]), ([10, 8, 8, 0, 1, 2, 3, 4, 5, 6, 7, 8], [8, 10])])
def wst.B11 : List Nat := [0, 0, 2, 6, 14, 0, 0, 64, 254, 511, 1023, 2047]
theorem wst.tab11 : rtab .any (opsOf Try.f10 11) = wst.T11 := by kernel_rfl
theorem wst.bits11 : waitsOk wst.T11.2 wst.B11 = true := by kernel_rfl
set_option maxHeartbeats 8000000 in
set_option maxRecDepth 100000 in
theorem set_old {w0 ws w : World} {F : Nat → Prop} {g N : Nat} {L : List S35} (hW : Wh w0 ws F w g N L) (hN : N ≤ 1000000000) (key t : Int) (hk : wf64 key) (ht : wf64 t) (h1 : ¬ t < 0) (h2 : ¬ t > 1000000000000) (h3 : ¬ key < 0) (a : Int) (hsome : tm L key = some a) :
    Calls Try.prog 10 #[.pointer (some ⟨g, 0, none⟩), .int .i64 key, .int .i64 t] w fun e w' => e = .returned (.int .i64 0) ∧ Wh w0 ws F w' g (N + 1) (setL L key t) := by
  have HW := Aside0.mk hW
  have HOK := Aside0.mk hW.1
  have HNN := Aside0.mk hN
  obtain ⟨k, hka, hkl, hput⟩ := put_at ⟨t, key⟩ (dropL L key) (ts_dropL key hW.1.1)
  have HKA := Aside0.mk hka
  have HKL := Aside0.mk hkl
  have HPU := Aside0.mk hput
  have HLN := Aside0.mk (show (dropL L key).length ≤ 1000000000000 by have := hW.1.2.2.2; have := drop_length L key; omega)
  have q1 : decide (t < 0) = false := decide_eq_false h1
  have q2 : decide (t > 1000000000000) = false := decide_eq_false h2
  have q3 : decide (key < 0) = false := decide_eq_false h3
  have hnot : ∀ (x : Bool) (w : World), (Op.unary .not (.bool x)).run Try.prog w = .ok (.bool (!x)) w := fun _ _ => rfl
  have HSO := Aside0.mk (drop_shorter hW.1.1 hW.1.2.1 hsome)
  clear hW hka hkl hput h1 h2 h3 hN
  go_enter Try.func10, Try.ntmps10
  go_upto_region 10 with (first
    | (go_at_call 21; (with_reducible refine (times_any HW.out).mono ?_); rintro x_ w1 ⟨gm, u, rfl, hM⟩; have M1 := Aside0.mk hM; obtain ⟨D, nD, ho, hn, hmo⟩ := hM.mp; have HO := Aside0.mk ho; have HN := Aside0.mk hn; have hmk := hmo key hk; have hhas := (hmk.1 a hsome).1; obtain ⟨A5, c5, rfl, _, _⟩ := Kd.R_reads M1.out.row; have r3 := (blk_cell M1.out.b 3).trans rfl; have r4 := (blk_cell M1.out.b 4).trans rfl; clear hM ho hn hmo hmk)
    | (at_lookup; refine wpList_lookup_own_ok_int _ rfl _ _ 61 rfl 3 3 .i64 wlaw3 Try.underlying61 Try.underlying3 (wzero3 _) gm nD D rfl HO.out _ _ rfl (keyOf_int_mk Try.underlying3 hk) ?_; intro cv hat hwc; clear hat hwc)
    | (go_at_call 22; (with_reducible refine (drop_any (M1.out.wh HOK.out) key hk).mono ?_); rintro x_ w2 ⟨rfl, gm2, u2, hm2⟩; obtain ⟨A6, c6, rfl, _, _⟩ := Kd.R_reads hm2.row; have M2 := Aside0.mk hm2; clear hm2)
    | ((with_reducible refine gate_dst (N := 9) rfl ?_); refine box_event ?hg (N := 9) ?hd (cs := #[.int .i64 0, .int .i64 0]) (t := 35) ?hr ?_; (case hd => rfl); (case hg => rfl); (case hr => first | (go_simp; done) | (go_simp; rfl)); intro gt hg w3 hbox hb; have M3 := Aside0.mk (M2.out.below (show Below w2.heap.size w2 ((w3.setCell ⟨gt, 0, none⟩ (.int .i64 t)).setCell ⟨gt, 1, none⟩ (.int .i64 key)) from below_set (below_set hb (Nat.le_of_eq hg.symm)) (Nat.le_of_eq hg.symm))); have BT3 := Aside0.mk (blk_put (blk_put hbox 0 (.int .i64 t) (cs' := #[.int .i64 t, .int .i64 0]) rfl) 1 (.int .i64 key) (cs' := #[.int .i64 t, .int .i64 key]) rfl); have a0 := (blk_cell hbox 0).trans rfl; have a1 := (blk_cell hbox 1).trans rfl; have af0 := blk_frozen hbox 0; have af1 := blk_frozen hbox 1; clear hb hbox hg))
  have z3 := (blk_cell M3.out.b 3).trans rfl
  have z0 := (blk_cell BT3.out 0).trans rfl
  have z1 := (blk_cell BT3.out 1).trans rfl
  refine start_ (n := 11) (S := fun w' => w'.cell? ⟨g, 3, none⟩ = some (.slice A6 (dropL L key).length c6) ∧ w'.cell? ⟨gt, 0, none⟩ = some (.int .i64 t) ∧ w'.cell? ⟨gt, 1, none⟩ = some (.int .i64 key)) (ds := [5]) #[false, false, false, false, false, false, false, false, false, false, false] (by kernel_rfl) rfl rfl ⟨z3, z0, z1⟩ (fun hHeld => ?_); refine with_tabW wst.tab10 wst.bits10 (fun HT_ HW_ => ?_)
  refine pure_ (i := 0) (N := some 50) (v := ?_) (a' := ?_) #[true, false, false, false, false, false, false, false, false, false, false] rfl rfl (any_of HT_.out (by kernel_rfl)) (fun _ _ _ h => h) (Or.inl ⟨by rfl, ?_⟩) ?_ ?_
  rotate_left
  · intro w'
    go_simp
    with_reducible rfl
  rotate_left
  · simp only [Act.put, List.setIfInBounds_toArray, List.set_cons_zero, List.set_cons_succ, i64_w, i32_w]
    rfl
  refine pure_ (i := 1) (N := some 51) (v := ?_) (a' := ?_) #[true, true, false, false, false, false, false, false, false, false, false] rfl rfl (any_of HT_.out (by kernel_rfl)) (fun _ _ _ h => h) (Or.inl ⟨by rfl, ?_⟩) ?_ ?_
  rotate_left
  · intro w'
    go_simp
    with_reducible rfl
  rotate_left
  · simp only [Act.put, List.setIfInBounds_toArray, List.set_cons_zero, List.set_cons_succ, i64_w, i32_w]
    rfl
  refine pure_ (i := 2) (N := some 52) (v := ?_) (a' := ?_) #[true, true, true, false, false, false, false, false, false, false, false] rfl rfl (any_of HT_.out (by kernel_rfl)) (fun _ _ _ h => h) (Or.inl ⟨by rfl, ?_⟩) ?_ ?_
  rotate_left
  · intro w'
    go_simp
    with_reducible rfl
  rotate_left
  · simp only [Act.put, List.setIfInBounds_toArray, List.set_cons_zero, List.set_cons_succ, i64_w, i32_w]
    rfl
  refine take_ (i := 3) (N := some 53) (v := ?_) (a' := ?_) #[true, true, true, true, false, false, false, false, false, false, false] rfl rfl (take_ofW HT_.out HW_.out (by kernel_rfl)) (fun _ _ _ h => h) (Or.inl ⟨by rfl, ?_⟩) hHeld ?_ ?_
  rotate_left
  · rintro w' ⟨s0, s1, s2⟩
    go_simp
    with_reducible rfl
  rotate_left
  · simp only [Act.put, List.setIfInBounds_toArray, List.set_cons_zero, List.set_cons_succ, i64_w, i32_w]
    rfl
  refine take_ (i := 4) (N := some 54) (v := ?_) (a' := ?_) #[true, true, true, true, true, false, false, false, false, false, false] rfl rfl (take_ofW HT_.out HW_.out (by kernel_rfl)) (fun _ _ _ h => h) (Or.inl ⟨by rfl, ?_⟩) hHeld ?_ ?_
  rotate_left
  · rintro w' ⟨s0, s1, s2⟩
    go_simp
    with_reducible rfl
  rotate_left
  · simp only [Act.put, List.setIfInBounds_toArray, List.set_cons_zero, List.set_cons_succ, i64_w, i32_w]
    rfl
  refine last_ (i := 5) (N := some 55) #[true, true, true, true, true, true, false, false, false, false, false] rfl rfl (one_of HT_.out (by kernel_rfl)) (by decide) (fun K hK => ?_)
  refine goes_ Try.func23 (by kernel_rfl) rfl #[.slice A6 (dropL L key).length c6, .agg #[.int .i64 t, .int .i64 key], .func (.func 24) #[] #[]] (by rfl) rfl rfl (by simp only [List.map_toArray, List.map_cons, List.map_nil]; rfl) ?_
  with_reducible refine (ts_call A6 c6 t key k (dropL L key) _ (Kd.R_reads' (Kd.R_drew M3.out.row)).2.2 HLN.out HKA.out).mono ?_
  rintro e w4 ⟨bb, rfl, hb⟩
  refine ⟨_, rfl, ?_⟩
  have M4 := Aside0.mk (M3.out.below (below_step (below_drew (Below.refl _ _)) hb))
  have BT4 := Aside0.mk (blk_below (blk_drew BT3.out) hb)
  clear hb
  have c3 := (blk_cell M4.out.b 3).trans rfl
  have b0 := (blk_cell BT4.out 0).trans rfl
  have b1 := (blk_cell BT4.out 1).trans rfl
  refine hK.out _ _ ?_
  clear hK K
  refine norm_ (a' := ?_) ?_ ?_
  rotate_left
  · show Act.put _ (some 55) _ = _
    simp only [Act.put, List.setIfInBounds_toArray, List.set_cons_zero, List.set_cons_succ, i64_w, i32_w]
    rfl
  refine pure_ (i := 6) (N := some 49) (v := ?_) (a' := ?_) #[true, true, true, true, true, true, true, false, false, false, false] rfl rfl (any_of HT_.out (by kernel_rfl)) (fun _ _ _ h => h) (Or.inl ⟨by rfl, ?_⟩) ?_ ?_
  rotate_left
  · intro w'
    go_simp
    with_reducible rfl
  rotate_left
  · simp only [Act.put, List.setIfInBounds_toArray, List.set_cons_zero, List.set_cons_succ, i64_w, i32_w]
    rfl
  refine pure_ (i := 7) (N := some 56) (v := ?_) (a' := ?_) #[true, true, true, true, true, true, true, true, false, false, false] rfl rfl (any_of HT_.out (by kernel_rfl)) (fun _ _ _ h => h) (Or.inl ⟨by rfl, ?_⟩) ?_ ?_
  rotate_left
  · intro w'
    go_simp
    with_reducible rfl
  rotate_left
  · simp only [Act.put, List.setIfInBounds_toArray, List.set_cons_zero, List.set_cons_succ, i64_w, i32_w]
    rfl
  refine pure_ (i := 8) (N := some 57) (v := ?_) (a' := ?_) #[true, true, true, true, true, true, true, true, true, false, false] rfl rfl (any_of HT_.out (by kernel_rfl)) (fun _ _ _ h => h) (Or.inl ⟨by rfl, ?_⟩) ?_ ?_
  rotate_left
  · intro w'
    go_simp
    with_reducible rfl
  rotate_left
  · simp only [Act.put, List.setIfInBounds_toArray, List.set_cons_zero, List.set_cons_succ, i64_w, i32_w]
    rfl
  refine pure_ (i := 9) (N := some 10) (v := ?_) (a' := ?_) #[true, true, true, true, true, true, true, true, true, true, false] rfl rfl (any_of HT_.out (by kernel_rfl)) (fun _ _ _ h => h) (Or.inl ⟨by rfl, ?_⟩) ?_ ?_
  rotate_left
  · intro w'
    go_simp
    with_reducible rfl
  rotate_left
  · simp only [Act.put, List.setIfInBounds_toArray, List.set_cons_zero, List.set_cons_succ, i64_w, i32_w]
    rfl
  refine pure_ (i := 10) (N := some 11) (v := ?_) (a' := ?_) #[true, true, true, true, true, true, true, true, true, true, true] rfl rfl (any_of HT_.out (by kernel_rfl)) (fun _ _ _ h => h) (Or.inl ⟨by rfl, ?_⟩) ?_ ?_
  rotate_left
  · intro w'
    go_simp
    with_reducible rfl
  rotate_left
  · simp only [Act.put, List.setIfInBounds_toArray, List.set_cons_zero, List.set_cons_succ, i64_w, i32_w]
    rfl
  refine done_ (done_of HT_.out (by kernel_rfl)) ?_
  go_upto_region 11 with (fail)
  refine start_ (n := 12) (S := fun w' => w'.cell? ⟨g, 3, none⟩ = some (.slice A6 (dropL L key).length c6) ∧ w'.cell? ⟨gt, 0, none⟩ = some (.int .i64 t) ∧ w'.cell? ⟨gt, 1, none⟩ = some (.int .i64 key)) (ds := [8, 11]) #[false, false, false, false, false, false, false, false, false, false, false, false] (by kernel_rfl) rfl rfl ⟨c3, b0, b1⟩ (fun hHeld => ?_); refine with_tabW wst.tab11 wst.bits11 (fun HT_ HW_ => ?_)
  refine pure_ (i := 0) (N := some 58) (v := ?_) (a' := ?_) #[true, false, false, false, false, false, false, false, false, false, false, false] rfl rfl (any_of HT_.out (by kernel_rfl)) (fun _ _ _ h => h) (Or.inl ⟨by rfl, ?_⟩) ?_ ?_
  rotate_left
  · intro w'
    go_simp
    with_reducible rfl
  rotate_left
  · simp only [Act.put, List.setIfInBounds_toArray, List.set_cons_zero, List.set_cons_succ, i64_w, i32_w]
    rfl
  refine pure_ (i := 1) (N := some 59) (v := ?_) (a' := ?_) #[true, true, false, false, false, false, false, false, false, false, false, false] rfl rfl (any_of HT_.out (by kernel_rfl)) (fun _ _ _ h => h) (Or.inl ⟨by rfl, ?_⟩) ?_ ?_
  rotate_left
  · intro w'
    go_simp
    with_reducible rfl
  rotate_left
  · simp only [Act.put, List.setIfInBounds_toArray, List.set_cons_zero, List.set_cons_succ, i64_w, i32_w]
    rfl
  refine pure_ (i := 2) (N := some 60) (v := ?_) (a' := ?_) #[true, true, true, false, false, false, false, false, false, false, false, false] rfl rfl (any_of HT_.out (by kernel_rfl)) (fun _ _ _ h => h) (Or.inl ⟨by rfl, ?_⟩) ?_ ?_
  rotate_left
  · intro w'
    go_simp
    with_reducible rfl
  rotate_left
  · simp only [Act.put, List.setIfInBounds_toArray, List.set_cons_zero, List.set_cons_succ, i64_w, i32_w]
    rfl
  refine pure_ (i := 3) (N := some 61) (v := ?_) (a' := ?_) #[true, true, true, true, false, false, false, false, false, false, false, false] rfl rfl (any_of HT_.out (by kernel_rfl)) (fun _ _ _ h => h) (Or.inl ⟨by rfl, ?_⟩) ?_ ?_
  rotate_left
  · intro w'
    go_simp
    with_reducible rfl
  rotate_left
  · simp only [Act.put, List.setIfInBounds_toArray, List.set_cons_zero, List.set_cons_succ, i64_w, i32_w]
    rfl
  refine pure_ (i := 5) (N := some 63) (v := ?_) (a' := ?_) #[true, true, true, true, false, true, false, false, false, false, false, false] rfl rfl (any_of HT_.out (by kernel_rfl)) (fun _ _ _ h => h) (Or.inl ⟨by rfl, ?_⟩) ?_ ?_
  rotate_left
  · intro w'
    go_simp
    with_reducible rfl
  rotate_left
  · simp only [Act.put, List.setIfInBounds_toArray, List.set_cons_zero, List.set_cons_succ, i64_w, i32_w]
    rfl
  refine take_ (i := 4) (N := some 62) (v := ?_) (a' := ?_) #[true, true, true, true, true, true, false, false, false, false, false, false] rfl rfl (take_ofW HT_.out HW_.out (by kernel_rfl)) (fun _ _ _ h => h) (Or.inl ⟨by rfl, ?_⟩) hHeld ?_ ?_
  rotate_left
  · rintro w' ⟨s0, s1, s2⟩
    go_simp
    with_reducible rfl
  rotate_left
  · simp only [Act.put, List.setIfInBounds_toArray, List.set_cons_zero, List.set_cons_succ, i64_w, i32_w]
    rfl
  refine take_ (i := 6) (N := some 64) (v := ?_) (a' := ?_) #[true, true, true, true, true, true, true, false, false, false, false, false] rfl rfl (take_ofW HT_.out HW_.out (by kernel_rfl)) (fun _ _ _ h => h) (Or.inl ⟨by rfl, ?_⟩) hHeld ?_ ?_
  rotate_left
  · rintro w' ⟨s0, s1, s2⟩
    go_simp
    with_reducible rfl
  rotate_left
  · simp only [Act.put, List.setIfInBounds_toArray, List.set_cons_zero, List.set_cons_succ, i64_w, i32_w]
    rfl
  refine one_ (i := 7) (N := some 65) #[true, true, true, true, true, true, true, true, false, false, false, false] rfl rfl (one_of HT_.out (by kernel_rfl)) (by decide) (fun K hK => ?_)
  refine lit1_step ?hg (N := 65) ?hd (cs := #[.int .i64 t, .int .i64 key]) (t := 35) (n := 1) ?hr ?_
  (case hd => rfl)
  (case hg => rfl)
  (case hr => first | (go_simp; done) | (go_simp; rfl))
  intro gl hgl w5 hbox hb
  have M5 := Aside0.mk (M4.out.below (below_step (below_drew (Below.refl _ _)) hb))
  have BG := Aside0.mk hbox
  have NG := Aside0.mk (show some gl ≠ (Value.slice A6 (dropL L key).length c6).ownBlock by rw [hgl]; exact Kd.R_ne_new (w := w4) M4.out.row 0)
  refine hK.out _ _ ⟨(hb.cell (World.block_lt_of_cell? _ _ hHeld.1)).trans hHeld.1, (hb.cell (World.block_lt_of_cell? _ _ hHeld.2.1)).trans hHeld.2.1, (hb.cell (World.block_lt_of_cell? _ _ hHeld.2.2)).trans hHeld.2.2⟩ (fun hHeld => ?_)
  clear hK K
  refine norm_ (a' := ?_) ?_ ?_
  rotate_left
  · show Act.put _ (some 65) _ = _
    simp only [Act.put, List.setIfInBounds_toArray, List.set_cons_zero, List.set_cons_succ, i64_w, i32_w]
    rfl
  refine last_ (i := 8) (N := some 66) #[true, true, true, true, true, true, true, true, true, false, false, false] rfl rfl (one_of HT_.out (by kernel_rfl)) (by decide) (fun K hK => ?_)
  refine goes_ Try.func25 (by kernel_rfl) rfl #[.slice A6 (dropL L key).length c6, .int .i64 k, .slice (some ⟨gl, 0, none⟩) 1 1] (by rfl) rfl rfl (by simp only [List.map_toArray, List.map_cons, List.map_nil]; rfl) ?_
  with_reducible refine (ins_ab A6 c6 k (dropL L key) t key gl _ w0.heap.size M5.out.row (below_size M5.out.bl) BG.out NG.out HLN.out HKL.out).mono ?_
  rintro e w6 ⟨u6, rfl, hr6, hg6, hat6⟩
  refine ⟨_, rfl, ?_⟩
  obtain ⟨A8, m8, c8, rfl⟩ := R_some hr6
  have M6 := Aside0.mk (M5.out.row' hr6 hg6 hat6)
  clear hr6 hg6 hat6
  have d3 := (blk_cell M6.out.b 3).trans rfl
  have df := blk_frozen M6.out.b 3
  have d4 := (blk_cell M6.out.b 4).trans rfl
  refine hK.out _ _ ?_
  clear hK K
  refine norm_ (a' := ?_) ?_ ?_
  rotate_left
  · show Act.put _ (some 66) _ = _
    simp only [Act.put, List.setIfInBounds_toArray, List.set_cons_zero, List.set_cons_succ, i64_w, i32_w]
    rfl
  refine pure_ (i := 9) (N := some 67) (v := ?_) (a' := ?_) #[true, true, true, true, true, true, true, true, true, true, false, false] rfl rfl (any_of HT_.out (by kernel_rfl)) (fun _ _ _ h => h) (Or.inl ⟨by rfl, ?_⟩) ?_ ?_
  rotate_left
  · intro w'
    go_simp
    with_reducible rfl
  rotate_left
  · simp only [Act.put, List.setIfInBounds_toArray, List.set_cons_zero, List.set_cons_succ, i64_w, i32_w]
    rfl
  refine pure_ (i := 10) (N := some 68) (v := ?_) (a' := ?_) #[true, true, true, true, true, true, true, true, true, true, true, false] rfl rfl (any_of HT_.out (by kernel_rfl)) (fun _ _ _ h => h) (Or.inl ⟨by rfl, ?_⟩) ?_ ?_
  rotate_left
  · intro w'
    go_simp
    with_reducible rfl
  rotate_left
  · simp only [Act.put, List.setIfInBounds_toArray, List.set_cons_zero, List.set_cons_succ, i64_w, i32_w]
    rfl
  refine last_ (i := 11) (N := none) #[true, true, true, true, true, true, true, true, true, true, true, true] rfl rfl (one_of HT_.out (by kernel_rfl)) (by decide) (fun K hK => ?_)
  refine skip_ (w1 := ?_) (by rfl) rfl ?_ ?_
  rotate_left
  · go_simp
    rfl
  refine hK.out _ _ ?_
  clear hK K
  refine done_ (done_of HT_.out (by kernel_rfl)) ?_
  obtain ⟨E, nE, hE, hNE, hME⟩ := M6.out.set.mp
  have M7 := Aside0.mk M6.out.set
  have HE := Aside0.mk hE
  have HNE := Aside0.mk hNE
  have HME := Aside0.mk hME
  clear hE hNE hME
  go_wp2_with (at_mapUpdate; refine wpList_mapUpdate_own _ rfl (.tmp 72) (.tmp 73) (.tmp 74) 61 rfl 3 3 wlaw3 Try.underlying61 (plainElem Try.prog 3) gm2 nE E rfl HE.out (by have := HNE.out; have := HNN.out; unfold maxLen; omega) _ _ _ rfl rfl (keyOf_int_mk Try.underlying3 hk) _ [] (plainElem_int Try.underlying3 ht) ?_; intro w8 ho8 hg8; have M8 := Aside0.mk (M7.out.map hg8 ⟨_, nE + 1, ho8, Nat.succ_le_succ HNE.out, mapOf_put HE.out.isMap HME.out (tm_drop_same L key)⟩); clear ho8 hg8)
  go_ret
  have hf := M8.out
  rw [HPU.out] at hf
  exact ⟨rfl, okt_put HOK.out key t hk ht (by have := HSO.out; have := HOK.out.2.2.2; omega), .inr ⟨gm2, _, hf⟩⟩
set_option maxHeartbeats 8000000 in
set_option maxRecDepth 100000 in
theorem set_new {w0 ws w : World} {F : Nat → Prop} {g N : Nat} {L : List S35} (hW : Wh w0 ws F w g N L) (hN : N ≤ 1000000000) (key t : Int) (hk : wf64 key) (ht : wf64 t) (h1 : ¬ t < 0) (h2 : ¬ t > 1000000000000) (h3 : ¬ key < 0) (hnone : tm L key = none) (hlen : L.length < 1024) :
    Calls Try.prog 10 #[.pointer (some ⟨g, 0, none⟩), .int .i64 key, .int .i64 t] w fun e w' => e = .returned (.int .i64 0) ∧ Wh w0 ws F w' g (N + 1) (setL L key t) := by
  have HW := Aside0.mk hW
  have HOK := Aside0.mk hW.1
  have HNN := Aside0.mk hN
  obtain ⟨k, hka, hkl, hput⟩ := put_at ⟨t, key⟩ (dropL L key) (ts_dropL key hW.1.1)
  have HKA := Aside0.mk hka
  have HKL := Aside0.mk hkl
  have HPU := Aside0.mk hput
  have HLN := Aside0.mk (show (dropL L key).length ≤ 1000000000000 by have := hW.1.2.2.2; have := drop_length L key; omega)
  have q1 : decide (t < 0) = false := decide_eq_false h1
  have q2 : decide (t > 1000000000000) = false := decide_eq_false h2
  have q3 : decide (key < 0) = false := decide_eq_false h3
  have hnot : ∀ (x : Bool) (w : World), (Op.unary .not (.bool x)).run Try.prog w = .ok (.bool (!x)) w := fun _ _ => rfl
  have HSO := Aside0.mk (show (dropL L key).length < 1024 by have := drop_length L key; omega)
  have q4 : decide ((L.length : Int) ≥ 1024) = false := decide_eq_false (by omega)
  clear hlen
  clear hW hka hkl hput h1 h2 h3 hN
  go_enter Try.func10, Try.ntmps10
  go_upto_region 10 with (first
    | (go_at_call 21; (with_reducible refine (times_any HW.out).mono ?_); rintro x_ w1 ⟨gm, u, rfl, hM⟩; have M1 := Aside0.mk hM; obtain ⟨D, nD, ho, hn, hmo⟩ := hM.mp; have HO := Aside0.mk ho; have HN := Aside0.mk hn; have hmk := hmo key hk; have hhas := hmk.2 hnone; obtain ⟨A5, c5, rfl, _, _⟩ := Kd.R_reads M1.out.row; have r3 := (blk_cell M1.out.b 3).trans rfl; have r4 := (blk_cell M1.out.b 4).trans rfl; clear hM ho hn hmo hmk)
    | (at_lookup; refine wpList_lookup_own_ok_int _ rfl _ _ 61 rfl 3 3 .i64 wlaw3 Try.underlying61 Try.underlying3 (wzero3 _) gm nD D rfl HO.out _ _ rfl (keyOf_int_mk Try.underlying3 hk) ?_; intro cv hat hwc; clear hat hwc)
    | (go_at_call 22; (with_reducible refine (drop_any (M1.out.wh HOK.out) key hk).mono ?_); rintro x_ w2 ⟨rfl, gm2, u2, hm2⟩; obtain ⟨A6, c6, rfl, _, _⟩ := Kd.R_reads hm2.row; have M2 := Aside0.mk hm2; clear hm2)
    | ((with_reducible refine gate_dst (N := 9) rfl ?_); refine box_event ?hg (N := 9) ?hd (cs := #[.int .i64 0, .int .i64 0]) (t := 35) ?hr ?_; (case hd => rfl); (case hg => rfl); (case hr => first | (go_simp; done) | (go_simp; rfl)); intro gt hg w3 hbox hb; have M3 := Aside0.mk (M2.out.below (show Below w2.heap.size w2 ((w3.setCell ⟨gt, 0, none⟩ (.int .i64 t)).setCell ⟨gt, 1, none⟩ (.int .i64 key)) from below_set (below_set hb (Nat.le_of_eq hg.symm)) (Nat.le_of_eq hg.symm))); have BT3 := Aside0.mk (blk_put (blk_put hbox 0 (.int .i64 t) (cs' := #[.int .i64 t, .int .i64 0]) rfl) 1 (.int .i64 key) (cs' := #[.int .i64 t, .int .i64 key]) rfl); have a0 := (blk_cell hbox 0).trans rfl; have a1 := (blk_cell hbox 1).trans rfl; have af0 := blk_frozen hbox 0; have af1 := blk_frozen hbox 1; clear hb hbox hg))
  have z3 := (blk_cell M3.out.b 3).trans rfl
  have z0 := (blk_cell BT3.out 0).trans rfl
  have z1 := (blk_cell BT3.out 1).trans rfl
  refine start_ (n := 11) (S := fun w' => w'.cell? ⟨g, 3, none⟩ = some (.slice A6 (dropL L key).length c6) ∧ w'.cell? ⟨gt, 0, none⟩ = some (.int .i64 t) ∧ w'.cell? ⟨gt, 1, none⟩ = some (.int .i64 key)) (ds := [5]) #[false, false, false, false, false, false, false, false, false, false, false] (by kernel_rfl) rfl rfl ⟨z3, z0, z1⟩ (fun hHeld => ?_); refine with_tabW wst.tab10 wst.bits10 (fun HT_ HW_ => ?_)
  refine pure_ (i := 0) (N := some 50) (v := ?_) (a' := ?_) #[true, false, false, false, false, false, false, false, false, false, false] rfl rfl (any_of HT_.out (by kernel_rfl)) (fun _ _ _ h => h) (Or.inl ⟨by rfl, ?_⟩) ?_ ?_
  rotate_left
  · intro w'
    go_simp
    with_reducible rfl
  rotate_left
  · simp only [Act.put, List.setIfInBounds_toArray, List.set_cons_zero, List.set_cons_succ, i64_w, i32_w]
    rfl
  refine pure_ (i := 1) (N := some 51) (v := ?_) (a' := ?_) #[true, true, false, false, false, false, false, false, false, false, false] rfl rfl (any_of HT_.out (by kernel_rfl)) (fun _ _ _ h => h) (Or.inl ⟨by rfl, ?_⟩) ?_ ?_
  rotate_left
  · intro w'
    go_simp
    with_reducible rfl
  rotate_left
  · simp only [Act.put, List.setIfInBounds_toArray, List.set_cons_zero, List.set_cons_succ, i64_w, i32_w]
    rfl
  refine pure_ (i := 2) (N := some 52) (v := ?_) (a' := ?_) #[true, true, true, false, false, false, false, false, false, false, false] rfl rfl (any_of HT_.out (by kernel_rfl)) (fun _ _ _ h => h) (Or.inl ⟨by rfl, ?_⟩) ?_ ?_
  rotate_left
  · intro w'
    go_simp
    with_reducible rfl
  rotate_left
  · simp only [Act.put, List.setIfInBounds_toArray, List.set_cons_zero, List.set_cons_succ, i64_w, i32_w]
    rfl
  refine take_ (i := 3) (N := some 53) (v := ?_) (a' := ?_) #[true, true, true, true, false, false, false, false, false, false, false] rfl rfl (take_ofW HT_.out HW_.out (by kernel_rfl)) (fun _ _ _ h => h) (Or.inl ⟨by rfl, ?_⟩) hHeld ?_ ?_
  rotate_left
  · rintro w' ⟨s0, s1, s2⟩
    go_simp
    with_reducible rfl
  rotate_left
  · simp only [Act.put, List.setIfInBounds_toArray, List.set_cons_zero, List.set_cons_succ, i64_w, i32_w]
    rfl
  refine take_ (i := 4) (N := some 54) (v := ?_) (a' := ?_) #[true, true, true, true, true, false, false, false, false, false, false] rfl rfl (take_ofW HT_.out HW_.out (by kernel_rfl)) (fun _ _ _ h => h) (Or.inl ⟨by rfl, ?_⟩) hHeld ?_ ?_
  rotate_left
  · rintro w' ⟨s0, s1, s2⟩
    go_simp
    with_reducible rfl
  rotate_left
  · simp only [Act.put, List.setIfInBounds_toArray, List.set_cons_zero, List.set_cons_succ, i64_w, i32_w]
    rfl
  refine last_ (i := 5) (N := some 55) #[true, true, true, true, true, true, false, false, false, false, false] rfl rfl (one_of HT_.out (by kernel_rfl)) (by decide) (fun K hK => ?_)
  refine goes_ Try.func23 (by kernel_rfl) rfl #[.slice A6 (dropL L key).length c6, .agg #[.int .i64 t, .int .i64 key], .func (.func 24) #[] #[]] (by rfl) rfl rfl (by simp only [List.map_toArray, List.map_cons, List.map_nil]; rfl) ?_
  with_reducible refine (ts_call A6 c6 t key k (dropL L key) _ (Kd.R_reads' (Kd.R_drew M3.out.row)).2.2 HLN.out HKA.out).mono ?_
  rintro e w4 ⟨bb, rfl, hb⟩
  refine ⟨_, rfl, ?_⟩
  have M4 := Aside0.mk (M3.out.below (below_step (below_drew (Below.refl _ _)) hb))
  have BT4 := Aside0.mk (blk_below (blk_drew BT3.out) hb)
  clear hb
  have c3 := (blk_cell M4.out.b 3).trans rfl
  have b0 := (blk_cell BT4.out 0).trans rfl
  have b1 := (blk_cell BT4.out 1).trans rfl
  refine hK.out _ _ ?_
  clear hK K
  refine norm_ (a' := ?_) ?_ ?_
  rotate_left
  · show Act.put _ (some 55) _ = _
    simp only [Act.put, List.setIfInBounds_toArray, List.set_cons_zero, List.set_cons_succ, i64_w, i32_w]
    rfl
  refine pure_ (i := 6) (N := some 49) (v := ?_) (a' := ?_) #[true, true, true, true, true, true, true, false, false, false, false] rfl rfl (any_of HT_.out (by kernel_rfl)) (fun _ _ _ h => h) (Or.inl ⟨by rfl, ?_⟩) ?_ ?_
  rotate_left
  · intro w'
    go_simp
    with_reducible rfl
  rotate_left
  · simp only [Act.put, List.setIfInBounds_toArray, List.set_cons_zero, List.set_cons_succ, i64_w, i32_w]
    rfl
  refine pure_ (i := 7) (N := some 56) (v := ?_) (a' := ?_) #[true, true, true, true, true, true, true, true, false, false, false] rfl rfl (any_of HT_.out (by kernel_rfl)) (fun _ _ _ h => h) (Or.inl ⟨by rfl, ?_⟩) ?_ ?_
  rotate_left
  · intro w'
    go_simp
    with_reducible rfl
  rotate_left
  · simp only [Act.put, List.setIfInBounds_toArray, List.set_cons_zero, List.set_cons_succ, i64_w, i32_w]
    rfl
  refine pure_ (i := 8) (N := some 57) (v := ?_) (a' := ?_) #[true, true, true, true, true, true, true, true, true, false, false] rfl rfl (any_of HT_.out (by kernel_rfl)) (fun _ _ _ h => h) (Or.inl ⟨by rfl, ?_⟩) ?_ ?_
  rotate_left
  · intro w'
    go_simp
    with_reducible rfl
  rotate_left
  · simp only [Act.put, List.setIfInBounds_toArray, List.set_cons_zero, List.set_cons_succ, i64_w, i32_w]
    rfl
  refine pure_ (i := 9) (N := some 10) (v := ?_) (a' := ?_) #[true, true, true, true, true, true, true, true, true, true, false] rfl rfl (any_of HT_.out (by kernel_rfl)) (fun _ _ _ h => h) (Or.inl ⟨by rfl, ?_⟩) ?_ ?_
  rotate_left
  · intro w'
    go_simp
    with_reducible rfl
  rotate_left
  · simp only [Act.put, List.setIfInBounds_toArray, List.set_cons_zero, List.set_cons_succ, i64_w, i32_w]
    rfl
  refine pure_ (i := 10) (N := some 11) (v := ?_) (a' := ?_) #[true, true, true, true, true, true, true, true, true, true, true] rfl rfl (any_of HT_.out (by kernel_rfl)) (fun _ _ _ h => h) (Or.inl ⟨by rfl, ?_⟩) ?_ ?_
  rotate_left
  · intro w'
    go_simp
    with_reducible rfl
  rotate_left
  · simp only [Act.put, List.setIfInBounds_toArray, List.set_cons_zero, List.set_cons_succ, i64_w, i32_w]
    rfl
  refine done_ (done_of HT_.out (by kernel_rfl)) ?_
  go_upto_region 11 with (fail)
  refine start_ (n := 12) (S := fun w' => w'.cell? ⟨g, 3, none⟩ = some (.slice A6 (dropL L key).length c6) ∧ w'.cell? ⟨gt, 0, none⟩ = some (.int .i64 t) ∧ w'.cell? ⟨gt, 1, none⟩ = some (.int .i64 key)) (ds := [8, 11]) #[false, false, false, false, false, false, false, false, false, false, false, false] (by kernel_rfl) rfl rfl ⟨c3, b0, b1⟩ (fun hHeld => ?_); refine with_tabW wst.tab11 wst.bits11 (fun HT_ HW_ => ?_)
  refine pure_ (i := 0) (N := some 58) (v := ?_) (a' := ?_) #[true, false, false, false, false, false, false, false, false, false, false, false] rfl rfl (any_of HT_.out (by kernel_rfl)) (fun _ _ _ h => h) (Or.inl ⟨by rfl, ?_⟩) ?_ ?_
  rotate_left
  · intro w'
    go_simp
    with_reducible rfl
  rotate_left
  · simp only [Act.put, List.setIfInBounds_toArray, List.set_cons_zero, List.set_cons_succ, i64_w, i32_w]
    rfl
  refine pure_ (i := 1) (N := some 59) (v := ?_) (a' := ?_) #[true, true, false, false, false, false, false, false, false, false, false, false] rfl rfl (any_of HT_.out (by kernel_rfl)) (fun _ _ _ h => h) (Or.inl ⟨by rfl, ?_⟩) ?_ ?_
  rotate_left
  · intro w'
    go_simp
    with_reducible rfl
  rotate_left
  · simp only [Act.put, List.setIfInBounds_toArray, List.set_cons_zero, List.set_cons_succ, i64_w, i32_w]
    rfl
  refine pure_ (i := 2) (N := some 60) (v := ?_) (a' := ?_) #[true, true, true, false, false, false, false, false, false, false, false, false] rfl rfl (any_of HT_.out (by kernel_rfl)) (fun _ _ _ h => h) (Or.inl ⟨by rfl, ?_⟩) ?_ ?_
  rotate_left
  · intro w'
    go_simp
    with_reducible rfl
  rotate_left
  · simp only [Act.put, List.setIfInBounds_toArray, List.set_cons_zero, List.set_cons_succ, i64_w, i32_w]
    rfl
  refine pure_ (i := 3) (N := some 61) (v := ?_) (a' := ?_) #[true, true, true, true, false, false, false, false, false, false, false, false] rfl rfl (any_of HT_.out (by kernel_rfl)) (fun _ _ _ h => h) (Or.inl ⟨by rfl, ?_⟩) ?_ ?_
  rotate_left
  · intro w'
    go_simp
    with_reducible rfl
  rotate_left
  · simp only [Act.put, List.setIfInBounds_toArray, List.set_cons_zero, List.set_cons_succ, i64_w, i32_w]
    rfl
  refine pure_ (i := 5) (N := some 63) (v := ?_) (a' := ?_) #[true, true, true, true, false, true, false, false, false, false, false, false] rfl rfl (any_of HT_.out (by kernel_rfl)) (fun _ _ _ h => h) (Or.inl ⟨by rfl, ?_⟩) ?_ ?_
  rotate_left
  · intro w'
    go_simp
    with_reducible rfl
  rotate_left
  · simp only [Act.put, List.setIfInBounds_toArray, List.set_cons_zero, List.set_cons_succ, i64_w, i32_w]
    rfl
  refine take_ (i := 4) (N := some 62) (v := ?_) (a' := ?_) #[true, true, true, true, true, true, false, false, false, false, false, false] rfl rfl (take_ofW HT_.out HW_.out (by kernel_rfl)) (fun _ _ _ h => h) (Or.inl ⟨by rfl, ?_⟩) hHeld ?_ ?_
  rotate_left
  · rintro w' ⟨s0, s1, s2⟩
    go_simp
    with_reducible rfl
  rotate_left
  · simp only [Act.put, List.setIfInBounds_toArray, List.set_cons_zero, List.set_cons_succ, i64_w, i32_w]
    rfl
  refine take_ (i := 6) (N := some 64) (v := ?_) (a' := ?_) #[true, true, true, true, true, true, true, false, false, false, false, false] rfl rfl (take_ofW HT_.out HW_.out (by kernel_rfl)) (fun _ _ _ h => h) (Or.inl ⟨by rfl, ?_⟩) hHeld ?_ ?_
  rotate_left
  · rintro w' ⟨s0, s1, s2⟩
    go_simp
    with_reducible rfl
  rotate_left
  · simp only [Act.put, List.setIfInBounds_toArray, List.set_cons_zero, List.set_cons_succ, i64_w, i32_w]
    rfl
  refine one_ (i := 7) (N := some 65) #[true, true, true, true, true, true, true, true, false, false, false, false] rfl rfl (one_of HT_.out (by kernel_rfl)) (by decide) (fun K hK => ?_)
  refine lit1_step ?hg (N := 65) ?hd (cs := #[.int .i64 t, .int .i64 key]) (t := 35) (n := 1) ?hr ?_
  (case hd => rfl)
  (case hg => rfl)
  (case hr => first | (go_simp; done) | (go_simp; rfl))
  intro gl hgl w5 hbox hb
  have M5 := Aside0.mk (M4.out.below (below_step (below_drew (Below.refl _ _)) hb))
  have BG := Aside0.mk hbox
  have NG := Aside0.mk (show some gl ≠ (Value.slice A6 (dropL L key).length c6).ownBlock by rw [hgl]; exact Kd.R_ne_new (w := w4) M4.out.row 0)
  refine hK.out _ _ ⟨(hb.cell (World.block_lt_of_cell? _ _ hHeld.1)).trans hHeld.1, (hb.cell (World.block_lt_of_cell? _ _ hHeld.2.1)).trans hHeld.2.1, (hb.cell (World.block_lt_of_cell? _ _ hHeld.2.2)).trans hHeld.2.2⟩ (fun hHeld => ?_)
  clear hK K
  refine norm_ (a' := ?_) ?_ ?_
  rotate_left
  · show Act.put _ (some 65) _ = _
    simp only [Act.put, List.setIfInBounds_toArray, List.set_cons_zero, List.set_cons_succ, i64_w, i32_w]
    rfl
  refine last_ (i := 8) (N := some 66) #[true, true, true, true, true, true, true, true, true, false, false, false] rfl rfl (one_of HT_.out (by kernel_rfl)) (by decide) (fun K hK => ?_)
  refine goes_ Try.func25 (by kernel_rfl) rfl #[.slice A6 (dropL L key).length c6, .int .i64 k, .slice (some ⟨gl, 0, none⟩) 1 1] (by rfl) rfl rfl (by simp only [List.map_toArray, List.map_cons, List.map_nil]; rfl) ?_
  with_reducible refine (ins_ab A6 c6 k (dropL L key) t key gl _ w0.heap.size M5.out.row (below_size M5.out.bl) BG.out NG.out HLN.out HKL.out).mono ?_
  rintro e w6 ⟨u6, rfl, hr6, hg6, hat6⟩
  refine ⟨_, rfl, ?_⟩
  obtain ⟨A8, m8, c8, rfl⟩ := R_some hr6
  have M6 := Aside0.mk (M5.out.row' hr6 hg6 hat6)
  clear hr6 hg6 hat6
  have d3 := (blk_cell M6.out.b 3).trans rfl
  have df := blk_frozen M6.out.b 3
  have d4 := (blk_cell M6.out.b 4).trans rfl
  refine hK.out _ _ ?_
  clear hK K
  refine norm_ (a' := ?_) ?_ ?_
  rotate_left
  · show Act.put _ (some 66) _ = _
    simp only [Act.put, List.setIfInBounds_toArray, List.set_cons_zero, List.set_cons_succ, i64_w, i32_w]
    rfl
  refine pure_ (i := 9) (N := some 67) (v := ?_) (a' := ?_) #[true, true, true, true, true, true, true, true, true, true, false, false] rfl rfl (any_of HT_.out (by kernel_rfl)) (fun _ _ _ h => h) (Or.inl ⟨by rfl, ?_⟩) ?_ ?_
  rotate_left
  · intro w'
    go_simp
    with_reducible rfl
  rotate_left
  · simp only [Act.put, List.setIfInBounds_toArray, List.set_cons_zero, List.set_cons_succ, i64_w, i32_w]
    rfl
  refine pure_ (i := 10) (N := some 68) (v := ?_) (a' := ?_) #[true, true, true, true, true, true, true, true, true, true, true, false] rfl rfl (any_of HT_.out (by kernel_rfl)) (fun _ _ _ h => h) (Or.inl ⟨by rfl, ?_⟩) ?_ ?_
  rotate_left
  · intro w'
    go_simp
    with_reducible rfl
  rotate_left
  · simp only [Act.put, List.setIfInBounds_toArray, List.set_cons_zero, List.set_cons_succ, i64_w, i32_w]
    rfl
  refine last_ (i := 11) (N := none) #[true, true, true, true, true, true, true, true, true, true, true, true] rfl rfl (one_of HT_.out (by kernel_rfl)) (by decide) (fun K hK => ?_)
  refine skip_ (w1 := ?_) (by rfl) rfl ?_ ?_
  rotate_left
  · go_simp
    rfl
  refine hK.out _ _ ?_
  clear hK K
  refine done_ (done_of HT_.out (by kernel_rfl)) ?_
  obtain ⟨E, nE, hE, hNE, hME⟩ := M6.out.set.mp
  have M7 := Aside0.mk M6.out.set
  have HE := Aside0.mk hE
  have HNE := Aside0.mk hNE
  have HME := Aside0.mk hME
  clear hE hNE hME
  go_wp2_with (at_mapUpdate; refine wpList_mapUpdate_own _ rfl (.tmp 72) (.tmp 73) (.tmp 74) 61 rfl 3 3 wlaw3 Try.underlying61 (plainElem Try.prog 3) gm2 nE E rfl HE.out (by have := HNE.out; have := HNN.out; unfold maxLen; omega) _ _ _ rfl rfl (keyOf_int_mk Try.underlying3 hk) _ [] (plainElem_int Try.underlying3 ht) ?_; intro w8 ho8 hg8; have M8 := Aside0.mk (M7.out.map hg8 ⟨_, nE + 1, ho8, Nat.succ_le_succ HNE.out, mapOf_put HE.out.isMap HME.out (tm_drop_same L key)⟩); clear ho8 hg8)
  go_ret
  have hf := M8.out
  rw [HPU.out] at hf
  exact ⟨rfl, okt_put HOK.out key t hk ht HSO.out, .inr ⟨gm2, _, hf⟩⟩
theorem Wm.wide {w0 ws w : World} {F : Nat → Prop} {g gm N N2 : Nat} {a u : Value} {L M : List S35} (h : Wm w0 ws F w g gm N a u L M) (hn : N ≤ N2) : Wm w0 ws F w g gm N2 a u L M := by
  obtain ⟨D, n, ho, hn2, hm⟩ := h.mp
  exact ⟨h.bl, h.b, h.ng, h.nm, h.row, ⟨D, n, ho, Nat.le_trans hn2 hn, hm⟩, h.fr, h.fg, h.fm, h.fu⟩
theorem Wh.wide {w0 ws w : World} {F : Nat → Prop} {g N N2 : Nat} {L : List S35} (h : Wh w0 ws F w g N L) (hn : N ≤ N2) : Wh w0 ws F w g N2 L := by
  refine ⟨h.1, ?_⟩
  rcases h.2 with h | ⟨gm, u, h⟩
  · exact .inl h
  · exact .inr ⟨gm, u, h.wide hn⟩
theorem set_any {w0 ws w : World} {F : Nat → Prop} {g N : Nat} {L : List S35} (hW : Wh w0 ws F w g N L) (hN : N ≤ 1000000000) (key t : Int) (hk : wf64 key) (ht : wf64 t) :
    Calls Try.prog 10 #[.pointer (some ⟨g, 0, none⟩), .int .i64 key, .int .i64 t] w fun e w' => e = .returned (.int .i64 (setE L key t)) ∧ Wh w0 ws F w' g (N + 1) (setR L key t) := by
  by_cases h1 : t < 0 ∨ t > 1000000000000 ∨ key < 0
  · have e : setE L key t = 1 := if_pos h1
    have e2 : setR L key t = L := by unfold setR; rw [e]; rfl
    rw [e, e2]
    refine (set_bad g key t w ?_).mono ?_
    · by_cases a : t < 0
      · exact .inl a
      · by_cases b : t > 1000000000000
        · exact .inr (.inl ⟨a, b⟩)
        · exact .inr (.inr ⟨a, b, (h1.resolve_left a).resolve_left b⟩)
    · rintro e w' ⟨rfl, rfl⟩
      exact ⟨rfl, hW.wide (Nat.le_succ _)⟩
  · have a : ¬ t < 0 := fun h => h1 (.inl h)
    have b : ¬ t > 1000000000000 := fun h => h1 (.inr (.inl h))
    have c : ¬ key < 0 := fun h => h1 (.inr (.inr h))
    by_cases h2 : tm L key = none ∧ L.length ≥ 1024
    · have e : setE L key t = 8 := by unfold setE; rw [if_neg h1, if_pos h2]
      have e2 : setR L key t = L := by unfold setR; rw [e]; rfl
      rw [e, e2]
      refine (set_full hW key t hk a b c h2.1 h2.2).mono ?_
      rintro e w' ⟨rfl, gm, u, hm⟩
      exact ⟨rfl, hW.1, .inr ⟨gm, u, hm.wide (Nat.le_succ _)⟩⟩
    · have e : setE L key t = 0 := by unfold setE; rw [if_neg h1, if_neg h2]
      have e2 : setR L key t = setL L key t := by unfold setR; rw [e]; rfl
      rw [e, e2]
      cases h3 : tm L key with
      | none => exact set_new hW hN key t hk ht a b c h3 (Nat.lt_of_not_le (fun hh => h2 ⟨h3, hh⟩))
      | some x => exact set_old hW hN key t hk ht a b c x h3
end Go.Proofs.Ytljajnednggebaa.P
