/- Layer 11: a wheel's state; (*Wheel).times, (*Wheel).drop. -/
import Derived.Test.YtljajnednggebaaEtl
import Derived.Test.YtljajnednggebaaEon
namespace Go.Proofs.Ytljajnednggebaa.P
set_option linter.unusedSimpArgs false
set_option linter.unusedVariables false
open Go.RowKit Go.Maps Go.Proofs.YtljajnednggebaaW.PrintWords Go.Proofs.YtljajnednggebaaW.PrintLast Go.Proofs.YtljajnednggebaaW.PrintMore
theorem wlaw3 : Keyed Try.prog 3 := int_keyed Try.underlying3
theorem wzero3 (w : World) : (zeroValue 3).run Try.prog w = .ok (.int .i64 0) w := by kernel_rfl
abbrev wf64 (x : Int) : Prop := (Lit.int .i64 x).wf = true
def Okt (L : List S35) : Prop := TS L ∧ KD L ∧ (∀ o ∈ L, wf64 o.f0 ∧ wf64 o.f1) ∧ L.length ≤ 1024
structure Fr (ws : World) (F : Nat → Prop) (w : World) : Prop where
  sz : ws.heap.size ≤ w.heap.size
  fr : ∀ k, k < ws.heap.size → ¬ F k → w.heap[k]? = ws.heap[k]?
theorem Fr.grown {ws w w' : World} {F : Nat → Prop} {r : Option Nat} (h : Fr ws F w) (hg : w.grownBy w' r) (hr : ∀ k, r = some k → F k ∨ ws.heap.size ≤ k) : Fr ws F w' :=
  ⟨Nat.le_trans h.sz hg.size, fun k hk hn => (hg.block k (Nat.lt_of_lt_of_le hk h.sz) (fun e => (hr k e.symm).elim hn (fun hh => by omega))).trans (h.fr k hk hn)⟩
theorem Fr.below {ws w w' : World} {F : Nat → Prop} (h : Fr ws F w) (hb : Below w.heap.size w w') : Fr ws F w' := h.grown (grown_of_below hb none) (fun k hk => by cases hk)
structure Wm (w0 ws : World) (F : Nat → Prop) (w : World) (g gm N : Nat) (a u : Value) (L M : List S35) : Prop where
  bl : Below w0.heap.size w0 w
  b : w.heap[g]? = some (.cells (WhC 1 a (.map (some gm))) 63 (0, 0))
  ng : w0.heap.size ≤ g
  nm : w0.heap.size ≤ gm
  row : k35.R 35 w w0.heap.size (fun _ => True) u L
  mp : ∃ D n, w.ownsMap Try.prog 3 (plainElem Try.prog 3) gm n D ∧ n ≤ N ∧ MapOf D M
  fr : Fr ws F w
  fg : F g ∨ ws.heap.size ≤ g
  fm : F gm ∨ ws.heap.size ≤ gm
  fu : ∀ k, u.ownBlock = some k → F k ∨ ws.heap.size ≤ k
section
variable {w0 ws w w' : World} {F : Nat → Prop} {g gm N : Nat} {a u : Value} {L M : List S35}
theorem Wm.ne (h : Wm w0 ws F w g gm N a u L M) : gm ≠ g := by
  intro e
  obtain ⟨D, n, ⟨es, cl, hb, _⟩, _⟩ := h.mp
  rw [e, h.b] at hb
  cases hb
theorem Wm.neRow (h : Wm w0 ws F w g gm N a u L M) : some gm ≠ u.ownBlock := by
  intro e
  obtain ⟨D, n, ⟨es, cl, hb, _⟩, _⟩ := h.mp
  obtain ⟨cs, hc⟩ := Kd.R_typed h.row gm e.symm
  rw [hc] at hb
  cases hb
theorem Wm.below (h : Wm w0 ws F w g gm N a u L M) (hb : Below w.heap.size w w') : Wm w0 ws F w' g gm N a u L M := by
  obtain ⟨D, n, ho, hn, hm⟩ := h.mp
  exact ⟨below_step h.bl hb, blk_below h.b hb, h.ng, h.nm, Kd.R_below h.row hb, ⟨D, n, ho.kept (grown_of_below hb none) (by simp), hn, hm⟩, h.fr.below hb, h.fg, h.fm, h.fu⟩
theorem Wm.row' {u2 : Value} {L2 : List S35} (h : Wm w0 ws F w g gm N a u L M) (hr : k35.R 35 w' w0.heap.size (fun _ => True) u2 L2) (hg : w.grownBy w' u.ownBlock) (hat : u2.ownBlock = u.ownBlock ∨ ∃ b, u2.ownBlock = some b ∧ w.heap.size ≤ b) : Wm w0 ws F w' g gm N a u2 L2 M := by
  obtain ⟨D, n, ho, hn, hm⟩ := h.mp
  exact ⟨pw_below_grown h.bl u.ownBlock (below_size h.bl) hg (fun k hk => Kd.R_base h.row k hk), blk_grown h.b hg (Kd.R_ne h.row h.b (by decide)), h.ng, h.nm, hr, ⟨D, n, ho.kept hg h.neRow, hn, hm⟩, h.fr.grown hg (fun k hk => h.fu k hk), h.fg, h.fm, fun k hk => by
      rcases hat with e | ⟨b, e, hb⟩
      · exact h.fu k (e ▸ hk)
      · rw [e] at hk; injection hk with hk; subst hk; exact .inr (Nat.le_trans h.fr.sz hb)⟩
theorem Wm.set (h : Wm w0 ws F w g gm N a u L M) : Wm w0 ws F (w.setCell ⟨g, 3, none⟩ u) g gm N u u L M := by
  obtain ⟨D, n, ho, hn, hm⟩ := h.mp
  exact ⟨below_set h.bl h.ng, blk_put h.b 3 _ rfl, h.ng, h.nm, Kd.R_mono (Kd.R_set h.row h.b (by decide) 3 _) (fun _ _ => trivial), ⟨D, n, ho.setCell h.ne _, hn, hm⟩, h.fr.grown (r := some g) ⟨rfl, rfl, rfl, by simp, fun q _ hq => Below.heap_setCell w ⟨g, 3, none⟩ _ q (fun e => hq (by rw [e]))⟩ (fun k hk => by cases hk; exact h.fg), h.fg, h.fm, h.fu⟩
theorem Wm.map {N2 : Nat} {M2l : List S35} (h : Wm w0 ws F w g gm N a u L M) (hg : w.grownBy w' (some gm)) (hm : ∃ D n, w'.ownsMap Try.prog 3 (plainElem Try.prog 3) gm n D ∧ n ≤ N2 ∧ MapOf D M2l) : Wm w0 ws F w' g gm N2 a u L M2l :=
  ⟨pw_below_grown h.bl (some gm) (below_size h.bl) hg (fun k hk => by cases hk; exact h.nm), blk_grown h.b hg (fun e => h.ne (Option.some.inj e).symm), h.ng, h.nm, Kd.R_grown (Kd.R_mono (Kd.R_bound h.row) (fun k hk => (show k ≠ gm from fun e => by
      obtain ⟨D, n, ⟨es, cl, hb, _⟩, _⟩ := h.mp
      obtain ⟨_, _, _, q, _, cs, hc⟩ := hk
      rw [e, hb] at hc
      cases hc))) hg (fun k hk e => hk (Option.some.inj e)) |> fun hr => Kd.R_mono hr (fun _ _ => trivial), hm, h.fr.grown hg (fun k hk => by cases hk; exact h.fm), h.fg, h.fm, h.fu⟩
end
def Wh (w0 ws : World) (F : Nat → Prop) (w : World) (g N : Nat) (L : List S35) : Prop := Okt L ∧
  ((w.heap[g]? = some (.cells (WhC 0 (.slice none 0 0) (.map none)) 63 (0, 0)) ∧ L = [] ∧ w0.heap.size ≤ g ∧ Below w0.heap.size w0 w ∧ Fr ws F w ∧ (F g ∨ ws.heap.size ≤ g)) ∨ ∃ gm u, Wm w0 ws F w g gm N u u L L)
theorem Wh.bl {w0 ws w : World} {F : Nat → Prop} {g N : Nat} {L : List S35} (h : Wh w0 ws F w g N L) : Below w0.heap.size w0 w := by
  rcases h.2 with ⟨_, _, _, h, _⟩ | ⟨gm, u, h⟩
  · exact h
  · exact h.bl
theorem Wh.below {w0 ws w w' : World} {F : Nat → Prop} {g N : Nat} {L : List S35} (h : Wh w0 ws F w g N L) (hb : Below w.heap.size w w') : Wh w0 ws F w' g N L := by
  refine ⟨h.1, ?_⟩
  rcases h.2 with ⟨h1, h2, h3, h4, h5, h6⟩ | ⟨gm, u, h⟩
  · exact .inl ⟨blk_below h1 hb, h2, h3, below_step h4 hb, h5.below hb, h6⟩
  · exact .inr ⟨gm, u, h.below hb⟩
theorem mapOf_nil : MapOf (.map []) [] := fun key hk => ⟨fun a h => by simp [tm] at h, fun _ => rfl⟩
theorem KI_ne {a b : Int} (h : a ≠ b) : KI a ≠ KI b := fun e => h (by injection e)
theorem mapOf_del {D : DataW Unit} {L : List S35} (h : MapOf D L) (key : Int) : MapOf (D.del (KI key)) (dropL L key) := by
  intro k2 hk2
  by_cases e : k2 = key
  · subst e
    rw [tm_drop_same]
    exact ⟨(fun a h => by cases h), fun _ => has_del_same⟩
  · rw [tm_drop_other L key k2 e]
    obtain ⟨h1, h2⟩ := h k2 hk2
    refine ⟨fun a ha => ?_, fun hn => ?_⟩
    · rw [has_del_other (KI_ne e), atKey_del_other (KI_ne e)]; exact h1 a ha
    · rw [has_del_other (KI_ne e)]; exact h2 hn
theorem look_is {D : DataW Unit} {kl : Lit} {c a : Int} (h : D.atKey kl (.lit (.int .i64 0)) = .lit (.int .i64 c)) (k : D.atKey kl (.lit (.int .i64 0)) = .lit (.int .i64 a)) : c = a := by
  rw [h] at k
  injection k with k
  injection k
theorem times_any {w0 ws w : World} {F : Nat → Prop} {g N : Nat} {L : List S35} (h : Wh w0 ws F w g N L) :
    Calls Try.prog 21 #[.pointer (some ⟨g, 0, none⟩)] w fun e w' => ∃ gm u, e = .returned (.map (some gm)) ∧ Wm w0 ws F w' g gm N u u L L := by
  rcases h.2 with ⟨h1, rfl, h3, h4, h5, h6⟩ | ⟨gm, u, hm⟩
  · refine (times0 g _ _ w h1).mono ?_
    rintro e w' ⟨gm, rfl, hgm, hb, hmp, hg⟩
    obtain ⟨es, cl, hb0, F0, hs0, hD0⟩ := World.ownsMap_made (H := Unit) w Try.prog 3 (plainElem Try.prog 3)
    have he := (blk_new w (.map #[] 0)).symm.trans hb0
    injection he with he
    injection he with he1 he2
    subst he1; subst he2
    refine ⟨gm, .slice none 0 0, rfl, pw_below_grown h4 (some g) (below_size h4) hg (fun k hk => by cases hk; exact h3), hb, h3, Nat.le_trans (below_size h4) hgm, Kd.R_nil _ _ _ _ _, ⟨.map [], 0, ⟨#[], 0, hmp, F0, Nat.le_refl _, rfl⟩, Nat.zero_le _, mapOf_nil⟩, h5.grown hg (fun k hk => by cases hk; exact h6), h6, .inr (Nat.le_trans h5.sz hgm), fun k hk => by simp [Value.ownBlock] at hk⟩
  · refine (times1 g gm u w hm.b).mono ?_
    rintro e w' ⟨rfl, hb⟩
    exact ⟨gm, u, rfl, hm.below hb⟩
theorem ts_call (A : Option Addr) (c : Nat) (a b : Int) (k : Nat) (Y : List S35) (w : World) (hr : Kd.C k35 w A Y.length Y) (hl : Y.length ≤ 1000000000000) (hk : tsAt Y ⟨a, b⟩ = (k : Int)) :
    Calls Try.prog 23 #[.slice A Y.length c, .agg #[.int .i64 a, .int .i64 b], .func (.func 24) #[] #[]] w fun e w' => ∃ bb : Bool, e = .returned (.tuple #[.int .i64 k, .bool bb]) ∧ Below w.heap.size w w' := by
  refine (ts_walk A c ⟨a, b⟩ Y w hr hl).mono ?_
  rintro e w' ⟨rfl, hb⟩
  rw [show tsF ⟨a, b⟩ Y (Y.length + 1) 0 Y.length = (k : Int) from hk]
  exact ⟨_, rfl, hb⟩
set_option maxHeartbeats 8000000 in
set_option maxRecDepth 100000 in
theorem drop_no {w0 ws w : World} {F : Nat → Prop} {g N : Nat} {L : List S35} (hW : Wh w0 ws F w g N L) (key : Int) (hk : wf64 key) (hnone : tm L key = none) :
    Calls Try.prog 22 #[.pointer (some ⟨g, 0, none⟩), .int .i64 key] w fun e w' => e = .returned (.bool false) ∧ ∃ gm u, Wm w0 ws F w' g gm N u u L L := by
  have HW := Aside0.mk hW
  have hnot : ∀ (x : Bool) (w : World), (Op.unary .not (.bool x)).run Try.prog w = .ok (.bool (!x)) w := fun _ _ => rfl
  clear hW
  go_enter Try.func22, Try.ntmps22
  go_wp2_with (first
    | (go_at_call 21; (with_reducible refine (times_any HW.out).mono ?_); rintro x_ w1 ⟨gm, u, rfl, hM⟩; have M1 := Aside0.mk hM; obtain ⟨D, nD, ho, hn, hmo⟩ := hM.mp; have HO := Aside0.mk ho; have HN := Aside0.mk hn; have hmk := hmo key hk; have hhas := hmk.2 hnone; clear hM ho hn hmo hmk)
    | (at_lookup; refine wpList_lookup_own_ok_int _ rfl _ _ 61 rfl 3 3 .i64 wlaw3 Try.underlying61 Try.underlying3 (wzero3 _) gm nD D rfl HO.out _ _ rfl (keyOf_int_mk Try.underlying3 hk) ?_; intro cv hat hwc; clear hat hwc))
  go_ret
  exact ⟨rfl, gm, u, M1.out⟩
set_option maxHeartbeats 8000000 in
set_option maxRecDepth 100000 in
theorem drop_yes {w0 ws w : World} {F : Nat → Prop} {g N : Nat} {L : List S35} (hW : Wh w0 ws F w g N L) (key a : Int) (hk : wf64 key) (hsome : tm L key = some a) :
    Calls Try.prog 22 #[.pointer (some ⟨g, 0, none⟩), .int .i64 key] w fun e w' => e = .returned (.bool true) ∧ ∃ gm u, Wm w0 ws F w' g gm N u u (dropL L key) (dropL L key) := by
  obtain ⟨k, hka, hkl, her⟩ := drop_at key a L hW.1.1 hW.1.2.1 hsome
  have HW := Aside0.mk hW
  have HKA := Aside0.mk hka
  have HKL := Aside0.mk hkl
  have HER := Aside0.mk her
  have HPOS := Aside0.mk (show 0 < L.length by omega)
  have HLN := Aside0.mk (show L.length ≤ 1000000000000 by have := hW.1.2.2.2; omega)
  have hk2 : (k : Int) < 1024 := by have := hW.1.2.2.2; omega
  have hnot : ∀ (x : Bool) (w : World), (Op.unary .not (.bool x)).run Try.prog w = .ok (.bool (!x)) w := fun _ _ => rfl
  clear hW hka hkl her
  go_enter Try.func22, Try.ntmps22
  go_wp2_with (first
    | (go_at_call 21; (with_reducible refine (times_any HW.out).mono ?_); rintro x_ w1 ⟨gm, u, rfl, hM⟩; have M1 := Aside0.mk hM; obtain ⟨D, nD, ho, hn, hmo⟩ := hM.mp; have HO := Aside0.mk ho; have HN := Aside0.mk hn; have hmk := hmo key hk; have hhas := (hmk.1 a hsome).1; have HAT := Aside0.mk (hmk.1 a hsome).2; have HD := Aside0.mk (show MapOf D L from hmo); have r4 := (blk_cell M1.out.b 4).trans rfl; obtain ⟨gv, cv2, rfl, _, _, _⟩ := Kd.R_form M1.out.row HPOS.out; clear hM ho hn hmo hmk)
    | (at_lookup; refine wpList_lookup_own_ok_int _ rfl _ _ 61 rfl 3 3 .i64 wlaw3 Try.underlying61 Try.underlying3 (wzero3 _) gm nD D rfl HO.out _ _ rfl (keyOf_int_mk Try.underlying3 hk) ?_; intro cv hat hwc; obtain rfl : a = cv := (look_is hat HAT.out).symm; clear hat hwc)
    | ((with_reducible refine gate_builtin (b := .delete) (xs := #[.tmp 21, .tmp 22]) rfl ?_); refine wpList_delete_own _ rfl (.tmp 21) (.tmp 22) 61 3 rfl 3 wlaw3 Try.underlying61 _ gm nD D rfl HO.out _ _ rfl (keyOf_int_mk Try.underlying3 hk) ?_; intro w2 ho2 ht2; have M2 := Aside0.mk (M1.out.map (M2l := dropL L key) ht2.grown ⟨_, nD, ho2, HN.out, mapOf_del HD.out key⟩); clear ho2 ht2; have r3 := (blk_cell M2.out.b 3).trans rfl)
    | (go_at_call 23; (with_reducible refine (ts_call (some ⟨gv, 0, none⟩) cv2 a key k L _ (Kd.R_reads' M2.out.row).2.2 HLN.out HKA.out).mono ?_); rintro x_ w3 ⟨bb, rfl, hb⟩; have M3 := Aside0.mk (M2.out.below hb); clear hb; have s3 := (blk_cell M3.out.b 3).trans rfl)
    | (go_at_call 31; (with_reducible refine (del_any gv cv2 k L w3 w0.heap.size M3.out.row (below_size M3.out.bl) HLN.out HKL.out).mono ?_); rintro x_ w4 ⟨rfl, hr, hg⟩; have M4 := Aside0.mk (M3.out.row' hr hg (.inl rfl)); clear hr hg; have t3 := (blk_cell M4.out.b 3).trans rfl; have tf := blk_frozen M4.out.b 3))
  go_ret
  have hfin := M4.out.set
  rw [HER.out] at hfin
  exact ⟨rfl, gm, _, hfin⟩
theorem okt_drop {L : List S35} (h : Okt L) (key : Int) : Okt (dropL L key) := ⟨ts_dropL key h.1, kd_dropL key h.2.1, fun o ho => h.2.2.1 o (mem_dropL.1 ho).1, Nat.le_trans (drop_length L key) h.2.2.2⟩
theorem drop_any {w0 ws w : World} {F : Nat → Prop} {g N : Nat} {L : List S35} (hW : Wh w0 ws F w g N L) (key : Int) (hk : wf64 key) :
    Calls Try.prog 22 #[.pointer (some ⟨g, 0, none⟩), .int .i64 key] w fun e w' => e = .returned (.bool (tm L key).isSome) ∧ ∃ gm u, Wm w0 ws F w' g gm N u u (dropL L key) (dropL L key) := by
  cases h : tm L key with
  | none =>
    refine (drop_no hW key hk h).mono ?_
    rintro e w' ⟨rfl, hm⟩
    rw [drop_none h]
    exact ⟨rfl, hm⟩
  | some a => exact drop_yes hW key a hk h
end Go.Proofs.Ytljajnednggebaa.P
