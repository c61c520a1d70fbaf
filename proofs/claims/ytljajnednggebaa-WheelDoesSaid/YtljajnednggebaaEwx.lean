/- Layer 11: a wheel and what it may touch; New, Set, Stop, Next, List. -/
import Derived.Test.YtljajnednggebaaEws
namespace Go.Proofs.Ytljajnednggebaa.P
set_option linter.unusedSimpArgs false
set_option linter.unusedVariables false
open Go.RowKit Go.Maps Go.Proofs.YtljajnednggebaaW.PrintWords Go.Proofs.YtljajnednggebaaW.PrintLast Go.Proofs.YtljajnednggebaaW.PrintMore
def Wst (w0 : World) (F : Nat → Prop) (w : World) (g N : Nat) (L : List S35) : Prop := (∀ k, F k → k < w.heap.size) ∧ Wh w0 w F w g N L
theorem Fr.refl (w : World) (F : Nat → Prop) : Fr w F w := ⟨Nat.le_refl _, fun _ _ _ => rfl⟩
def Nx (w0 : World) (F : Nat → Prop) (w w' : World) (g N : Nat) (L : List S35) : Prop := ∃ F' : Nat → Prop, (∀ k, F' k → F k ∨ w.heap.size ≤ k) ∧ Fr w F w' ∧ Wst w0 F' w' g N L
theorem Wh.frame {w0 ws w : World} {F : Nat → Prop} {g N : Nat} {L : List S35} (h : Wh w0 ws F w g N L) : Fr ws F w := by
  rcases h.2 with ⟨_, _, _, _, h, _⟩ | ⟨gm, u, h⟩
  · exact h
  · exact h.fr
theorem Wh.re {w0 ws w : World} {F F' : Nat → Prop} {g N : Nat} {L : List S35} (h : Wh w0 ws F w g N L) (hF : ∀ k, (F k ∨ ws.heap.size ≤ k) → k < w.heap.size → F' k) : Wh w0 w F' w g N L := by
  refine ⟨h.1, ?_⟩
  rcases h.2 with ⟨h1, h2, h3, h4, h5, h6⟩ | ⟨gm, u, h⟩
  · exact .inl ⟨h1, h2, h3, h4, Fr.refl _ _, .inl (hF _ h6 (blk_lt h1))⟩
  · obtain ⟨D, n, ho, hn, hm⟩ := h.mp
    exact .inr ⟨gm, u, h.bl, h.b, h.ng, h.nm, h.row, ⟨D, n, ho, hn, hm⟩, Fr.refl _ _, .inl (hF _ h.fg (blk_lt h.b)), .inl (hF _ h.fm ho.lt), fun k hk => .inl (hF _ (h.fu k hk) (Kd.R_lt h.row k hk))⟩
theorem Wh.nx {w0 w w' : World} {F : Nat → Prop} {g N : Nat} {L : List S35} (h : Wh w0 w F w' g N L) : Nx w0 F w w' g N L :=
  ⟨fun k => (F k ∨ w.heap.size ≤ k) ∧ k < w'.heap.size, fun k hk => hk.1, h.frame, fun k hk => hk.2, h.re (fun k hk hl => ⟨hk, hl⟩)⟩
/-- the wheel stays while the blocks that it touches stay -/
theorem Wst.keep {w0 w w' : World} {F : Nat → Prop} {g N : Nat} {L : List S35} (h : Wst w0 F w g N L) (hk : ∀ k, F k → w'.heap[k]? = w.heap[k]?) (hs : w.heap.size ≤ w'.heap.size) (hb : Below w0.heap.size w0 w') : Wst w0 F w' g N L := by
  refine ⟨fun k hF => Nat.lt_of_lt_of_le (h.1 k hF) hs, h.2.1, ?_⟩
  rcases h.2.2 with ⟨h1, h2, h3, h4, h5, h6⟩ | ⟨gm, u, hm⟩
  · have hF : F g := h6.resolve_right (fun e => by have := blk_lt h1; omega)
    exact .inl ⟨(hk g hF).trans h1, h2, h3, hb, Fr.refl _ _, .inl hF⟩
  · obtain ⟨D, n, ho, hn, hmo⟩ := hm.mp
    have hF : F g := hm.fg.resolve_right (fun e => by have := blk_lt hm.b; omega)
    have hM : F gm := hm.fm.resolve_right (fun e => by have := ho.lt; omega)
    have hU : ∀ k, u.ownBlock = some k → F k := fun k hku => (hm.fu k hku).resolve_right (fun e => by have := Kd.R_lt hm.row k hku; omega)
    obtain ⟨es, cl, hbm, hfit, hes, hD⟩ := ho
    exact .inr ⟨gm, u, hb, (hk g hF).trans hm.b, hm.ng, hm.nm, Kd.R_mono (Kd.R_move (Kd.R_tight rfl hm.row) (fun k e => hk k (hU k e.symm))) (fun _ _ => trivial), ⟨D, n, ⟨es, cl, (hk gm hM).trans hbm, hfit, hes, hD⟩, hn, hmo⟩, Fr.refl _ _, .inl hF, .inl hM, fun k hku => .inl (hU k hku)⟩
theorem Wst.below {w0 w w' : World} {F : Nat → Prop} {g N : Nat} {L : List S35} (h : Wst w0 F w g N L) (hb : Below w.heap.size w w') : Wst w0 F w' g N L :=
  h.keep (fun k hk => hb.block k (h.1 k hk)) hb.size (below_step h.2.bl hb)
theorem Wst.wide {w0 w : World} {F : Nat → Prop} {g N N2 : Nat} {L : List S35} (h : Wst w0 F w g N L) (hn : N ≤ N2) : Wst w0 F w g N2 L := ⟨h.1, h.2.wide hn⟩
theorem Nx.below {w0 w w' w2 : World} {F : Nat → Prop} {g N : Nat} {L : List S35} (h : Nx w0 F w w' g N L) (hb : Below w'.heap.size w' w2) : Nx w0 F w w2 g N L := by
  obtain ⟨F', h1, h2, h3⟩ := h
  exact ⟨F', h1, h2.below hb, h3.below hb⟩
theorem Wst.nx {w0 w w' : World} {F : Nat → Prop} {g N : Nat} {L : List S35} (h : Wst w0 F w g N L) (hb : Below w.heap.size w w') : Nx w0 F w w' g N L := ⟨F, fun k hk => .inl hk, (Fr.refl w F).below hb, h.below hb⟩
theorem Nx.trans {w0 w w' w2 : World} {F F' : Nat → Prop} {g N : Nat} {L : List S35} (h1 : ∀ k, F' k → F k ∨ w.heap.size ≤ k) (h2 : Fr w F w') (h : Nx w0 F' w' w2 g N L) : Nx w0 F w w2 g N L := by
  obtain ⟨F2, k1, k2, k3⟩ := h
  refine ⟨F2, fun k hk => ?_, ⟨Nat.le_trans h2.sz k2.sz, fun k hk hn => (k2.fr k (Nat.lt_of_lt_of_le hk h2.sz) (fun e => (h1 k e).elim hn (fun hh => by omega))).trans (h2.fr k hk hn)⟩, k3⟩
  rcases k1 k hk with e | e
  · exact h1 k e
  · exact .inr (Nat.le_trans h2.sz e)
/-- a row that the wheel does not touch stays, whatever is done with the wheel -/
theorem R_nx {α : Type} {d : Kd α} {e : Nat} {w w' : World} {base : Nat} {F F' : Nat → Prop} {v : Value} {X : List α} (hE : d.E = []) (h : d.R e w base (fun k => ¬ F k) v X) (h1 : ∀ k, F' k → F k ∨ w.heap.size ≤ k) (h2 : Fr w F w') : d.R e w' base (fun k => ¬ F' k) v X := by
  have hb := Kd.R_bound h
  refine Kd.R_mono (ok := fun k => ¬ F k ∧ k < w.heap.size) ?_ (fun k hk hF => (h1 k hF).elim hk.1 (fun hh => by omega))
  exact Kd.R_step (Kd.R_mono hb (fun k hk => ⟨hk.1, hk.2.2.1⟩)) (fun k hk hl => h2.fr k hl hk.1)
theorem R_fresh {α : Type} {d : Kd α} {e : Nat} {w' : World} {base : Nat} {F : Nat → Prop} {v : Value} {X : List α} {n : Nat} (h : d.R e w' n (fun _ => True) v X) (hF : ∀ k, F k → k < n) (hb : base ≤ n) : d.R e w' base (fun k => ¬ F k) v X :=
  Kd.R_lower (Kd.R_mono (Kd.R_bound h) (fun k hk hF2 => by have := hF k hF2; have := hk.2.1; omega)) hb
theorem set_w {w0 w : World} {F : Nat → Prop} {g N : Nat} {L : List S35} (h : Wst w0 F w g N L) (hN : N ≤ 1000000000) (key t : Int) (hk : wf64 key) (ht : wf64 t) :
    Calls Try.prog 10 #[.pointer (some ⟨g, 0, none⟩), .int .i64 key, .int .i64 t] w fun e w' => e = .returned (.int .i64 (setE L key t)) ∧ Nx w0 F w w' g (N + 1) (setR L key t) := by
  refine (set_any h.2 hN key t hk ht).mono ?_
  rintro e w' ⟨rfl, hw⟩
  exact ⟨rfl, hw.nx⟩
theorem drop_w {w0 w : World} {F : Nat → Prop} {g N : Nat} {L : List S35} (h : Wst w0 F w g N L) (key : Int) (hk : wf64 key) :
    Calls Try.prog 22 #[.pointer (some ⟨g, 0, none⟩), .int .i64 key] w fun e w' => e = .returned (.bool (tm L key).isSome) ∧ Nx w0 F w w' g N (dropL L key) := by
  refine (drop_any h.2 key hk).mono ?_
  rintro e w' ⟨rfl, gm, u, hm⟩
  exact ⟨rfl, (hm.wh (okt_drop h.2.1 key)).nx⟩
set_option maxHeartbeats 8000000 in
set_option maxRecDepth 100000 in
theorem new_w {w0 w : World} (hb : Below w0.heap.size w0 w) :
    Calls Try.prog 8 #[] w fun e w' => ∃ g, e = .returned (.pointer (some ⟨g, 0, none⟩)) ∧ Nx w0 (fun _ => False) w w' g 0 [] ∧ Below w.heap.size w w' := by
  have HB := Aside0.mk hb
  clear hb
  go_enter Try.func8, Try.ntmps8
  go_wp2_with ((with_reducible refine gate_dst (N := 2) rfl ?_); refine box_event ?hg (N := 2) ?hd (cs := WhC 0 (.slice none 0 0) (.map none)) (t := 63) ?hr ?_; (case hd => rfl); (case hg => rfl); (case hr => first | (go_simp; done) | (go_simp; rfl) | rfl | kernel_rfl); intro g hg w1 hbox hb; have B1 := Aside0.mk hbox; have L1 := Aside0.mk hb; have G1 := Aside0.mk hg; clear hb hbox hg)
  go_ret
  refine ⟨g, rfl, Wh.nx ⟨⟨List.Pairwise.nil, List.Pairwise.nil, (fun o ho => by cases ho), by simp⟩, .inl ⟨B1.out, rfl, by rw [G1.out]; exact below_size HB.out, below_step HB.out L1.out, (Fr.refl w _).below L1.out, .inr (Nat.le_of_eq G1.out.symm)⟩⟩, L1.out⟩
set_option maxHeartbeats 8000000 in
set_option maxRecDepth 100000 in
theorem stop_w {w0 w : World} {F : Nat → Prop} {g N : Nat} {L : List S35} (h : Wst w0 F w g N L) (key : Int) (hk : wf64 key) :
    Calls Try.prog 17 #[.pointer (some ⟨g, 0, none⟩), .int .i64 key] w fun e w' => e = .returned (.int .i64 (if (tm L key).isSome then 0 else 7)) ∧ Nx w0 F w w' g N (dropL L key) := by
  have HW := Aside0.mk h
  have hnot : ∀ (x : Bool) (w : World), (Op.unary .not (.bool x)).run Try.prog w = .ok (.bool (!x)) w := fun _ _ => rfl
  obtain ⟨b, hb⟩ : ∃ b, b = (tm L key).isSome := ⟨_, rfl⟩
  rw [← hb]
  have HB := Aside0.mk hb
  clear h hb
  cases b with
  | true =>
    go_enter Try.func17, Try.ntmps17
    go_wp2_with (go_at_call 22; (refine (drop_w HW.out key hk).mono ?_); rintro e w1 ⟨he, hn⟩; rw [← HB.out] at he; subst he; have NX := Aside0.mk hn; clear hn)
    go_ret
    exact ⟨rfl, NX.out⟩
  | false =>
    go_enter Try.func17, Try.ntmps17
    go_wp2_with (go_at_call 22; (refine (drop_w HW.out key hk).mono ?_); rintro e w1 ⟨he, hn⟩; rw [← HB.out] at he; subst he; have NX := Aside0.mk hn; clear hn)
    go_ret
    exact ⟨rfl, NX.out⟩
/-- what the wheel's block holds in its fourth cell -/
theorem Wst.cell {w0 w : World} {F : Nat → Prop} {g N : Nat} {L : List S35} (h : Wst w0 F w g N L) : ∃ u, w.cell? ⟨g, 3, none⟩ = some u ∧ k35.R 35 w w0.heap.size (fun _ => True) u L := by
  rcases h.2.2 with ⟨h1, rfl, _⟩ | ⟨gm, u, hm⟩
  · exact ⟨_, (blk_cell h1 3).trans rfl, Kd.R_nil _ _ _ _ _⟩
  · exact ⟨u, (blk_cell hm.b 3).trans rfl, hm.row⟩
set_option maxHeartbeats 8000000 in
set_option maxRecDepth 100000 in
theorem list_w {w0 w : World} {F : Nat → Prop} {g N : Nat} {L : List S35} (h : Wst w0 F w g N L) :
    Calls Try.prog 11 #[.pointer (some ⟨g, 0, none⟩)] w fun e w' => ∃ v, e = .returned v ∧ k35.R 35 w' w.heap.size (fun _ => True) v L ∧ Below w.heap.size w w' := by
  obtain ⟨u, hc, hr⟩ := h.cell
  obtain ⟨A, c, rfl, hlc, hC⟩ := Kd.R_reads hr
  have HC := Aside0.mk hC
  have HL := Aside0.mk (show L.length ≤ 1000000000000 by have := h.2.1.2.2.2; omega)
  clear h hr hlc hC
  go_enter Try.func11, Try.ntmps11
  go_wp2_with (go_at_call 26; (refine (slices_CloneE.calls A c L L _ HC.out (if_pos HL.out)).mono ?_); rintro e w1 ⟨v, rfl, ho, hb⟩; have HO := Aside0.mk ho; have HB := Aside0.mk hb; clear ho hb)
  go_ret
  exact ⟨_, rfl, HO.out, HB.out⟩
def nextL (L : List S35) : Int × Bool := match L with | [] => (0, false) | o :: _ => (o.f0, true)
set_option maxHeartbeats 8000000 in
set_option maxRecDepth 100000 in
theorem next_w {w0 w : World} {F : Nat → Prop} {g N : Nat} {L : List S35} (h : Wst w0 F w g N L) :
    Calls Try.prog 13 #[.pointer (some ⟨g, 0, none⟩)] w fun e w' => e = .returned (.tuple #[.int .i64 (nextL L).1, .bool (nextL L).2]) ∧ w = w' := by
  obtain ⟨u, hc, hr⟩ := h.cell
  obtain ⟨A, c, rfl, hlc, hC⟩ := Kd.R_reads hr
  cases L with
  | nil =>
    have b0 : (((([] : List S35).length : Nat) : Int) == 0) = true := rfl
    clear h hr hlc hC
    go_enter Try.func13, Try.ntmps13
    go_wp2
    go_ret2
    exact ⟨rfl, rfl⟩
  | cons o r =>
    have b0 : ((((o :: r).length : Nat) : Int) == 0) = false := by simp; try omega
    obtain ⟨ad, e_, hx0, hx1⟩ := at_T35 hC 0 (by omega) (by simp; try omega)
    cases e_
    have e0 : ad.add ((0 : Int).toNat * 2) = ad := by
      show ad.add 0 = ad
      cases ad
      simp [Addr.add]
    rw [e0] at hx0
    have hlen : (0 : Int) < ((o :: r).length : Int) := by simp; try omega
    obtain ⟨n, hn⟩ : ∃ n, n = (o :: r).length := ⟨_, rfl⟩
    rw [← hn] at hlen b0 hc
    clear h hr hlc hC hx1 hn
    go_enter Try.func13, Try.ntmps13
    go_wp2
    go_ret2
    exact ⟨rfl, rfl⟩
end Go.Proofs.Ytljajnednggebaa.P
