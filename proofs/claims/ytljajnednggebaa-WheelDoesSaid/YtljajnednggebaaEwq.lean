/- Layer 11: the document's wheel: Due. -/
import Derived.Test.YtljajnednggebaaEwr
import Derived.Test.YtljajnednggebaaEwp
namespace Go.Proofs.Ytljajnednggebaa.P
set_option linter.unusedSimpArgs false
set_option linter.unusedVariables false
open Go.RowKit Go.Maps Go.Proofs.YtljajnednggebaaW.PrintWords Go.Proofs.YtljajnednggebaaW.PrintLast Go.Proofs.YtljajnednggebaaW.PrintMore
theorem cut_at (A : Option Addr) (m c : Nat) (hm : 0 < m) : ∀ W : World, (Instr.slice 30 (.slice A m c) (some (.int .i64 1)) none none).run Try.prog W = .ok (.slice (if c = 1 then A else A.map (·.add (1 * 2))) (m - 1) (c - 1)) W := by
  obtain ⟨i0, hi0, _, hsz, _⟩ := info_parts info35
  exact cut_from (P := Try.prog) 30 35 .i64 Try.underlying30 hi0 2 hsz A m c 1 (by omega) (by omega)
theorem due_drop (t : Int) : ∀ (L : List S35) (i : Nat), i ≤ dueN L t → dueN (L.drop i) t = dueN L t - i := by
  intro L
  induction L with
  | nil => intro i h; simp [dueN]
  | cons o r ih =>
    intro i h
    cases i with
    | zero => rfl
    | succ i =>
      rw [dueN_cons] at h ⊢
      by_cases h1 : o.f0 ≤ t
      · rw [if_pos h1] at h ⊢
        rw [List.drop_succ_cons, ih i (by omega)]
        omega
      · rw [if_neg h1] at h
        omega
theorem due_pos {X : List S35} {t : Int} (h : 0 < X.length) (h1 : (rd_T35 X 0).f0 ≤ t) : 0 < dueN X t := by
  cases X with
  | nil => simp at h
  | cons o r =>
    rw [dueN_cons, if_pos (show o.f0 ≤ t from h1)]
    omega
theorem due_none {X : List S35} {t : Int} (h : ¬ (0 < X.length ∧ (rd_T35 X 0).f0 ≤ t)) : dueN X t = 0 := by
  cases X with
  | nil => rfl
  | cons o r =>
    rw [dueN_cons, if_neg (fun h1 : o.f0 ≤ t => h ⟨by simp, h1⟩)]
def DS (w wq : World) (x : Nat) (G : Nat → Prop) (L : List S35) (v : Value) (X : List Int) : Prop := KB w wq x ∧ Xw wq x G L ∧ (Kd.int .i64).R 3 wq w.heap.size (fun _ => True) v X
section
variable {w wq w2 : World} {x : Nat} {G : Nat → Prop} {L : List S35} {v v2 : Value} {X X2 : List Int}
theorem Xw.below (h : Xw wq x G L) (hb : Below wq.heap.size wq w2) : Xw w2 x G L := by
  obtain ⟨A, c, h1, h2, h3, h4⟩ := h
  exact ⟨A, c, (hb.block x (blk_lt h1)).trans h1, h2, Kd.F_below h3 hb, h4⟩
theorem DS.below (h : DS w wq x G L v X) (hb : Below wq.heap.size wq w2) : DS w w2 x G L v X :=
  ⟨h.1.trans (KB.of_below hb (by obtain ⟨A, c, h1, _⟩ := h.2.1; exact Nat.le_of_lt (blk_lt h1))), h.2.1.below hb, Kd.R_below h.2.2 hb⟩
theorem DS.append (h : DS w wq x G L v X) (hx : x < w.heap.size ∧ ∀ k, G k → k < w.heap.size) (hg : wq.grownBy w2 v.ownBlock) (hr : (Kd.int .i64).R 3 w2 w.heap.size (fun _ => True) v2 X2) : DS w w2 x G L v2 X2 := by
  obtain ⟨h1, ⟨A, c, h2, h3, h4, h5⟩, h6⟩ := h
  have hbase : ∀ k, v.ownBlock = some k → w.heap.size ≤ k := fun k hk => Kd.R_base h6 k hk
  refine ⟨h1.grown hg hbase hx.1, ⟨A, c, ?_, h3, Kd.F_grown h4 hg (fun k hk e => ?_), h5⟩, hr⟩
  · exact (hg.block x (blk_lt h2) (fun e => by have := hbase x e.symm; omega)).trans h2
  · have := hbase k e.symm
    have := hx.2 k hk
    omega
theorem DS.store (h : DS w wq x G L v X) (hx : x < w.heap.size) {A : Option Addr} {c m : Nat} (hb : wq.heap[x]? = some (.cells #[.slice A m c] 44 (0, 0))) (hm : L.length = m) (hp : 0 < m) {A3 : Option Addr} {m3 c3 : Nat} (hA : A3 = if c = 1 then A else A.map (·.add (1 * 2))) (hm3 : m3 = m - 1) (hc3 : c3 = c - 1) :
    DS w (wq.setCell ⟨x, 0, none⟩ (.slice A3 m3 c3)) x G (L.drop 1) v X := by
  obtain ⟨h1, ⟨A', c', h2, h3, h4, h5⟩, h6⟩ := h
  have he := Option.some.inj (hb.symm.trans h2)
  simp only [Obj.cells.injEq, Array.mk.injEq, List.cons.injEq, Value.slice.injEq, and_true] at he
  obtain ⟨rfl, _, rfl⟩ := he
  subst hm
  have hlen : m3 = (L.drop 1).length := by rw [hm3, List.length_drop]
  subst hlen
  refine ⟨h1.set _, ⟨A3, c3, blk_put h2 0 _ rfl, by rw [List.length_drop, hc3]; omega, ?_, h5⟩, ?_⟩
  · refine Kd.F_far ?_ (fun k hk e => h5 (by have : k = x := e; subst this; exact hk)) _
    rw [hA]
    exact Kd.F_cut h4 (m := 1) (by omega) h3
  · exact Kd.R_mono (Kd.R_far (Kd.R_mono (Kd.R_bound h6) (fun k hk => hk.2.1)) (fun k hk e => by have : k = x := e; omega) _) (fun _ _ => trivial)
end
set_option maxHeartbeats 8000000 in
set_option maxRecDepth 100000 in
theorem rdue_w {w : World} {x : Nat} {G : Nat → Prop} {L : List S35} (h : Xw w x G L) (hG : ∀ k, G k → k < w.heap.size) (hl : L.length ≤ 1024) (now : Int) :
    Calls Try.prog 19 #[.pointer (some ⟨x, 0, none⟩), .int .i64 now] w fun e w' => ∃ v, e = .returned v ∧ DS w w' x G (L.drop (dueN L now)) v ((L.take (dueN L now)).map S35.f1) := by
  have HX : Aside0 (x < w.heap.size ∧ ∀ k, G k → k < w.heap.size) := ⟨by obtain ⟨A, c, h1, _⟩ := h; exact blk_lt h1, hG⟩
  have S0 := Aside0.mk (show DS w w x G (L.drop 0) (.slice none 0 0) ((L.take 0).map S35.f1) from ⟨KB.refl _ _, h, Kd.R_nil _ _ _ _ _⟩)
  have HL := Aside0.mk hl
  clear h hG hl
  go_enter Try.func19, Try.ntmps19
  go_wp2
  go_loopg [5] L.length (fun kq v5' wq => ∃ (i : Nat) (v5 : Value), v5 = v5' ∧ Aside0 (i + kq = L.length) ∧ Aside0 (i ≤ dueN L now) ∧ Aside0 (DS w wq x G (L.drop i) v5 ((L.take i).map S35.f1)))
  case atStart => exact ⟨0, _, rfl, ⟨by omega⟩, ⟨by omega⟩, S0⟩
  case round =>
  clear S0
  obtain ⟨i, v5, rfl, GI, HD, SS⟩ := hrel
  obtain ⟨m, hm⟩ : ∃ m, (L.drop i).length = m := ⟨_, rfl⟩
  have HM := Aside0.mk hm
  obtain ⟨A, c, hb, hlc, hF, _⟩ := SS.out.2.1
  have hC := Kd.F_now hF
  rw [hm] at hb
  have hx : wr.cell? ⟨x, 0, none⟩ = some (.slice A m c) := (blk_cell hb 0).trans rfl
  have HDD := Aside0.mk (due_drop now L i HD.out)
  clear hb hlc hF
  by_cases hp : 0 < (L.drop i).length
  · have hpm : 0 < m := hm ▸ hp
    obtain ⟨ad, e_, hx0, hx1⟩ := at_T35 hC 0 (by omega) (by omega)
    cases e_
    have e0 : ad.add ((0 : Int).toNat * 2) = ad := by
      show ad.add 0 = ad
      cases ad
      simp [Addr.add]
    rw [e0] at hx0 hx1
    have bp : decide ((m : Int) > 0) = true := decide_eq_true (by omega)
    have hlen : (0 : Int) < (m : Int) := by omega
    have HP := Aside0.mk hp
    have HMP := Aside0.mk hpm
    clear hp hpm hm hC e0
    by_cases hq : (rd_T35 (L.drop i) 0).f0 ≤ now
    · have bq : decide ((rd_T35 (L.drop i) 0).f0 ≤ now) = true := decide_eq_true hq
      have hdp := due_pos HP.out hq
      have hlt : i < L.length := by have := HP.out; rw [List.length_drop] at this; omega
      cases gk with
      | zero => exact absurd GI.out (by omega)
      | succ k1 =>
      have HD2 := Aside0.mk (show i + 1 ≤ dueN L now by rw [HDD.out] at hdp; omega)
      have HKE := Aside0.mk (show (L.take i).map S35.f1 ++ [(rd_T35 (L.drop i) 0).f1] = (L.take (i + 1)).map S35.f1 by
        rw [List.drop_eq_getElem_cons hlt, List.take_succ_eq_append_getElem hlt, List.map_append]
        rfl)
      clear hq hdp hlt
      go_wp2_with (first
        | ((with_reducible refine gate_dst (N := 31) rfl ?_); refine lit1_event ?hg (N := 31) ?hd (cs := #[.int .i64 (rd_T35 (L.drop i) 0).f1]) (t := 3) (n := 1) ?hr ?_; (case hd => rfl); (case hg => rfl); (case hr => first | (go_simp; done) | (go_simp; rfl)); intro gl hg w5 hbox hb; have S5 := Aside0.mk (SS.out.below hb); have BL := Aside0.mk hbox; clear hb hbox hg)
        | ((with_reducible refine gate_builtin (b := .append) (xs := #[.tmp 23, .tmp 31]) rfl ?_); at_builtin; refine Kd.R_append_rows (Kd.int .i64) (w0 := w5) w.heap.size rfl (.tmp 23) (.tmp 31) 32 3 (.int .i64 0) 8 rfl Try.underlying32 info3 rfl (by decide) (by omega) v5 ((L.take i).map S35.f1) [(rd_T35 (L.drop i) 0).f1] _ _ _ (fun _ => True) (fun _ => False) rfl rfl ?aO ?aR (fun _ _ h => h) (fun _ h => h.elim) ?aF ?aB ?aS ?aL ?_; (case aR => exact oneI_C BL.out); (case aB => exact Below.refl _ _); (case aF => exact fun _ _ => trivial); (case aO => exact S5.out.2.2); (case aS => exact S5.out.1.1.1); (case aL => have := HL.out; rw [List.length_map, List.length_take]; omega); intro v2 w6 ho hb hg hat; rw [HKE.out] at ho; have S6 := Aside0.mk (S5.out.append HX.out hg ho); (obtain ⟨A2, c2, hb2, hlc2, _, _⟩ := S6.out.2.1); rw [HM.out] at hb2 hlc2; have hx6 : w6.cell? ⟨x, 0, none⟩ = some (.slice A2 m c2) := (blk_cell hb2 0).trans rfl; have hxf6 := blk_frozen hb2 0; obtain ⟨A3, hA3⟩ : ∃ A3, A3 = if c2 = 1 then A2 else A2.map (·.add (1 * 2)) := ⟨_, rfl⟩; obtain ⟨m3, hm3⟩ : ∃ m3, m3 = m - 1 := ⟨_, rfl⟩; obtain ⟨c3, hc3⟩ : ∃ c3, c3 = c2 - 1 := ⟨_, rfl⟩; have hcut := cut_at A2 m c2 HMP.out; rw [← hA3, ← hm3, ← hc3] at hcut; have HB6 := Aside0.mk hb2; have HA3 := Aside0.mk hA3; have HM3 := Aside0.mk hm3; have HC3 := Aside0.mk hc3; clear ho hb hg hat hb2 hA3 hm3 hc3 hlc2))
      go_roundg k1
      case measure => have := GI.out; omega
      case rel => exact ⟨i + 1, _, rfl, ⟨by have := GI.out; omega⟩, HD2, ⟨by
        have := S6.out.store HX.out.1 HB6.out HM.out HMP.out HA3.out HM3.out HC3.out
        rw [List.drop_drop] at this
        exact this⟩⟩
    · have bq : decide ((rd_T35 (L.drop i) 0).f0 ≤ now) = false := decide_eq_false hq
      have hz := due_none (X := L.drop i) (t := now) (fun hh => hq hh.2)
      have HDE := Aside0.mk (show dueN L now = i by have := HD.out; rw [HDD.out] at hz; omega)
      clear hq hz
      go_wp2
      go_ret
      rw [HDE.out]
      exact ⟨_, rfl, SS.out⟩
  · have bp : decide ((m : Int) > 0) = false := decide_eq_false (by omega)
    have hz := due_none (X := L.drop i) (t := now) (fun hh => hp hh.1)
    have HDE := Aside0.mk (show dueN L now = i by have := HD.out; rw [HDD.out] at hz; omega)
    have hm0 : m = 0 := by omega
    subst hm0
    clear hp hz hm hC
    go_wp2
    go_ret
    rw [HDE.out]
    exact ⟨_, rfl, SS.out⟩
end Go.Proofs.Ytljajnednggebaa.P
