/- Layer 11: the document's wheel: its block and its row; set, stop, Stop, Next. -/
import Derived.Test.YtljajnednggebaaEwl
namespace Go.Proofs.Ytljajnednggebaa.P
set_option linter.unusedSimpArgs false
set_option linter.unusedVariables false
open Go.RowKit Go.Maps Go.Proofs.YtljajnednggebaaW.PrintWords Go.Proofs.YtljajnednggebaaW.PrintLast Go.Proofs.YtljajnednggebaaW.PrintMore
/-- the document's wheel at block x, its row in the blocks G -/
def Xw (w : World) (x : Nat) (G : Nat → Prop) (L : List S35) : Prop := ∃ A c, w.heap[x]? = some (.cells #[.slice A L.length c] 44 (0, 0)) ∧ L.length ≤ c ∧ Kd.F k35 w G A L.length L ∧ ¬ G x
/-- only block x is written, and what is new -/
def KB (w w' : World) (x : Nat) : Prop := KeepBut w w' x none ∧ Below x w w'
section
variable {w w1 w2 : World} {x : Nat}
theorem KB.refl (w : World) (x : Nat) : KB w w x := ⟨KeepBut.refl _ _ _, Below.refl _ _⟩
theorem KB.of_below (hb : Below w.heap.size w w1) (hx : x ≤ w.heap.size) : KB w w1 x := ⟨KeepBut.of_below hb x none, ⟨hb.os, hb.tape, hb.output, hb.size, fun k hk => hb.block k (Nat.lt_of_lt_of_le hk hx)⟩⟩
theorem KB.set (h : KB w w1 x) (v : Value) : KB w (w1.setCell ⟨x, 0, none⟩ v) x := ⟨h.1.set_ 0 v, h.2.setCell (Nat.le_refl _) _⟩
theorem KB.trans (h : KB w w1 x) (k : KB w1 w2 x) : KB w w2 x := ⟨h.1.trans k.1 (.inl rfl), h.2.trans k.2⟩
theorem KB.grown (h : KB w w1 x) {r : Option Nat} (hg : w1.grownBy w2 r) (hr : ∀ k, r = some k → w.heap.size ≤ k) (hx : x < w.heap.size) : KB w w2 x := by
  refine ⟨h.1.trans (KeepBut.of_grown hg x) ?_, pw_below_grown h.2 r (Nat.le_trans (Nat.le_of_lt hx) h.1.1) hg (fun k hk => Nat.le_trans (Nat.le_of_lt hx) (hr k hk))⟩
  cases r with
  | none => exact .inl rfl
  | some b => exact .inr ⟨b, rfl, hr b rfl⟩
end
/-- what a call that turns it leaves -/
def Rn (w w' : World) (x : Nat) (L : List S35) : Prop := KB w w' x ∧ ∃ G', Xw w' x G' L ∧ ∀ k, G' k → w.heap.size ≤ k
theorem oneE_C {w : World} {h : Nat} {x : S35} (hv : w.heap[h]? = some (.cells #[.int .i64 x.f0, .int .i64 x.f1] 35 (0, 0))) : k35.C w (some ⟨h, 0, none⟩) 1 [x] := one_C hv
theorem dropL_len (L : List S35) (key : Int) : (dropL L key).length ≤ L.length := List.length_filter_le _ _
theorem tm_snoc (L : List S35) (o : S35) (key : Int) : (tm (L ++ [o]) key).isSome = ((tm L key).isSome || decide (o.f1 = key)) := by
  induction L with
  | nil => by_cases h : o.f1 = key <;> simp [tm, h]
  | cons p r ih =>
    simp only [List.cons_append, tm]
    by_cases h : p.f1 = key
    · simp [h]
    · simp [h, ih]
theorem dropL_snoc (L : List S35) (o : S35) (key : Int) : dropL (L ++ [o]) key = if o.f1 = key then dropL L key else dropL L key ++ [o] := by
  unfold dropL
  rw [List.filter_append]
  by_cases h : o.f1 = key
  · simp [h]
  · simp [h]
theorem take_snoc {L : List S35} {y : Int} (h0 : 0 ≤ y) (h1 : y < (L.length : Int)) : L.take (y.toNat + 1) = L.take y.toNat ++ [rd_T35 L y] := by
  rw [rd35_at h0 h1, List.take_succ_eq_append_getElem (by omega)]
set_option maxHeartbeats 8000000 in
set_option maxRecDepth 100000 in
theorem rset_w {w : World} {x : Nat} {G : Nat → Prop} {L : List S35} (h : Xw w x G L) (hl : L.length ≤ 1024) (key : Int) :
    Calls Try.prog 27 #[.pointer (some ⟨x, 0, none⟩), .int .i64 key] w fun e w' => e = .returned (.bool (tm L key).isSome) ∧ w = w' := by
  obtain ⟨A, c, hb, hlc, hF, hG⟩ := h
  have HC := Aside0.mk (Kd.F_now hF)
  have hx : w.cell? ⟨x, 0, none⟩ = some (.slice A L.length c) := (blk_cell hb 0).trans rfl
  have HL := Aside0.mk hl
  clear hF hb hlc hl hG
  go_enter Try.func27, Try.ntmps27
  go_wp2
  go_loopg [5] L.length (fun kq v5 wq => ∃ (y : Int), v5 = .int .i64 y ∧ Aside0 (0 ≤ y) ∧ Aside0 (y + kq = L.length) ∧ Aside0 ((tm (L.take y.toNat) key).isSome = false) ∧ w = wq)
  case atStart => exact ⟨0, rfl, ⟨by omega⟩, ⟨by omega⟩, ⟨rfl⟩, rfl⟩
  case round =>
  obtain ⟨y, rfl, G0, GI, HT, hww⟩ := hrel
  subst hww
  cases gk with
  | zero =>
    have hm : decide (y < (L.length : Int)) = false := decide_eq_false (by have := GI.out; omega)
    go_wp2
    go_ret
    have hy : y.toNat = L.length := by have := GI.out; have := G0.out; omega
    have := HT.out
    rw [hy, List.take_length] at this
    exact ⟨by rw [this]; rfl, rfl⟩
  | succ k1 =>
    have hlt := (show y < (L.length : Int) by have := GI.out; omega)
    have h0 := G0.out
    have hd : decide (y < (L.length : Int)) = true := decide_eq_true hlt
    have hw : wrap64 (y + 1) = y + 1 := w64 (by omega) (by have := HL.out; omega)
    obtain ⟨ad, e_, y0, y1⟩ := at_T35 HC.out y h0 hlt
    cases e_
    have HTS := Aside0.mk (show (tm (L.take (y.toNat + 1)) key).isSome = decide ((rd_T35 L y).f1 = key) by rw [take_snoc h0 hlt, tm_snoc, HT.out, Bool.false_or])
    have HMM := Aside0.mk (show (rd_T35 L y) ∈ L by rw [rd35_at h0 hlt]; exact List.getElem_mem _)
    have h0t := eq_true h0
    have hltt := eq_true hlt
    by_cases hk : (rd_T35 L y).f1 = key
    · have bk : ((rd_T35 L y).f1 == key) = true := beq_iff_eq.mpr hk
      have HK := Aside0.mk hk
      clear hk
      go_wp2
      go_ret
      refine ⟨?_, rfl⟩
      have hne : tm L key ≠ none := fun hn => (tm_none L).1 hn _ HMM.out HK.out
      cases ht : tm L key with
      | none => exact absurd ht hne
      | some a => rfl
    · have bk : ((rd_T35 L y).f1 == key) = false := beq_eq_false_iff_ne.mpr hk
      have HK := Aside0.mk hk
      clear hk
      go_wp2
      go_roundg k1
      case measure => have := GI.out; omega
      case rel => exact ⟨y + 1, by first | rfl | simp [hw], ⟨by omega⟩, ⟨by have := GI.out; omega⟩, ⟨by rw [show (y + 1).toNat = y.toNat + 1 by omega, HTS.out]; exact decide_eq_false HK.out⟩, rfl⟩
theorem Rn.mk {w w1 : World} {x : Nat} {v : Value} {L : List S35} {c1 : Value} (hb : Below w.heap.size w w1) (hx : w.heap[x]? = some (.cells #[c1] 44 (0, 0))) (hr : k35.R 35 w1 w.heap.size (fun _ => True) v L) : Rn w (w1.setCell ⟨x, 0, none⟩ v) x L := by
  refine ⟨(KB.of_below hb (Nat.le_of_lt (blk_lt hx))).set v, ?_⟩
  obtain ⟨A, c, rfl, hlc, _⟩ := Kd.R_reads hr
  have hxl := blk_lt hx
  have hx1 := (hb.block x hxl).trans hx
  refine ⟨fun k => w.heap.size ≤ k, ⟨A, c, blk_put hx1 0 _ rfl, hlc, ?_, by omega⟩, fun k hk => hk⟩
  exact Kd.F_far (Kd.F_mono (Kd.R_F (Kd.R_bound hr)) (fun k hk => hk.2.1)) (fun k hk e => by have : k = x := e; omega) _
set_option maxHeartbeats 8000000 in
set_option maxRecDepth 100000 in
theorem rstop_w {w : World} {x : Nat} {G : Nat → Prop} {L : List S35} (h : Xw w x G L) (hl : L.length ≤ 1024) (key : Int) :
    Calls Try.prog 28 #[.pointer (some ⟨x, 0, none⟩), .int .i64 key] w fun e w' => e = .returned (.bool (tm L key).isSome) ∧ Rn w w' x (dropL L key) := by
  obtain ⟨A, c, hb, hlc, hF, hG⟩ := h
  have HF := Aside0.mk hF
  have HBX := Aside0.mk hb
  have HL := Aside0.mk hl
  have hx : w.cell? ⟨x, 0, none⟩ = some (.slice A L.length c) := (blk_cell hb 0).trans rfl
  clear hF hb hlc hl hG
  go_enter Try.func28, Try.ntmps28
  go_wp2
  go_loopg [5, 6, 7] L.length (fun kq v5' v6 v7 wq => ∃ (y : Int) (b : Bool) (v5 : Value), v7 = .int .i64 y ∧ v6 = .bool b ∧ v5 = v5' ∧ Aside0 (0 ≤ y) ∧ Aside0 (y + kq = L.length) ∧ Aside0 ((tm (L.take y.toNat) key).isSome = b) ∧ Aside0 (Below w.heap.size w wq) ∧ Aside0 (k35.R 35 wq w.heap.size (fun _ => True) v5 (dropL (L.take y.toNat) key)))
  case atStart => exact ⟨0, false, _, rfl, rfl, rfl, ⟨by omega⟩, ⟨by omega⟩, ⟨rfl⟩, ⟨Below.refl _ _⟩, ⟨Kd.R_nil _ _ _ _ _⟩⟩
  case round =>
  clear hx
  obtain ⟨y, b, v5, rfl, rfl, rfl, G0, GI, HT, HBB, HRR⟩ := hrel
  have HBW := Aside0.mk ((HBB.out.block x (blk_lt HBX.out)).trans HBX.out)
  have hx : wr.cell? ⟨x, 0, none⟩ = some (.slice A L.length c) := (blk_cell HBW.out 0).trans rfl
  have hxf := blk_frozen HBW.out 0
  cases gk with
  | zero =>
    have hm : decide (y < (L.length : Int)) = false := decide_eq_false (by have := GI.out; omega)
    have hy : y.toNat = L.length := by have := GI.out; have := G0.out; omega
    have HT2 := Aside0.mk (show (tm L key).isSome = b by have := HT.out; rw [hy, List.take_length] at this; exact this)
    have HR2 := HRR.out
    rw [hy, List.take_length] at HR2
    obtain ⟨A5, m5, c5, rfl⟩ := R_some HR2
    have HR3 := Aside0.mk HR2
    clear HR2 hy
    go_wp2
    go_ret
    exact ⟨by rw [HT2.out]; rfl, Rn.mk HBB.out HBX.out HR3.out⟩
  | succ k1 =>
    have hlt := (show y < (L.length : Int) by have := GI.out; omega)
    have h0 := G0.out
    have hd : decide (y < (L.length : Int)) = true := decide_eq_true hlt
    have hw : wrap64 (y + 1) = y + 1 := w64 (by omega) (by have := HL.out; omega)
    obtain ⟨ad, e_, y0, y1⟩ := at_T35 (Kd.F_now (Kd.F_below HF.out HBB.out)) y h0 hlt
    cases e_
    have HTS := Aside0.mk (show (tm (L.take (y.toNat + 1)) key).isSome = (b || decide ((rd_T35 L y).f1 = key)) by rw [take_snoc h0 hlt, tm_snoc, HT.out])
    have h0t := eq_true h0
    have hltt := eq_true hlt
    by_cases hk : (rd_T35 L y).f1 = key
    · have bk : ((rd_T35 L y).f1 == key) = true := beq_iff_eq.mpr hk
      have HK := Aside0.mk hk
      have HST := Aside0.mk (show dropL (L.take (y.toNat + 1)) key = dropL (L.take y.toNat) key by rw [take_snoc h0 hlt, dropL_snoc, if_pos hk])
      clear hk
      go_wp2
      go_roundg k1
      case measure => have := GI.out; omega
      case rel => exact ⟨y + 1, true, _, by first | rfl | simp [hw], rfl, rfl, ⟨by omega⟩, ⟨by have := GI.out; omega⟩, ⟨by rw [show (y + 1).toNat = y.toNat + 1 by omega, HTS.out, decide_eq_true HK.out, Bool.or_true]⟩, HBB, ⟨by rw [show (y + 1).toNat = y.toNat + 1 by omega, HST.out]; exact HRR.out⟩⟩
    · have bk : ((rd_T35 L y).f1 == key) = false := beq_eq_false_iff_ne.mpr hk
      have HK := Aside0.mk hk
      have HST := Aside0.mk (show dropL (L.take y.toNat) key ++ [rd_T35 L y] = dropL (L.take (y.toNat + 1)) key by rw [take_snoc h0 hlt, dropL_snoc, if_neg hk])
      clear hk
      go_wp2_with (first
        | ((with_reducible refine gate_dst (N := 35) rfl ?_); refine lit1_event ?hg (N := 35) ?hd (cs := #[.int .i64 (rd_T35 L y).f0, .int .i64 (rd_T35 L y).f1]) (t := 35) (n := 1) ?hr ?_; (case hd => rfl); (case hg => rfl); (case hr => first | (go_simp; done) | (go_simp; rfl)); intro gl hg w5 hbox hb; have HB5 := Aside0.mk (below_step HBB.out hb); have HR5 := Aside0.mk (Kd.R_below HRR.out hb); have BL := Aside0.mk hbox; clear hb hbox hg)
        | ((with_reducible refine gate_builtin (b := .append) (xs := #[.tmp 27, .tmp 35]) rfl ?_); at_builtin; refine Kd.R_append_rows k35 (w0 := w) w.heap.size rfl (.tmp 27) (.tmp 35) 30 35 (.agg #[(.int .i64 0), (.int .i64 0)]) 16 rfl Try.underlying30 info35 rfl (by decide) (by omega) v5 (dropL (L.take y.toNat) key) [rd_T35 L y] _ _ _ (fun _ => True) (fun _ => False) rfl rfl ?aO ?aR (fun _ _ h => h) (fun _ h => h.elim) ?aF ?aB ?aS ?aL ?_; (case aR => exact oneE_C BL.out); (case aB => exact HB5.out); (case aF => exact fun _ _ => trivial); (case aO => exact HR5.out); (case aS => exact below_size HB5.out); (case aL => have := HL.out; have := dropL_len (L.take y.toNat) key; rw [List.length_take] at this; omega); intro v2 w6 ho hb hg hat; rw [HST.out] at ho; have HR6 := Aside0.mk ho; have HB6 := Aside0.mk hb; clear ho hb hg hat))
      go_roundg k1
      case measure => have := GI.out; omega
      case rel => exact ⟨y + 1, b, _, by first | rfl | simp [hw], rfl, rfl, ⟨by omega⟩, ⟨by have := GI.out; omega⟩, ⟨by rw [show (y + 1).toNat = y.toNat + 1 by omega, HTS.out, decide_eq_false HK.out, Bool.or_false]⟩, HB6, ⟨by rw [show (y + 1).toNat = y.toNat + 1 by omega]; exact HR6.out⟩⟩
set_option maxHeartbeats 8000000 in
set_option maxRecDepth 100000 in
theorem rStop_w {w : World} {x : Nat} {G : Nat → Prop} {L : List S35} (h : Xw w x G L) (hl : L.length ≤ 1024) (key : Int) :
    Calls Try.prog 18 #[.pointer (some ⟨x, 0, none⟩), .int .i64 key] w fun e w' => e = .returned (.int .i64 (if (tm L key).isSome then 0 else 7)) ∧ Rn w w' x (dropL L key) := by
  have HW := Aside0.mk h
  have HL := Aside0.mk hl
  obtain ⟨b, hb⟩ : ∃ b, b = (tm L key).isSome := ⟨_, rfl⟩
  rw [← hb]
  have HB := Aside0.mk hb
  clear h hb hl
  cases b with
  | true =>
    go_enter Try.func18, Try.ntmps18
    go_wp2_with (go_at_call 28; (refine (rstop_w HW.out HL.out key).mono ?_); rintro e w1 ⟨he, hn⟩; rw [← HB.out] at he; subst he; have NX := Aside0.mk hn; clear hn)
    go_ret
    exact ⟨rfl, NX.out⟩
  | false =>
    go_enter Try.func18, Try.ntmps18
    go_wp2_with (go_at_call 28; (refine (rstop_w HW.out HL.out key).mono ?_); rintro e w1 ⟨he, hn⟩; rw [← HB.out] at he; subst he; have NX := Aside0.mk hn; clear hn)
    go_ret
    exact ⟨rfl, NX.out⟩
set_option maxHeartbeats 8000000 in
set_option maxRecDepth 100000 in
theorem rnext_w {w : World} {x : Nat} {G : Nat → Prop} {L : List S35} (h : Xw w x G L) :
    Calls Try.prog 20 #[.pointer (some ⟨x, 0, none⟩)] w fun e w' => e = .returned (.tuple #[.int .i64 (nextL L).1, .bool (nextL L).2]) ∧ w = w' := by
  obtain ⟨A, c, hb, hlc, hF, hG⟩ := h
  have hc : w.cell? ⟨x, 0, none⟩ = some (.slice A L.length c) := (blk_cell hb 0).trans rfl
  have hC := Kd.F_now hF
  cases L with
  | nil =>
    have b0 : (((([] : List S35).length : Nat) : Int) == 0) = true := rfl
    clear hF hb hlc hG hC
    go_enter Try.func20, Try.ntmps20
    go_wp2
    go_ret2
    exact ⟨rfl, rfl⟩
  | cons o r =>
    have b0 : ((((o :: r).length : Nat) : Int) == 0) = false := by simp; try omega
    obtain ⟨ad, e_, hx0, hx1⟩ := at_T35 hC 0 (by omega) (by simp; try omega)
    cases e_
    have e0 : ad.add ((0 : Int).toNat * 2) = ad := by
      show ad.add 0 = ad
      cases ad
      simp [Addr.add]
    rw [e0] at hx0
    have hlen : (0 : Int) < ((o :: r).length : Int) := by simp; try omega
    obtain ⟨n, hn⟩ : ∃ n, n = (o :: r).length := ⟨_, rfl⟩
    rw [← hn] at hlen b0 hc
    clear hF hb hlc hG hC hx1 hn
    go_enter Try.func20, Try.ntmps20
    go_wp2
    go_ret2
    exact ⟨rfl, rfl⟩
end Go.Proofs.Ytljajnednggebaa.P
