/- The statement AckBack, proved of the given program; it has no conditions. (Of many texts laid together) -/
import Derived.Laws.LoneSync
import Derived.Test.YtolfbnkdmafomaaXAckBacka
set_option linter.unusedVariables false
set_option linter.unusedSimpArgs false
namespace Go.Proofs.Ytolfbnkdmafomaa.P
open Go.RowKit Go.Proofs.YtolfbnkdmafomaaW.PrintWords Go.Proofs.YtolfbnkdmafomaaW.PrintLast Go.Proofs.YtolfbnkdmafomaaW.PrintMore
def wire_bytes.f (v n : Int) : Option (List Int) := if 0 ≤ v ∧ 1 ≤ n ∧ n ≤ 8 then some (be n.toNat v) else none
theorem store_any (g : Nat) (u : Value) (v : Int) (w : World) (hb : w.heap[g]? = some (.cells #[u] 77 (0, 0))) :
    Calls Try.prog 40 #[.pointer (some ⟨g, 0, none⟩), .int .u64 v] w fun e w' => e = .returned (.tuple #[]) ∧ w.setCell ⟨g, 0, none⟩ (.int .u64 v) = w' := by
  have hc : w.cell? ⟨g, 0, none⟩ = some u := by rw [blk_cell hb]; rfl
  have hz : w.frozen? ⟨g, 0, none⟩ = false := blk_frozen hb 0
  have hst := fun y => run_call_store (P := Try.prog) Try.func42 (by kernel_rfl) (by kernel_rfl) (by kernel_rfl) (by kernel_rfl) (k := .u64) (y := y) hc hz
  clear hb
  go_enter Try.func40, Try.ntmps40
  go_wp2
  go_end0
  exact ⟨rfl, rfl⟩
theorem low_any (g : Nat) (v : Int) (w : World) (h0 : 0 ≤ v) (hb : w.heap[g]? = some (.cells #[.int .u64 v] 77 (0, 0))) :
    Calls Try.prog 41 #[.pointer (some ⟨g, 0, none⟩)] w fun e w' => e = .returned (.int .u8 (v % 256)) ∧ w.setCell ⟨g, 0, none⟩ (.int .u64 (v / 256)) = w' := by
  have hc : w.cell? ⟨g, 0, none⟩ = some (.int .u64 v) := by rw [blk_cell hb]; rfl
  have hz : w.frozen? ⟨g, 0, none⟩ = false := blk_frozen hb 0
  have hld := run_call_load (P := Try.prog) Try.func44 (by kernel_rfl) (by kernel_rfl) (by kernel_rfl) .u64 (by kernel_rfl) hc
  have hst := fun y => run_call_store (P := Try.prog) Try.func42 (by kernel_rfl) (by kernel_rfl) (by kernel_rfl) (by kernel_rfl) (k := .u64) (y := y) hc hz
  clear hb
  go_enter Try.func41, Try.ntmps41
  go_wp2
  go_end0
  go_wp2
  go_ret
  exact ⟨rfl, rfl⟩
set_option maxHeartbeats 2000000 in
set_option maxRecDepth 100000 in
theorem wire_bytes.calls (a0 : Int) (a1 : Int) (r : List Int) (w : World) (h : wire_bytes.f a0 a1 = some r) :
    Calls Try.prog 35 #[.int .u64 a0, .int .i64 a1] w fun e w' => ∃ v0_ : Value, e = .returned (v0_) ∧ Kd.R (Kd.int .u8) 5 w' w.heap.size (fun _ => True) v0_ r ∧ Below w.heap.size w w' := by
  have hh : (0 ≤ a0 ∧ 1 ≤ a1 ∧ a1 ≤ 8) ∧ be a1.toNat a0 = r := by
    unfold wire_bytes.f at h
    split at h
    · rename_i hc
      exact ⟨hc, Option.some.inj h⟩
    · exact absurd h (by simp)
  clear h
  obtain ⟨⟨h0, h1, h2⟩, rfl⟩ := hh
  obtain ⟨n, rfl⟩ := Int.eq_ofNat_of_zero_le (show 0 ≤ a1 by omega)
  have hp : 0 < n := by omega
  have h2' : n ≤ 8 := by omega
  clear h1 h2
  simp only [Int.toNat_natCast]
  have H0 := Aside0.mk h0
  clear h0
  have hn0 : (0 : Int) ≤ (n : Int) := by omega
  have hn1 : (n : Int) ≤ 8 := by omega
  go_enter Try.func35, Try.ntmps35
  go_wp2_with (((with_reducible refine gate_dst (N := 9) rfl ?_); refine box_event ?hg (N := 9) ?hd (cs := #[.int .u64 0]) (t := 77) ?hr ?_; (case hd => rfl); (case hg => rfl); (case hr => first | (go_simp; done) | (go_simp; rfl)); intro gb hgb w1 hbox hb1; have HBX := Aside0.mk hbox; have HB := Aside0.mk (Below.trans (Below.refl w.heap.size w) hb1); have HG := Aside0.mk (show w.heap.size ≤ gb by rw [hgb]; exact Nat.le_refl _); clear hbox hb1 hgb))
  refine (store_any gb _ a0 _ HBX.out).mono ?_
  rintro e w2 ⟨rfl, hw2⟩
  have HBX2 := Aside0.mk (show w2.heap[gb]? = some (.cells #[.int .u64 a0] 77 (0, 0)) by rw [← hw2]; exact blk_put HBX.out 0 _ rfl)
  have HB2 := Aside0.mk (show Below w.heap.size w w2 by rw [← hw2]; exact below_set HB.out HG.out)
  clear hw2 HBX HB
  go_wp2_with (((with_reducible refine gate_dst (N := 16) rfl ?_); refine Kd.R_make (Kd.int .u8) _ 5 rfl (N := 16) rfl 35 _ _ rfl (n : Int) rfl rfl Try.underlying35 (.int .u8 0) 1 info5 rfl (by decide) (by omega) 0 (ok := fun k => k ≠ gb) (okp := fun _ => False) rfl (fun _ hk => hk.elim) (fun he => absurd (blk_lt HBX2.out) (by rw [← he]; exact Nat.lt_irrefl _)) (by omega) (by simp only [Int.toNat_natCast]; omega) (Below.refl _ _) (Nat.le_refl _) ?_; intro v3 w3 ho hb3 hg3 hnew; clear hnew; simp only [Int.toNat_natCast] at ho; obtain ⟨gs, cs, hv3, hgs, hls, hcs⟩ := Kd.R_form ho (by rw [List.length_replicate]; exact hp); rw [List.length_replicate] at hv3; clear hls hcs; rw [hv3] at ho ⊢; clear hv3; have HO := Aside0.mk (Kd.R_lower ho HB2.out.size); have HBX3 := Aside0.mk (blk_grown HBX2.out hg3 (by simp)); have HB3 := Aside0.mk (below_step HB2.out hb3); have HGS := Aside0.mk (Nat.le_trans HB2.out.size hgs); have HNE := Aside0.mk (show gs ≠ gb from ho.1 gs (by simp [Value.ownBlock])); clear ho hb3 hgs hg3 HBX2 HB2))
  go_loopg [19] n (fun kq v19 wr => ∃ (i : Nat), v19 = .int .i64 i ∧ Aside0 (i + kq = n) ∧ Aside0 (Kd.R (Kd.int .u8) 5 wr w.heap.size (fun k => k ≠ gb) (.slice (some ⟨gs, 0, none⟩) n cs) (List.replicate (n - i) 0 ++ be i a0)) ∧ Aside0 (wr.heap[gb]? = some (.cells #[.int .u64 (a0 / 256 ^ i)] 77 (0, 0))) ∧ Aside0 (Below w.heap.size w wr))
  case atStart => exact ⟨0, rfl, ⟨by omega⟩, ⟨by simpa [be] using HO.out⟩, ⟨by simpa using HBX3.out⟩, HB3⟩
  case round =>
    clear HO HBX3 HB3
    obtain ⟨i, rfl, HI, HO, HBX, HB⟩ := hrel
    cases gk with
    | zero =>
      have hi : i = n := by have := HI.out; omega
      subst hi
      go_wp2
      go_ret
      refine ⟨_, rfl, ?_, HB.out⟩
      have h := HO.out
      rw [Nat.sub_self, List.replicate_zero, List.nil_append] at h
      exact Kd.R_mono h (fun _ _ => trivial)
    | succ k1 =>
      have hlt : i < n := by have := HI.out; omega
      have hi0 : (0 : Int) ≤ (n : Int) - 1 - (i : Int) := by omega
      have hi1 : (n : Int) - 1 - (i : Int) < (n : Int) := by omega
      have hs1 : (0 : Int) ≤ (n : Int) - 1 := by omega
      have hb0 : (0 : Int) ≤ (i : Int) := by omega
      have HA0 := Aside0.mk (show 0 ≤ a0 / 256 ^ i from Int.ediv_nonneg H0.out (by exact Int.pow_nonneg (by decide)))
      go_wp2_with (go_at_call 41; (refine (low_any gb (a0 / 256 ^ i) _ HA0.out HBX.out).mono ?_); rintro e w4 ⟨rfl, hw4⟩; have HBX4 := Aside0.mk (show w4.heap[gb]? = some (.cells #[.int .u64 (a0 / 256 ^ i / 256)] 77 (0, 0)) by rw [← hw4]; exact blk_put HBX.out 0 _ rfl); have HB4 := Aside0.mk (show Below w.heap.size w w4 by rw [← hw4]; exact below_set HB.out HG.out); have HO4 := Aside0.mk (show Kd.R (Kd.int .u8) 5 w4 w.heap.size (fun k => k ≠ gb) (.slice (some ⟨gs, 0, none⟩) n cs) (List.replicate (n - i) 0 ++ be i a0) by rw [← hw4]; exact Kd.R_far HO.out (fun _ hk => hk) _); clear hw4; obtain ⟨hx4, hf4⟩ := Kd.R_celln 0 HO4.out ((n - 1 - i : Nat) : Int) (by omega) (by omega); simp only [Int.toNat_natCast] at hx4 hf4)
      go_roundg k1
      case measure => omega
      case rel =>
        have hp4 := (Kd.R_putg HO4.out ((n - 1 - i : Nat) : Int) (a0 / 256 ^ i % 256)).1
        simp only [Int.toNat_natCast] at hp4
        refine ⟨i + 1, by simp, ⟨by have := HI.out; omega⟩, ⟨?_⟩, ⟨?_⟩, ⟨below_set HB4.out HGS.out⟩⟩
        · rw [show n - i = (n - 1 - i) + 1 by omega, be_set, show n - 1 - i = n - (i + 1) by omega] at hp4
          rw [be_cons, show n - 1 - i = n - (i + 1) by omega]
          exact hp4
        · rw [Int.pow_succ, ← Int.ediv_ediv_of_nonneg (Int.pow_nonneg (by decide))]
          exact blk_far HBX4.out (fun e => HNE.out e.symm) _
def wire_number.f (l : List Int) (a n : Int) : Option (Int × Int × Int) := if l.length ≤ 1000000000000 ∧ 0 ≤ n ∧ n ≤ 8 ∧ ∀ x ∈ l, 0 ≤ x ∧ x ≤ 255 then some (numSpec l a n) else none
theorem number_mid (t e : Nat) {P : Program} (ht : P.underlying t = some (.slice e)) {z : Value} (hinfo : (P.info? e).map (fun i => (i.zero, i.size, i.bytes)) = some (some z, 1, 1)) (A : Option Addr) (c : Nat) (l : List Int) (a : Int) (n : Nat) (h0 : 0 ≤ a) (h1 : a + n ≤ l.length) (hc : l.length ≤ c) (w : World) (hr : Kd.C (Kd.int .u8) w A l.length l) :
    ∃ A1, (∀ W : World, (Instr.slice t (.slice A l.length c) (some (.int .i64 a)) (some (.int .i64 (a + n))) none).run P W = .ok (.slice A1 n (c - a.toNat)) W) ∧ Kd.C (Kd.int .u8) w A1 n ((l.drop a.toNat).take n) := by
  obtain ⟨i0, hi, _, hs, _⟩ := info_parts hinfo
  obtain ⟨A1, hcut, hA, hC⟩ := print_mid_of (P := P) (Value.int .u8) 0 t e .i64 .i64 ht hi hs A c l a (a + n) h0 (by omega) h1 hc
  have hm : (l.take (a + n).toNat).drop a.toNat = (l.drop a.toNat).take n := by rw [List.drop_take, show (a + n).toNat - a.toNat = n by omega]
  have hl : ((l.drop a.toNat).take n).length = n := by rw [List.length_take, List.length_drop]; omega
  rw [hm] at hcut hA
  rw [hl] at hcut hA
  exact ⟨A1, hcut, Kd.C_of_reads (h1 := fun _ => rfl) (hA w (Kd.reads_of_C hr))⟩
set_option maxHeartbeats 2000000 in
set_option maxRecDepth 100000 in
theorem wire_number.drawn (A0 : Option Addr) (c0 : Nat) (l0 : List Int) (a1 : Int) (a2 : Int) (r1 : Int) (r2 : Int) (r3 : Int) (w : World) (hr0 : Kd.C (Kd.int .u8) w A0 l0.length l0) (hc0 : l0.length ≤ c0) (h : wire_number.f l0 a1 a2 = some (r1, r2, r3)) :
    Calls Try.prog 39 #[.slice A0 l0.length c0, .int .i64 a1, .int .i64 a2] w fun e w' => e = .returned (.tuple #[.int .u64 r1, .int .i64 r2, .int .i64 r3]) ∧ Drawn0 w w' := by
  obtain ⟨hl, hn0, hn8, hB, hs⟩ : l0.length ≤ 1000000000000 ∧ 0 ≤ a2 ∧ a2 ≤ 8 ∧ Bytes l0 ∧ numSpec l0 a1 a2 = (r1, r2, r3) := by
    unfold wire_number.f at h
    split at h
    · rename_i hc
      exact ⟨hc.1, hc.2.1, hc.2.2.1, hc.2.2.2, Option.some.inj h⟩
    · exact absurd h (by simp)
  clear h
  have HL := Aside0.mk hl
  have HB := Aside0.mk hB
  clear hl hB
  by_cases c1 : a1 < 0
  · rw [numSpec, if_pos (.inl c1)] at hs
    simp only [Prod.mk.injEq] at hs
    obtain ⟨rfl, rfl, rfl⟩ := hs
    have b1 : decide (a1 < 0) = true := decide_eq_true c1
    clear hn0 hn8
    go_enter Try.func39, Try.ntmps39
    go_wp2
    go_ret3
    exact ⟨rfl, Drawn0.refl _⟩
  have b1 : decide (a1 < 0) = false := decide_eq_false c1
  by_cases c2 : (l0.length : Int) < a1
  · rw [numSpec, if_pos (.inr c2)] at hs
    simp only [Prod.mk.injEq] at hs
    obtain ⟨rfl, rfl, rfl⟩ := hs
    have b2 : decide ((l0.length : Int) < a1) = true := decide_eq_true c2
    clear hn0 hn8 c1
    go_enter Try.func39, Try.ntmps39
    go_wp2
    go_ret3
    exact ⟨rfl, Drawn0.refl _⟩
  have b2 : decide ((l0.length : Int) < a1) = false := decide_eq_false c2
  rw [numSpec, if_neg (by omega)] at hs
  have hll := HL.out
  have d0 : 0 ≤ (l0.length : Int) - a1 := by omega
  have d1 : (l0.length : Int) - a1 ≤ 1000000000000 := by omega
  by_cases c3 : (l0.length : Int) - a1 < a2
  · rw [if_pos c3] at hs
    simp only [Prod.mk.injEq] at hs
    obtain ⟨rfl, rfl, rfl⟩ := hs
    have b3 : decide ((l0.length : Int) - a1 < a2) = true := decide_eq_true c3
    go_enter Try.func39, Try.ntmps39
    go_wp2
    go_ret3
    exact ⟨rfl, Drawn0.refl _⟩
  have b3 : decide ((l0.length : Int) - a1 < a2) = false := decide_eq_false c3
  rw [if_neg c3] at hs
  simp only [Prod.mk.injEq] at hs
  obtain ⟨rfl, rfl, rfl⟩ := hs
  obtain ⟨n, rfl⟩ := Int.eq_ofNat_of_zero_le hn0
  simp only [Int.toNat_natCast]
  obtain ⟨A1, hcut, hC⟩ := number_mid 35 5 Try.underlying35 info5 A0 c0 l0 a1 n (by omega) (by omega) hc0 w hr0
  obtain ⟨m, hm⟩ : ∃ m, m = (l0.drop a1.toNat).take n := ⟨_, rfl⟩
  rw [← hm] at hC ⊢
  have HM := Aside0.mk (show m.length = n ∧ Bytes m by rw [hm]; exact ⟨by rw [List.length_take, List.length_drop]; omega, (HB.out.drop _).take _⟩)
  have HC := Aside0.mk hC
  have s0 : 0 ≤ a1 + (n : Int) := by omega
  have s1 : a1 + (n : Int) ≤ 2000000000000 := by omega
  have s2 : (n : Int) ≤ 8 := by omega
  clear hm hC hr0 hc0 HB hll hn0 c3 c1 c2 HL
  go_enter Try.func39, Try.ntmps39
  go_wp2
  clear d0 d1 b1 b2 b3 hcut
  go_loopg [9, 35] n (fun kq v9 v35 w' => ∃ (i : Nat), v9 = .int .u64 (bev (m.take i)) ∧ v35 = .int .i64 i ∧ Aside0 (i + kq = n) ∧ Drawn0 w w')
  case atStart => exact ⟨0, by simp [bev_nil], by simp, ⟨by omega⟩, Drawn0.refl _⟩
  case round =>
    obtain ⟨i, rfl, rfl, HI, ⟨nd, rfl⟩⟩ := hrel
    cases gk with
    | zero =>
      have hi : i = n := by have := HI.out; omega
      subst hi
      go_wp2
      go_ret3
      refine ⟨?_, by repeat (first | exact Drawn0.refl _ | apply Drawn0.step)⟩
      rw [List.take_of_length_le (by rw [HM.out.1]; exact Nat.le_refl _)]
      rfl
    | succ k1 =>
      have hlt : i < n := by have := HI.out; omega
      obtain ⟨ad, hA, hcell⟩ := Kd.at_int HC.out (i : Int) (by omega) (by omega)
      cases hA
      simp only [Int.toNat_natCast] at hcell
      go_wp2
      go_roundg k1
      case measure => omega
      case rel =>
        have hr := bev_range (m.take i) (HM.out.2.take i)
        have hb := rd_byte m HM.out.2 i
        have hml := HM.out.1
        have hp : (256 : Int) ^ (m.take i).length ≤ 256 ^ 7 := pow256_le _ _ (by rw [List.length_take]; omega)
        have h7 : (256 : Int) ^ 7 = 72057594037927936 := by decide
        refine ⟨i + 1, ?_, by simp, ⟨by have := HI.out; omega⟩, by repeat (first | exact Drawn0.refl _ | apply Drawn0.step)⟩
        rw [or_byte _ _ hr.1 (by omega) hb.1 hb.2, ← take_bev m i (by omega)]
theorem wire_number.calls (A0 : Option Addr) (c0 : Nat) (l0 : List Int) (a1 : Int) (a2 : Int) (r1 : Int) (r2 : Int) (r3 : Int) (w : World) (hr0 : Kd.C (Kd.int .u8) w A0 l0.length l0) (hc0 : l0.length ≤ c0) (h : wire_number.f l0 a1 a2 = some (r1, r2, r3)) :
    Calls Try.prog 39 #[.slice A0 l0.length c0, .int .i64 a1, .int .i64 a2] w fun e w' => e = .returned (.tuple #[.int .u64 r1, .int .i64 r2, .int .i64 r3]) ∧ Below w.heap.size w w' :=
  (wire_number.drawn A0 c0 l0 a1 a2 r1 r2 r3 w hr0 hc0 h).mono fun _ _ ⟨he, hd⟩ => ⟨he, hd.below⟩
end Go.Proofs.Ytolfbnkdmafomaa.P
namespace Go.Proofs.Ytolfbnkdmafomaa.P
open Go.RowKit Go.Proofs.YtolfbnkdmafomaaW.PrintWords Go.Proofs.YtolfbnkdmafomaaW.PrintLast Go.Proofs.YtolfbnkdmafomaaW.PrintMore
attribute [local go_sem] max2_int min2_int max_two min_two max_three min_three max_four min_four   -- for this text's walks alone
def wire_Put.f (a0 : Int) (a1 : Int) : Option (List Int × Int) := if a1 < 1 then (some (([] : List Int), 1)) else (if a1 > 7 then (some (([] : List Int), 1)) else (if a0 < 0 then (some (([] : List Int), 1)) else (if 0 ≤ (wrap64 (8 * a1)) then (if (shr .i64 a0 (wrap64 (8 * a1))) = 0 then ((wire_bytes.f (IntKind.u64.wrap (a0)) a1).bind fun t191 => (some (t191, 0))) else (some (([] : List Int), 1))) else (none))))
set_option maxHeartbeats 8000000 in
set_option maxRecDepth 100000 in
theorem wire_Put.calls (a0 : Int) (a1 : Int) (r1 : List Int) (r2 : Int) (w : World) (h : wire_Put.f a0 a1 = some (r1, r2)) :
    Calls Try.prog 28 #[.int .i64 a0, .int .i64 a1] w fun e w' => ∃ v0_ : Value, e = .returned (.tuple #[v0_, .int .i64 r2]) ∧ Kd.R (Kd.int .u8) 5 w' w.heap.size (fun _ => True) v0_ r1 ∧ Below w.heap.size w w' := by
  have HB := Aside0.mk (Below.refl w.heap.size w)
  have H : (if a1 < 1 then (some (([] : List Int), 1)) else (if a1 > 7 then (some (([] : List Int), 1)) else (if a0 < 0 then (some (([] : List Int), 1)) else (if 0 ≤ (wrap64 (8 * a1)) then (if (shr .i64 a0 (wrap64 (8 * a1))) = 0 then ((wire_bytes.f (IntKind.u64.wrap (a0)) a1).bind fun t191 => (some (t191, 0))) else (some (([] : List Int), 1))) else (none))))) = some (r1, r2) := h
  clear h
  by_cases c3 : a1 < 1
  · rw [if_pos c3] at H
    have c3b0 : decide (a1 < 1) = true := decide_eq_true c3
    clear c3
    simp only [Option.some.injEq, Prod.mk.injEq] at H
    obtain ⟨rfl, rfl⟩ := H
    go_enter Try.func28, Try.ntmps28
    go_wp2
    go_ret2
    exact ⟨_, by first | rfl | (simp [errW_none, errW_some] <;> rfl) | (simp [*, errW_none, errW_some] <;> rfl), by first | exact Kd.R_nil _ _ _ _ _ | exact Kd.N_nil _ _ _ _ _ | exact Kd.V_nil _ _ _ _ _ | exact Kd.Q_nil _ _ _ _ _ | exact Kd.S_nil _ _ _ _ _, by repeat (first | (with_reducible first | exact HB.out | apply below_alloc | apply pw_below_drewN | apply below_drew1) | exact HB.out)⟩
  · rw [if_neg c3] at H
    have c3b0 : decide (a1 < 1) = false := decide_eq_false c3
    clear c3
    by_cases c4 : a1 > 7
    · rw [if_pos c4] at H
      have c4b0 : decide (7 < a1) = true := decide_eq_true c4
      clear c4
      simp only [Option.some.injEq, Prod.mk.injEq] at H
      obtain ⟨rfl, rfl⟩ := H
      go_enter Try.func28, Try.ntmps28
      go_wp2
      go_ret2
      exact ⟨_, by first | rfl | (simp [errW_none, errW_some] <;> rfl) | (simp [*, errW_none, errW_some] <;> rfl), by first | exact Kd.R_nil _ _ _ _ _ | exact Kd.N_nil _ _ _ _ _ | exact Kd.V_nil _ _ _ _ _ | exact Kd.Q_nil _ _ _ _ _ | exact Kd.S_nil _ _ _ _ _, by repeat (first | (with_reducible first | exact HB.out | apply below_alloc | apply pw_below_drewN | apply below_drew1) | exact HB.out)⟩
    · rw [if_neg c4] at H
      have c4b0 : decide (7 < a1) = false := decide_eq_false c4
      clear c4
      by_cases c5 : a0 < 0
      · rw [if_pos c5] at H
        have c5b0 : decide (a0 < 0) = true := decide_eq_true c5
        clear c5
        simp only [Option.some.injEq, Prod.mk.injEq] at H
        obtain ⟨rfl, rfl⟩ := H
        go_enter Try.func28, Try.ntmps28
        go_wp2
        go_ret2
        exact ⟨_, by first | rfl | (simp [errW_none, errW_some] <;> rfl) | (simp [*, errW_none, errW_some] <;> rfl), by first | exact Kd.R_nil _ _ _ _ _ | exact Kd.N_nil _ _ _ _ _ | exact Kd.V_nil _ _ _ _ _ | exact Kd.Q_nil _ _ _ _ _ | exact Kd.S_nil _ _ _ _ _, by repeat (first | (with_reducible first | exact HB.out | apply below_alloc | apply pw_below_drewN | apply below_drew1) | exact HB.out)⟩
      · rw [if_neg c5] at H
        have c5b0 : decide (a0 < 0) = false := decide_eq_false c5
        clear c5
        obtain ⟨ji6, hji6⟩ : ∃ j_ : Int, (wrap64 (8 * a1)) = j_ := ⟨_, rfl⟩
        replace H : (if 0 ≤ (ji6) then (if (shr .i64 a0 (ji6)) = 0 then ((wire_bytes.f (IntKind.u64.wrap (a0)) a1).bind fun t191 => (some (t191, 0))) else (some (([] : List Int), 1))) else (none)) = some (r1, r2) := by first | (rw [hji6] at H; exact H) | (simp only [hji6] at H ⊢; exact H)
        have hji6w : (IntKind.i64.wrap (8 * a1)) = ji6 := (i64_w _).trans hji6
        by_cases c7 : 0 ≤ (ji6)
        rotate_left
        · rw [if_neg c7] at H
          exact absurd H (by simp)
        rw [if_pos c7] at H
        have c7b0 := eq_true c7
        have c7b1 : decide (0 ≤ (ji6)) = true := decide_eq_true c7
        clear c7
        obtain ⟨ji8, hji8⟩ : ∃ j_ : Int, (shr .i64 a0 (ji6)) = j_ := ⟨_, rfl⟩
        replace H : (if (ji8) = 0 then ((wire_bytes.f (IntKind.u64.wrap (a0)) a1).bind fun t191 => (some (t191, 0))) else (some (([] : List Int), 1))) = some (r1, r2) := by first | (rw [hji8] at H; exact H) | (simp only [hji8] at H ⊢; exact H)
        have hji8_ : (a0 / 2 ^ min (ji6).toNat 64) = ji8 := hji8
        have hji8z : (ji6) ≤ 64 → (a0 / 2 ^ (ji6).toNat) = ji8 := shr_small hji8
        by_cases c9 : (ji8) = 0
        · rw [if_pos c9] at H
          have c9b0 : ((ji8) == 0) = true := beq_iff_eq.mpr c9
          have c9b1 : ((ji8) != 0) = false := bne_eq_false_iff_eq.mpr c9
          clear c9
          replace H := Option.bind_eq_some_iff.mp H
          obtain ⟨t191, A100, H⟩ := H
          replace H : (some (t191, 0)) = some (r1, r2) := H
          have A10 := Aside0.mk A100
          clear A100
          simp only [Option.some.injEq, Prod.mk.injEq] at H
          obtain ⟨rfl, rfl⟩ := H
          go_enter Try.func28, Try.ntmps28
          go_wp2_with (first | ((with_reducible refine gate_callee (f := 35) rfl ?_); refine goesL_ (some 26) rfl rfl Try.func35 (by kernel_rfl) rfl #[.int .u64 (IntKind.u64.wrap (a0)), .int .i64 a1] rfl (by (try simp only [List.map_toArray, List.map_cons, List.map_nil]); first | done | rfl | (simp only [List.length_drop, List.length_take]; rfl)) ?_; (with_reducible refine (wire_bytes.calls (IntKind.u64.wrap (a0)) a1 t191 _ A10.out).mono ?_); rintro e w11 ⟨v192, rfl, ho0, hb⟩; refine ⟨_, rfl, ?_⟩; have n0_ := Aside0.mk (Kd.R_lower ho0 (below_size (by repeat (first | (with_reducible first | exact HB.out | apply below_alloc | apply pw_below_drewN | apply below_drew1) | exact HB.out)))); have n1_ := Aside0.mk (below_step (by repeat (first | (with_reducible first | exact HB.out | apply below_alloc | apply pw_below_drewN | apply below_drew1) | exact HB.out)) hb); clear HB; have HO193 := n0_; have HB := n1_; clear n0_ n1_; (try clear hb); (try clear hb2); (try clear hk); (try clear hi); (try clear ho0)))
          go_ret2
          exact ⟨_, by first | rfl | (simp [errW_none, errW_some] <;> rfl) | (simp only [← hji6, ← hji8]; first | rfl | (simp [errW_none, errW_some] <;> rfl)) | (simp [*, errW_none, errW_some] <;> rfl), by (with_reducible repeat (first | apply Kd.R_alloc | apply Kd.R_drewN | apply Kd.R_drew)); exact HO193.out, by repeat (first | (with_reducible first | exact HB.out | apply below_alloc | apply pw_below_drewN | apply below_drew1) | exact HB.out)⟩
        · rw [if_neg c9] at H
          have c9b0 : ((ji8) == 0) = false := beq_eq_false_iff_ne.mpr c9
          have c9b1 : ((ji8) != 0) = true := bne_iff_ne.mpr c9
          simp only [Option.some.injEq, Prod.mk.injEq] at H
          obtain ⟨rfl, rfl⟩ := H
          go_enter Try.func28, Try.ntmps28
          go_wp2
          go_ret2
          exact ⟨_, by first | rfl | (simp [errW_none, errW_some] <;> rfl) | (simp only [← hji6, ← hji8]; first | rfl | (simp [errW_none, errW_some] <;> rfl)) | (simp [*, errW_none, errW_some] <;> rfl), by first | exact Kd.R_nil _ _ _ _ _ | exact Kd.N_nil _ _ _ _ _ | exact Kd.V_nil _ _ _ _ _ | exact Kd.Q_nil _ _ _ _ _ | exact Kd.S_nil _ _ _ _ _, by repeat (first | (with_reducible first | exact HB.out | apply below_alloc | apply pw_below_drewN | apply below_drew1) | exact HB.out)⟩
def thalwegref06_Epoch.f (a0 : Int) : Option (Bool) := if a0 ≥ 0 then (some (decide (a0 ≤ 4294967295))) else (some false)
set_option maxHeartbeats 8000000 in
set_option maxRecDepth 100000 in
theorem thalwegref06_Epoch.calls (a0 : Int) (r : Bool) (w : World) (h : thalwegref06_Epoch.f a0 = some r) :
    Calls Try.prog 38 #[.int .i64 a0] w fun e w' => e = .returned (.bool r) ∧ Drawn0 w w' := by
  have H : (if a0 ≥ 0 then (some (decide (a0 ≤ 4294967295))) else (some false)) = some r := h
  clear h
  by_cases c2 : a0 ≥ 0
  · rw [if_pos c2] at H
    have c2b0 : decide (0 ≤ a0) = true := decide_eq_true c2
    clear c2
    obtain rfl := Option.some.inj H
    go_enter Try.func38, Try.ntmps38
    go_wp2
    go_ret
    exact ⟨by first | rfl | (simp; done) | (simp [*]; done), by repeat (first | exact Drawn0.refl _ | apply Drawn0.step)⟩
  · rw [if_neg c2] at H
    have c2b0 : decide (0 ≤ a0) = false := decide_eq_false c2
    clear c2
    obtain rfl := Option.some.inj H
    go_enter Try.func38, Try.ntmps38
    go_wp2
    go_ret
    exact ⟨by first | rfl | (simp; done) | (simp [*]; done), by repeat (first | exact Drawn0.refl _ | apply Drawn0.step)⟩
def thalwegref07_One.f (a0_0 : Int) (a0_1 : Int) (a0_2 : Int) (a0_3 : Int) : Option (Bool) := if a0_0 ≥ 0 then (if a0_0 < 64 then ((thalwegref06_Epoch.f a0_1).bind fun t195 => (if t195 = true then (if a0_2 ≥ 0 then (if a0_2 ≤ 65535 then (if a0_3 ≥ 0 then (some (decide (a0_3 ≤ 65535))) else (some false)) else (some false)) else (some false)) else (some false))) else (some false)) else (some false)
set_option maxHeartbeats 8000000 in
set_option maxRecDepth 100000 in
theorem thalwegref07_One.calls (a0_0 : Int) (a0_1 : Int) (a0_2 : Int) (a0_3 : Int) (r : Bool) (w : World) (h : thalwegref07_One.f a0_0 a0_1 a0_2 a0_3 = some r) :
    Calls Try.prog 32 #[.agg #[.int .i64 a0_0, .int .i64 a0_1, .int .i64 a0_2, .int .i64 a0_3]] w fun e w' => e = .returned (.bool r) ∧ Below w.heap.size w w' := by
  have hu24 := Try.underlying24
  have HB := Aside0.mk (Below.refl w.heap.size w)
  have H : (if a0_0 ≥ 0 then (if a0_0 < 64 then ((thalwegref06_Epoch.f a0_1).bind fun t195 => (if t195 = true then (if a0_2 ≥ 0 then (if a0_2 ≤ 65535 then (if a0_3 ≥ 0 then (some (decide (a0_3 ≤ 65535))) else (some false)) else (some false)) else (some false)) else (some false))) else (some false)) else (some false)) = some r := h
  clear h
  by_cases c2 : a0_0 ≥ 0
  · rw [if_pos c2] at H
    have c2b0 : decide (0 ≤ a0_0) = true := decide_eq_true c2
    clear c2
    by_cases c3 : a0_0 < 64
    · rw [if_pos c3] at H
      have c3b0 : decide (a0_0 < 64) = true := decide_eq_true c3
      clear c3
      replace H := Option.bind_eq_some_iff.mp H
      obtain ⟨t195, A40, H⟩ := H
      replace H : (if t195 = true then (if a0_2 ≥ 0 then (if a0_2 ≤ 65535 then (if a0_3 ≥ 0 then (some (decide (a0_3 ≤ 65535))) else (some false)) else (some false)) else (some false)) else (some false)) = some r := H
      have A4 := Aside0.mk A40
      clear A40
      by_cases c5 : t195 = true
      · subst c5
        have H1 : (if a0_2 ≥ 0 then (if a0_2 ≤ 65535 then (if a0_3 ≥ 0 then (some (decide (a0_3 ≤ 65535))) else (some false)) else (some false)) else (some false)) = some r := by rw [if_pos rfl] at H; exact H
        clear H
        have H := H1
        clear H1
        by_cases c6 : a0_2 ≥ 0
        · rw [if_pos c6] at H
          have c6b0 : decide (0 ≤ a0_2) = true := decide_eq_true c6
          clear c6
          by_cases c7 : a0_2 ≤ 65535
          · rw [if_pos c7] at H
            have c7b0 : decide (a0_2 ≤ 65535) = true := decide_eq_true c7
            clear c7
            by_cases c8 : a0_3 ≥ 0
            · rw [if_pos c8] at H
              have c8b0 : decide (0 ≤ a0_3) = true := decide_eq_true c8
              clear c8
              obtain rfl := Option.some.inj H
              go_enter Try.func32, Try.ntmps32
              go_wp2_with (first | ((with_reducible refine gate_dst (N := 1) rfl ?_); refine box_event ?hg (N := 1) ?hd (cs := #[.int .i64 a0_0, .int .i64 a0_1, .int .i64 a0_2, .int .i64 a0_3]) (t := 24) ?hr ?_; (case hd => rfl); (case hg => rfl); (case hr => first | (go_simp; done) | (go_simp; rfl)); intro gb194 hg w9 hbox hb; have n0_ := Aside0.mk (below_step (by repeat (first | (with_reducible first | exact HB.out | apply below_alloc | apply pw_below_drewN | apply below_drew1) | exact HB.out)) hb); have n1_ := Aside0.mk (hbox); have n2_ := Aside0.mk ((by rw [hg]; exact (below_size (by repeat (first | (with_reducible first | exact HB.out | apply below_alloc | apply pw_below_drewN | apply below_drew1) | exact HB.out))) : w.heap.size ≤ gb194)); have n3_ := Aside0.mk ((by rw [hg]; exact (below_size (by repeat (first | (with_reducible first | exact HB.out | apply below_alloc | apply pw_below_drewN | apply below_drew1) | exact HB.out))) : w.heap.size ≤ gb194)); clear HB; have HB := n0_; have BK194 := n1_; have GW194 := n2_; have GE194 := n3_; clear n0_ n1_ n2_ n3_; clear hb hbox hg; have hcz10_0 : w9.cell? ⟨gb194, 0, none⟩ = some (.int .i64 a0_0) := (blk_cell BK194.out 0).trans rfl; have hcz10_1 : w9.cell? ⟨gb194, 1, none⟩ = some (.int .i64 a0_1) := (blk_cell BK194.out 1).trans rfl; have hcz10_2 : w9.cell? ⟨gb194, 2, none⟩ = some (.int .i64 a0_2) := (blk_cell BK194.out 2).trans rfl; have hcz10_3 : w9.cell? ⟨gb194, 3, none⟩ = some (.int .i64 a0_3) := (blk_cell BK194.out 3).trans rfl; have hfz10_0 := blk_frozen BK194.out 0; have hfz10_1 := blk_frozen BK194.out 1; have hfz10_2 := blk_frozen BK194.out 2; have hfz10_3 := blk_frozen BK194.out 3) | (go_at_call 38; (with_reducible refine (thalwegref06_Epoch.calls a0_1 true _ A4.out).mono ?_); rintro e w' ⟨rfl, ⟨nd, rfl⟩⟩))
              go_ret
              exact ⟨by first | rfl | (simp [errW_none, errW_some] <;> rfl) | (simp [*, errW_none, errW_some] <;> rfl), by repeat (first | (with_reducible first | exact HB.out | apply below_alloc | apply pw_below_drewN | apply below_drew1 | refine below_set ?_ GE194.out) | exact HB.out)⟩
            · rw [if_neg c8] at H
              have c8b0 : decide (0 ≤ a0_3) = false := decide_eq_false c8
              clear c8
              obtain rfl := Option.some.inj H
              go_enter Try.func32, Try.ntmps32
              go_wp2_with (first | ((with_reducible refine gate_dst (N := 1) rfl ?_); refine box_event ?hg (N := 1) ?hd (cs := #[.int .i64 a0_0, .int .i64 a0_1, .int .i64 a0_2, .int .i64 a0_3]) (t := 24) ?hr ?_; (case hd => rfl); (case hg => rfl); (case hr => first | (go_simp; done) | (go_simp; rfl)); intro gb194 hg w11 hbox hb; have n0_ := Aside0.mk (below_step (by repeat (first | (with_reducible first | exact HB.out | apply below_alloc | apply pw_below_drewN | apply below_drew1) | exact HB.out)) hb); have n1_ := Aside0.mk (hbox); have n2_ := Aside0.mk ((by rw [hg]; exact (below_size (by repeat (first | (with_reducible first | exact HB.out | apply below_alloc | apply pw_below_drewN | apply below_drew1) | exact HB.out))) : w.heap.size ≤ gb194)); have n3_ := Aside0.mk ((by rw [hg]; exact (below_size (by repeat (first | (with_reducible first | exact HB.out | apply below_alloc | apply pw_below_drewN | apply below_drew1) | exact HB.out))) : w.heap.size ≤ gb194)); clear HB; have HB := n0_; have BK194 := n1_; have GW194 := n2_; have GE194 := n3_; clear n0_ n1_ n2_ n3_; clear hb hbox hg; have hcz12_0 : w11.cell? ⟨gb194, 0, none⟩ = some (.int .i64 a0_0) := (blk_cell BK194.out 0).trans rfl; have hcz12_1 : w11.cell? ⟨gb194, 1, none⟩ = some (.int .i64 a0_1) := (blk_cell BK194.out 1).trans rfl; have hcz12_2 : w11.cell? ⟨gb194, 2, none⟩ = some (.int .i64 a0_2) := (blk_cell BK194.out 2).trans rfl; have hcz12_3 : w11.cell? ⟨gb194, 3, none⟩ = some (.int .i64 a0_3) := (blk_cell BK194.out 3).trans rfl; have hfz12_0 := blk_frozen BK194.out 0; have hfz12_1 := blk_frozen BK194.out 1; have hfz12_2 := blk_frozen BK194.out 2; have hfz12_3 := blk_frozen BK194.out 3) | (go_at_call 38; (with_reducible refine (thalwegref06_Epoch.calls a0_1 true _ A4.out).mono ?_); rintro e w' ⟨rfl, ⟨nd, rfl⟩⟩))
              go_ret
              exact ⟨by first | rfl | (simp [errW_none, errW_some] <;> rfl) | (simp [*, errW_none, errW_some] <;> rfl), by repeat (first | (with_reducible first | exact HB.out | apply below_alloc | apply pw_below_drewN | apply below_drew1 | refine below_set ?_ GE194.out) | exact HB.out)⟩
          · rw [if_neg c7] at H
            have c7b0 : decide (a0_2 ≤ 65535) = false := decide_eq_false c7
            clear c7
            obtain rfl := Option.some.inj H
            go_enter Try.func32, Try.ntmps32
            go_wp2_with (first | ((with_reducible refine gate_dst (N := 1) rfl ?_); refine box_event ?hg (N := 1) ?hd (cs := #[.int .i64 a0_0, .int .i64 a0_1, .int .i64 a0_2, .int .i64 a0_3]) (t := 24) ?hr ?_; (case hd => rfl); (case hg => rfl); (case hr => first | (go_simp; done) | (go_simp; rfl)); intro gb194 hg w13 hbox hb; have n0_ := Aside0.mk (below_step (by repeat (first | (with_reducible first | exact HB.out | apply below_alloc | apply pw_below_drewN | apply below_drew1) | exact HB.out)) hb); have n1_ := Aside0.mk (hbox); have n2_ := Aside0.mk ((by rw [hg]; exact (below_size (by repeat (first | (with_reducible first | exact HB.out | apply below_alloc | apply pw_below_drewN | apply below_drew1) | exact HB.out))) : w.heap.size ≤ gb194)); have n3_ := Aside0.mk ((by rw [hg]; exact (below_size (by repeat (first | (with_reducible first | exact HB.out | apply below_alloc | apply pw_below_drewN | apply below_drew1) | exact HB.out))) : w.heap.size ≤ gb194)); clear HB; have HB := n0_; have BK194 := n1_; have GW194 := n2_; have GE194 := n3_; clear n0_ n1_ n2_ n3_; clear hb hbox hg; have hcz14_0 : w13.cell? ⟨gb194, 0, none⟩ = some (.int .i64 a0_0) := (blk_cell BK194.out 0).trans rfl; have hcz14_1 : w13.cell? ⟨gb194, 1, none⟩ = some (.int .i64 a0_1) := (blk_cell BK194.out 1).trans rfl; have hcz14_2 : w13.cell? ⟨gb194, 2, none⟩ = some (.int .i64 a0_2) := (blk_cell BK194.out 2).trans rfl; have hcz14_3 : w13.cell? ⟨gb194, 3, none⟩ = some (.int .i64 a0_3) := (blk_cell BK194.out 3).trans rfl; have hfz14_0 := blk_frozen BK194.out 0; have hfz14_1 := blk_frozen BK194.out 1; have hfz14_2 := blk_frozen BK194.out 2; have hfz14_3 := blk_frozen BK194.out 3) | (go_at_call 38; (with_reducible refine (thalwegref06_Epoch.calls a0_1 true _ A4.out).mono ?_); rintro e w' ⟨rfl, ⟨nd, rfl⟩⟩))
            go_ret
            exact ⟨by first | rfl | (simp [errW_none, errW_some] <;> rfl) | (simp [*, errW_none, errW_some] <;> rfl), by repeat (first | (with_reducible first | exact HB.out | apply below_alloc | apply pw_below_drewN | apply below_drew1 | refine below_set ?_ GE194.out) | exact HB.out)⟩
        · rw [if_neg c6] at H
          have c6b0 : decide (0 ≤ a0_2) = false := decide_eq_false c6
          clear c6
          obtain rfl := Option.some.inj H
          go_enter Try.func32, Try.ntmps32
          go_wp2_with (first | ((with_reducible refine gate_dst (N := 1) rfl ?_); refine box_event ?hg (N := 1) ?hd (cs := #[.int .i64 a0_0, .int .i64 a0_1, .int .i64 a0_2, .int .i64 a0_3]) (t := 24) ?hr ?_; (case hd => rfl); (case hg => rfl); (case hr => first | (go_simp; done) | (go_simp; rfl)); intro gb194 hg w15 hbox hb; have n0_ := Aside0.mk (below_step (by repeat (first | (with_reducible first | exact HB.out | apply below_alloc | apply pw_below_drewN | apply below_drew1) | exact HB.out)) hb); have n1_ := Aside0.mk (hbox); have n2_ := Aside0.mk ((by rw [hg]; exact (below_size (by repeat (first | (with_reducible first | exact HB.out | apply below_alloc | apply pw_below_drewN | apply below_drew1) | exact HB.out))) : w.heap.size ≤ gb194)); have n3_ := Aside0.mk ((by rw [hg]; exact (below_size (by repeat (first | (with_reducible first | exact HB.out | apply below_alloc | apply pw_below_drewN | apply below_drew1) | exact HB.out))) : w.heap.size ≤ gb194)); clear HB; have HB := n0_; have BK194 := n1_; have GW194 := n2_; have GE194 := n3_; clear n0_ n1_ n2_ n3_; clear hb hbox hg; have hcz16_0 : w15.cell? ⟨gb194, 0, none⟩ = some (.int .i64 a0_0) := (blk_cell BK194.out 0).trans rfl; have hcz16_1 : w15.cell? ⟨gb194, 1, none⟩ = some (.int .i64 a0_1) := (blk_cell BK194.out 1).trans rfl; have hcz16_2 : w15.cell? ⟨gb194, 2, none⟩ = some (.int .i64 a0_2) := (blk_cell BK194.out 2).trans rfl; have hcz16_3 : w15.cell? ⟨gb194, 3, none⟩ = some (.int .i64 a0_3) := (blk_cell BK194.out 3).trans rfl; have hfz16_0 := blk_frozen BK194.out 0; have hfz16_1 := blk_frozen BK194.out 1; have hfz16_2 := blk_frozen BK194.out 2; have hfz16_3 := blk_frozen BK194.out 3) | (go_at_call 38; (with_reducible refine (thalwegref06_Epoch.calls a0_1 true _ A4.out).mono ?_); rintro e w' ⟨rfl, ⟨nd, rfl⟩⟩))
          go_ret
          exact ⟨by first | rfl | (simp [errW_none, errW_some] <;> rfl) | (simp [*, errW_none, errW_some] <;> rfl), by repeat (first | (with_reducible first | exact HB.out | apply below_alloc | apply pw_below_drewN | apply below_drew1 | refine below_set ?_ GE194.out) | exact HB.out)⟩
      · replace c5 := Bool.eq_false_iff.mpr c5
        subst c5
        have H1 : (some false) = some r := by rw [if_neg (show ¬ (false = true) by decide)] at H; exact H
        clear H
        have H := H1
        clear H1
        obtain rfl := Option.some.inj H
        go_enter Try.func32, Try.ntmps32
        go_wp2_with (first | ((with_reducible refine gate_dst (N := 1) rfl ?_); refine box_event ?hg (N := 1) ?hd (cs := #[.int .i64 a0_0, .int .i64 a0_1, .int .i64 a0_2, .int .i64 a0_3]) (t := 24) ?hr ?_; (case hd => rfl); (case hg => rfl); (case hr => first | (go_simp; done) | (go_simp; rfl)); intro gb194 hg w17 hbox hb; have n0_ := Aside0.mk (below_step (by repeat (first | (with_reducible first | exact HB.out | apply below_alloc | apply pw_below_drewN | apply below_drew1) | exact HB.out)) hb); have n1_ := Aside0.mk (hbox); have n2_ := Aside0.mk ((by rw [hg]; exact (below_size (by repeat (first | (with_reducible first | exact HB.out | apply below_alloc | apply pw_below_drewN | apply below_drew1) | exact HB.out))) : w.heap.size ≤ gb194)); have n3_ := Aside0.mk ((by rw [hg]; exact (below_size (by repeat (first | (with_reducible first | exact HB.out | apply below_alloc | apply pw_below_drewN | apply below_drew1) | exact HB.out))) : w.heap.size ≤ gb194)); clear HB; have HB := n0_; have BK194 := n1_; have GW194 := n2_; have GE194 := n3_; clear n0_ n1_ n2_ n3_; clear hb hbox hg; have hcz18_0 : w17.cell? ⟨gb194, 0, none⟩ = some (.int .i64 a0_0) := (blk_cell BK194.out 0).trans rfl; have hcz18_1 : w17.cell? ⟨gb194, 1, none⟩ = some (.int .i64 a0_1) := (blk_cell BK194.out 1).trans rfl; have hcz18_2 : w17.cell? ⟨gb194, 2, none⟩ = some (.int .i64 a0_2) := (blk_cell BK194.out 2).trans rfl; have hcz18_3 : w17.cell? ⟨gb194, 3, none⟩ = some (.int .i64 a0_3) := (blk_cell BK194.out 3).trans rfl; have hfz18_0 := blk_frozen BK194.out 0; have hfz18_1 := blk_frozen BK194.out 1; have hfz18_2 := blk_frozen BK194.out 2; have hfz18_3 := blk_frozen BK194.out 3) | (go_at_call 38; (with_reducible refine (thalwegref06_Epoch.calls a0_1 false _ A4.out).mono ?_); rintro e w' ⟨rfl, ⟨nd, rfl⟩⟩))
        go_ret
        exact ⟨by first | rfl | (simp [errW_none, errW_some] <;> rfl) | (simp [*, errW_none, errW_some] <;> rfl), by repeat (first | (with_reducible first | exact HB.out | apply below_alloc | apply pw_below_drewN | apply below_drew1 | refine below_set ?_ GE194.out) | exact HB.out)⟩
    · rw [if_neg c3] at H
      have c3b0 : decide (a0_0 < 64) = false := decide_eq_false c3
      clear c3
      obtain rfl := Option.some.inj H
      go_enter Try.func32, Try.ntmps32
      go_wp2_with (first | ((with_reducible refine gate_dst (N := 1) rfl ?_); refine box_event ?hg (N := 1) ?hd (cs := #[.int .i64 a0_0, .int .i64 a0_1, .int .i64 a0_2, .int .i64 a0_3]) (t := 24) ?hr ?_; (case hd => rfl); (case hg => rfl); (case hr => first | (go_simp; done) | (go_simp; rfl)); intro gb194 hg w19 hbox hb; have n0_ := Aside0.mk (below_step (by repeat (first | (with_reducible first | exact HB.out | apply below_alloc | apply pw_below_drewN | apply below_drew1) | exact HB.out)) hb); have n1_ := Aside0.mk (hbox); have n2_ := Aside0.mk ((by rw [hg]; exact (below_size (by repeat (first | (with_reducible first | exact HB.out | apply below_alloc | apply pw_below_drewN | apply below_drew1) | exact HB.out))) : w.heap.size ≤ gb194)); have n3_ := Aside0.mk ((by rw [hg]; exact (below_size (by repeat (first | (with_reducible first | exact HB.out | apply below_alloc | apply pw_below_drewN | apply below_drew1) | exact HB.out))) : w.heap.size ≤ gb194)); clear HB; have HB := n0_; have BK194 := n1_; have GW194 := n2_; have GE194 := n3_; clear n0_ n1_ n2_ n3_; clear hb hbox hg; have hcz20_0 : w19.cell? ⟨gb194, 0, none⟩ = some (.int .i64 a0_0) := (blk_cell BK194.out 0).trans rfl; have hcz20_1 : w19.cell? ⟨gb194, 1, none⟩ = some (.int .i64 a0_1) := (blk_cell BK194.out 1).trans rfl; have hcz20_2 : w19.cell? ⟨gb194, 2, none⟩ = some (.int .i64 a0_2) := (blk_cell BK194.out 2).trans rfl; have hcz20_3 : w19.cell? ⟨gb194, 3, none⟩ = some (.int .i64 a0_3) := (blk_cell BK194.out 3).trans rfl; have hfz20_0 := blk_frozen BK194.out 0; have hfz20_1 := blk_frozen BK194.out 1; have hfz20_2 := blk_frozen BK194.out 2; have hfz20_3 := blk_frozen BK194.out 3))
      go_ret
      exact ⟨by first | rfl | (simp [errW_none, errW_some] <;> rfl) | (simp [*, errW_none, errW_some] <;> rfl), by repeat (first | (with_reducible first | exact HB.out | apply below_alloc | apply pw_below_drewN | apply below_drew1 | refine below_set ?_ GE194.out) | exact HB.out)⟩
  · rw [if_neg c2] at H
    have c2b0 : decide (0 ≤ a0_0) = false := decide_eq_false c2
    clear c2
    obtain rfl := Option.some.inj H
    go_enter Try.func32, Try.ntmps32
    go_wp2_with (first | ((with_reducible refine gate_dst (N := 1) rfl ?_); refine box_event ?hg (N := 1) ?hd (cs := #[.int .i64 a0_0, .int .i64 a0_1, .int .i64 a0_2, .int .i64 a0_3]) (t := 24) ?hr ?_; (case hd => rfl); (case hg => rfl); (case hr => first | (go_simp; done) | (go_simp; rfl)); intro gb194 hg w21 hbox hb; have n0_ := Aside0.mk (below_step (by repeat (first | (with_reducible first | exact HB.out | apply below_alloc | apply pw_below_drewN | apply below_drew1) | exact HB.out)) hb); have n1_ := Aside0.mk (hbox); have n2_ := Aside0.mk ((by rw [hg]; exact (below_size (by repeat (first | (with_reducible first | exact HB.out | apply below_alloc | apply pw_below_drewN | apply below_drew1) | exact HB.out))) : w.heap.size ≤ gb194)); have n3_ := Aside0.mk ((by rw [hg]; exact (below_size (by repeat (first | (with_reducible first | exact HB.out | apply below_alloc | apply pw_below_drewN | apply below_drew1) | exact HB.out))) : w.heap.size ≤ gb194)); clear HB; have HB := n0_; have BK194 := n1_; have GW194 := n2_; have GE194 := n3_; clear n0_ n1_ n2_ n3_; clear hb hbox hg; have hcz22_0 : w21.cell? ⟨gb194, 0, none⟩ = some (.int .i64 a0_0) := (blk_cell BK194.out 0).trans rfl; have hcz22_1 : w21.cell? ⟨gb194, 1, none⟩ = some (.int .i64 a0_1) := (blk_cell BK194.out 1).trans rfl; have hcz22_2 : w21.cell? ⟨gb194, 2, none⟩ = some (.int .i64 a0_2) := (blk_cell BK194.out 2).trans rfl; have hcz22_3 : w21.cell? ⟨gb194, 3, none⟩ = some (.int .i64 a0_3) := (blk_cell BK194.out 3).trans rfl; have hfz22_0 := blk_frozen BK194.out 0; have hfz22_1 := blk_frozen BK194.out 1; have hfz22_2 := blk_frozen BK194.out 2; have hfz22_3 := blk_frozen BK194.out 3))
    go_ret
    exact ⟨by first | rfl | (simp [errW_none, errW_some] <;> rfl) | (simp [*, errW_none, errW_some] <;> rfl), by repeat (first | (with_reducible first | exact HB.out | apply below_alloc | apply pw_below_drewN | apply below_drew1 | refine below_set ?_ GE194.out) | exact HB.out)⟩
end Go.Proofs.Ytolfbnkdmafomaa.P
namespace Go.Proofs.Ytolfbnkdmafomaa.P
open Go.RowKit Go.Proofs.YtolfbnkdmafomaaW.PrintWords Go.Proofs.YtolfbnkdmafomaaW.PrintLast Go.Proofs.YtolfbnkdmafomaaW.PrintMore
theorem two256 (n : Nat) : (2 : Int) ^ (8 * n) = 256 ^ n := by rw [Int.pow_mul]; rfl
theorem wire_Put_eq (v n : Int) (hv : (Lit.int .i64 v).wf = true) : wire_Put.f v n = some (putSpec v n) := by
  have hb := bnd64 hv
  unfold wire_Put.f putSpec
  by_cases c1 : n < 1
  · rw [if_pos c1, if_neg (by omega)]
  rw [if_neg c1]
  by_cases c2 : n > 7
  · rw [if_pos c2, if_neg (by omega)]
  rw [if_neg c2]
  by_cases c3 : v < 0
  · rw [if_pos c3, if_neg (by omega)]
  rw [if_neg c3, w64 (x := 8 * n) (by omega) (by omega), if_pos (by omega)]
  obtain ⟨m, rfl⟩ := Int.eq_ofNat_of_zero_le (show 0 ≤ n by omega)
  have hs : shr .i64 v (8 * (m : Int)) = v / 256 ^ m := by
    unfold shr
    rw [Nat.min_eq_left (by simp [IntKind.bits]; omega), show (8 * (m : Int)).toNat = 8 * m by omega, two256]
  have hp := pow256_pos m
  rw [hs, Int.toNat_natCast]
  by_cases c4 : v < 256 ^ m
  · rw [if_pos (Int.ediv_eq_zero_of_lt (by omega) c4), if_pos ⟨by omega, by omega, by omega, c4⟩]
    unfold wire_bytes.f
    rw [wrap_u64, Int.emod_eq_of_lt (by omega) (by omega), if_pos (by omega)]
    rfl
  · rw [if_neg (fun e => c4 (by have h5 := Int.emod_def v (256 ^ m); rw [e, Int.mul_zero] at h5; have h6 := Int.emod_lt_of_pos v hp; omega)), if_neg (by omega)]
end Go.Proofs.Ytolfbnkdmafomaa.P
namespace Go.Proofs.Ytolfbnkdmafomaa.P
open Go.RowKit Go.Proofs.YtolfbnkdmafomaaW.PrintWords Go.Proofs.YtolfbnkdmafomaaW.PrintLast Go.Proofs.YtolfbnkdmafomaaW.PrintMore
attribute [local go_sem] max2_int min2_int max_two min_two max_three min_three max_four min_four
def abSz : Nat → Nat
  | 0 => 1 | 1 => 4 | _ => 2
def fB (x : S24) : Nat → List Int
  | 0 => []
  | d + 1 => be (abSz (3 - d)) (getF (3 - d) x) ++ fB x d
def aB (x : S24) : List Int := fB x 4
theorem aB_length (x : S24) : (aB x).length = 9 := by simp [aB, fB, abSz, be_length]
def ackB (l : List S24) : List Int := ((l.length : Int) % 256) :: l.flatMap aB
def ack_Bytes.f (l : List S24) : Option (List Int × Int) := if l.length ≤ 1000000 then some (if RA l then (ackB l, 0) else ([], 1)) else none
theorem upA_mem : ∀ (l : List S24) (p : Int), upA p l = true → ∀ x ∈ l, SA x := by
  intro l
  induction l with
  | nil => intro p _ x hx; simp at hx
  | cons a l ih =>
    intro p h x hx
    simp only [upA, Bool.and_eq_true, decide_eq_true_eq] at h
    rcases List.mem_cons.1 hx with rfl | hx
    · exact h.1.1
    · exact ih _ h.2 x hx
theorem rd_ack_mem (l : List S24) (i : Int) (h0 : 0 ≤ i) (h1 : i < l.length) : rd_T24 l i ∈ l :=
  List.mem_of_mem_drop (i := i.toNat) (by rw [acks_get l i h0 h1]; exact List.mem_cons_self)
theorem wf64 {n : Int} (h0 : -9223372036854775808 ≤ n) (h1 : n ≤ 9223372036854775807) : (Lit.int .i64 n).wf = true := by
  simp [Lit.wf, IntKind.min, IntKind.max, IntKind.bits, IntKind.signed]; omega
theorem put_fit (x : S24) (hx : SA x) (j : Nat) (hj : j < 4) : wire_Put.f (getF j x) (abSz j : Int) = some (be (abSz j) (getF j x), 0) := by
  obtain ⟨h0, h1, h2, h3⟩ := hx
  have key : ∀ (v : Int) (n : Nat), 1 ≤ n → n ≤ 7 → 0 ≤ v → v < 256 ^ n → v ≤ 4294967295 → wire_Put.f v (n : Int) = some (be n v, 0) := by
    intro v n n1 n7 v0 v1 v2
    rw [wire_Put_eq v n (wf64 (by omega) (by omega))]
    unfold putSpec
    rw [if_pos ⟨by omega, by omega, v0, by rw [Int.toNat_natCast]; exact v1⟩, Int.toNat_natCast]
  obtain rfl | rfl | rfl | rfl : j = 0 ∨ j = 1 ∨ j = 2 ∨ j = 3 := by omega
  · exact key x.f0 1 (by omega) (by omega) (by omega) (by rw [show (256 : Int) ^ 1 = 256 by decide]; omega) (by omega)
  · exact key x.f1 4 (by omega) (by omega) (by omega) (by rw [show (256 : Int) ^ 4 = 4294967296 by decide]; omega) (by omega)
  · exact key x.f2 2 (by omega) (by omega) (by omega) (by rw [show (256 : Int) ^ 2 = 65536 by decide]; omega) (by omega)
  · exact key x.f3 2 (by omega) (by omega) (by omega) (by rw [show (256 : Int) ^ 2 = 65536 by decide]; omega) (by omega)
theorem fld_cells' {W : World} {gf g o jn : Nat} {ad : Addr} {j : Int} (BF : W.heap[gf]? = some (.cells (FldC g o) 60 (0, 0))) (had : ad = ⟨gf, 0, none⟩) (hk : jn < 4) (hj : j.toNat = jn) :
    W.cell? (ad.add (j.toNat * 2)) = some (.pointer (some ⟨g, o + jn, none⟩)) ∧ W.cell? ⟨(ad.add (j.toNat * 2)).block, (ad.add (j.toNat * 2)).off + 1, none⟩ = some (.int .i64 (abSz jn : Int)) := by
  have hl : (FldC g o)[jn * 2]? = some (.pointer (some ⟨g, o + jn, none⟩)) ∧ (FldC g o)[jn * 2 + 1]? = some (.int .i64 (abSz jn : Int)) := by
    obtain rfl | rfl | rfl | rfl : jn = 0 ∨ jn = 1 ∨ jn = 2 ∨ jn = 3 := by omega
    all_goals exact ⟨rfl, rfl⟩
  refine ⟨?_, ?_⟩
  · rw [had, add_plain, hj, blk_cell BF, hl.1]
  · rw [had, add_plain, hj, blk_cell BF, hl.2]
def ack_Bytes.T11 : Bool × List (List Nat × List Nat) := (true, [([], []), ([0], [0]), ([1], [1]), ([2], [2]), ([], []), ([4], [4]), ([3, 5], [3, 5]), ([6], [6]), ([7], [7]), ([7], [7]), ([8, 6, 0, 1, 2, 3, 4, 5, 6, 7, 8], [8]), ([9, 10, 0, 1, 2, 3, 4, 5, 6, 7, 8, 9, 10], [9])])
def ack_Bytes.B11 : List Nat := [0, 1, 3, 7, 0, 16, 63, 127, 255, 255, 511, 2047]
theorem ack_Bytes.tab11 : rtab .any (opsOf Try.f13 11) = ack_Bytes.T11 := by kernel_rfl
theorem ack_Bytes.bits11 : waitsOk ack_Bytes.T11.2 ack_Bytes.B11 = true := by kernel_rfl
set_option maxHeartbeats 8000000 in
set_option maxRecDepth 100000 in
theorem ack_Bytes.calls (A0 : Option Addr) (c0 : Nat) (l0 : List S24) (r1 : List Int) (r2 : Int) (w : World) (hr0 : Kd.C k24 w A0 l0.length l0) (hc0 : l0.length ≤ c0) (h : ack_Bytes.f l0 = some (r1, r2)) :
    Calls Try.prog 13 #[.slice A0 l0.length c0] w fun e w' => ∃ v0_ : Value, e = .returned (.tuple #[v0_, .int .i64 r2]) ∧ Kd.R (Kd.int .u8) 5 w' w.heap.size (fun _ => True) v0_ r1 ∧ Below w.heap.size w w' := by
  obtain ⟨hL0, hP⟩ : l0.length ≤ 1000000 ∧ (if RA l0 then (ackB l0, (0 : Int)) else ([], 1)) = (r1, r2) := by
    unfold ack_Bytes.f at h
    split at h
    · rename_i hc
      exact ⟨hc, Option.some.inj h⟩
    · exact absurd h (by simp)
  have hu24 := Try.underlying24
  have hu60 := Try.underlying60
  obtain ⟨K1, hK1⟩ := (acheck_ev l0 hL0).rounds
  have HR0 := Aside0.mk hr0
  have HC0 := Aside0.mk hc0
  clear h hL0 hr0 hc0
  by_cases c : RA l0
  case neg =>
    rw [if_neg c] at hP hK1
    simp only [Prod.mk.injEq] at hP
    obtain ⟨rfl, rfl⟩ := hP
    have HK2 := Aside0.mk hK1
    clear hK1 c
    go_enter Try.func13, Try.ntmps13
    go_wp2_with (((with_reducible refine gate_callee (f := 16) rfl ?_); refine goesL_ (some 13) rfl rfl Try.func16 (by kernel_rfl) rfl #[.slice A0 l0.length c0] rfl (by (try simp only [List.map_toArray, List.map_cons, List.map_nil]); first | done | rfl) ?_; (with_reducible refine (ack_Check.calls K1 A0 c0 l0 _ _ HR0.out HC0.out HK2.out).mono ?_); rintro e w2 ⟨rfl, hb2⟩; refine ⟨_, rfl, ?_⟩; have HB2 := Aside0.mk hb2; clear hb2))
    go_ret2
    exact ⟨_, rfl, Kd.R_nil _ _ _ _ _, HB2.out⟩
  rw [if_pos c] at hP hK1
  simp only [Prod.mk.injEq] at hP
  obtain ⟨hP, rfl⟩ := hP
  have HK2 := Aside0.mk hK1
  have HP := Aside0.mk hP
  have HS := Aside0.mk (upA_mem l0 _ c.2.2)
  have hn : l0.length ≤ 64 := c.2.1
  have HN := Aside0.mk hn
  have hu8 : IntKind.u8.wrap (l0.length : Int) = (l0.length : Int) % 256 := by simp [IntKind.wrap, IntKind.bits, IntKind.signed]
  clear hK1 c hP
  have hb256 : (l0.length : Int) % 256 = (l0.length : Int) := by omega
  clear hn hb256
  go_enter Try.func13, Try.ntmps13
  go_wp2_with (first
    | ((with_reducible refine gate_callee (f := 16) rfl ?_); refine goesL_ (some 13) rfl rfl Try.func16 (by kernel_rfl) rfl #[.slice A0 l0.length c0] rfl (by (try simp only [List.map_toArray, List.map_cons, List.map_nil]); first | done | rfl) ?_; (with_reducible refine (ack_Check.calls K1 A0 c0 l0 _ _ HR0.out HC0.out HK2.out).mono ?_); rintro e w2 ⟨rfl, hb2⟩; refine ⟨_, rfl, ?_⟩; have HB2 := Aside0.mk hb2; clear hb2)
    | ((with_reducible refine gate_dst (N := 20) rfl ?_); refine Kd.R_lit (Kd.int .u8) _ 5 ?hg (N := 20) ?hd (xs := ([((l0.length : Int)) % 256] : List Int)) (inner := [.int .u8 (((l0.length : Int)) % 256)]) (ok := fun _ => True) (okp := fun _ => True) ?hr ?hp (fun _ hk => hk) trivial (Below.refl _ _) (Nat.le_refl _) (by simp) ?_; (case hd => rfl); (case hg => rfl); (case hr => first | (go_simp; done) | (go_simp; rfl)); (case hp => exact (Reps.one (show Kd.M (Kd.int .u8) _ _ _ (((l0.length : Int)) % 256) [.int .u8 (((l0.length : Int)) % 256)] from rfl) (Reps.none _ _))); intro v5 w3 ho5 hb3 hg_ hnew_; clear hg_ hnew_; have HO := Aside0.mk (Kd.R_lower ho5 (below_size HB2.out)); have HB := Aside0.mk (below_step HB2.out hb3); clear ho5 hb3))
  have hst : ackB l0 = [((l0.length : Int)) % 256] ++ (l0.drop (0 : Int).toNat).flatMap aB := rfl
  have HP2 := Aside0.mk (hst.symm.trans HP.out)
  clear hst HP
  go_loopg [5, 23] l0.length (fun kq v5 v23 w' => ∃ (acc : List Int) (i : Int), v23 = .int .i64 i ∧ Aside0 (0 ≤ i ∧ i + kq = l0.length ∧ acc.length ≤ 1 + 9 * i) ∧ Aside0 (acc ++ (l0.drop i.toNat).flatMap aB = r1) ∧ Aside0 (Kd.R (Kd.int .u8) 5 w' w.heap.size (fun _ => True) v5 acc) ∧ Aside0 (Below w.heap.size w w'))
  case atStart => exact ⟨_, 0, rfl, ⟨by simp⟩, HP2, HO, HB⟩
  case round =>
    clear HP2 HO HB HB2
    obtain ⟨acc, i, rfl, HI, HP, HO, HB⟩ := hrel
    cases gk with
    | zero =>
      have hi := HI.out
      have b0 : decide (i < (l0.length : Int)) = false := decide_eq_false (by omega)
      have hp := HP.out
      rw [List.drop_eq_nil_of_le (by omega), List.flatMap_nil, List.append_nil] at hp
      subst hp
      clear hi HI HP
      go_wp2
      go_ret2
      exact ⟨_, rfl, HO.out, HB.out⟩
    | succ k1 =>
      have hi := HI.out
      have p0 : 0 ≤ i := by omega
      have q0 : i < (l0.length : Int) := by omega
      have b0 : decide (i < (l0.length : Int)) = true := decide_eq_true q0
      obtain ⟨ad, eA, hx0, hx1, hx2, hx3⟩ := at_T24 (Kd.C_below HR0.out HB.out) i p0 q0
      subst eA
      have hx := HS.out _ (rd_ack_mem l0 i p0 q0)
      have hp := HP.out
      rw [acks_get l0 i p0 q0, List.flatMap_cons] at hp
      generalize rd_T24 l0 i = x at hx0 hx1 hx2 hx3 hx hp
      have HX := Aside0.mk hx
      have HQ := Aside0.mk hp
      have p0' := eq_true p0
      have q0' := eq_true q0
      clear hi hx hp HP
      go_wp2_with (first
        | ((with_reducible refine gate_dst (N := 7) rfl ?_); refine box_event ?hg (N := 7) ?hd (cs := #[.int .i64 0, .int .i64 0, .int .i64 0, .int .i64 0]) (t := 24) ?hr ?_; (case hd => rfl); (case hg => rfl); (case hr => first | (go_simp; done) | (go_simp; rfl)); intro ga hg w5 hbox hb; have HW := Aside0.mk hb; have GA := Aside0.mk (Nat.le_of_eq hg.symm); have BA := Aside0.mk hbox; clear hb hbox hg; have u0 : w5.cell? ⟨ga, 0, none⟩ = some (.int .i64 0) := (blk_cell BA.out 0).trans rfl; have u1 : w5.cell? ⟨ga, 1, none⟩ = some (.int .i64 0) := (blk_cell BA.out 1).trans rfl; have u2 : w5.cell? ⟨ga, 2, none⟩ = some (.int .i64 0) := (blk_cell BA.out 2).trans rfl; have u3 : w5.cell? ⟨ga, 3, none⟩ = some (.int .i64 0) := (blk_cell BA.out 3).trans rfl; have uf0 := blk_frozen BA.out 0; have uf1 := blk_frozen BA.out 1; have uf2 := blk_frozen BA.out 2; have uf3 := blk_frozen BA.out 3)
        | ((with_reducible refine gate_callee (f := 27) rfl ?_); refine goesL_ (some 27) rfl rfl Try.func27 (by kernel_rfl) rfl #[.pointer (some ⟨ga, 0, none⟩)] rfl (by (try simp only [List.map_toArray, List.map_cons, List.map_nil]); first | done | rfl) ?_; (with_reducible refine (ack_fields.calls ga 0 _).mono ?_); rintro e w6 ⟨gf, adf, hadf, rfl, hgf, hbf, hb6⟩; refine ⟨_, rfl, ?_⟩; have HB6 := Aside0.mk hb6; have GF := Aside0.mk hgf; have BF := Aside0.mk hbf; have HADF := Aside0.mk hadf; clear hgf hbf hadf hb6))
      have hbw := below_step (below_set (below_set (below_set (below_set HW.out (j := 0) (v := .int .i64 x.f0) GA.out) (j := 1) (v := .int .i64 x.f1) GA.out) (j := 2) (v := .int .i64 x.f2) GA.out) (j := 3) (v := .int .i64 x.f3) GA.out) HB6.out
      have BA6 := Aside0.mk (blk_below (g := ga) (o := .cells #[.int .i64 x.f0, .int .i64 x.f1, .int .i64 x.f2, .int .i64 x.f3] 24 (0, 0)) (by refine blk_put (cs := #[.int .i64 x.f0, .int .i64 x.f1, .int .i64 x.f2, .int .i64 0]) ?_ 3 _ rfl; refine blk_put (cs := #[.int .i64 x.f0, .int .i64 x.f1, .int .i64 0, .int .i64 0]) ?_ 2 _ rfl; refine blk_put (cs := #[.int .i64 x.f0, .int .i64 0, .int .i64 0, .int .i64 0]) ?_ 1 _ rfl; refine blk_put (cs := #[.int .i64 0, .int .i64 0, .int .i64 0, .int .i64 0]) ?_ 0 _ rfl; exact BA.out) HB6.out)
      have HO6 := Aside0.mk (Kd.R_below HO.out hbw)
      have HBW := Aside0.mk (below_step HB.out hbw)
      have hle := HI.out
      have HQ2 := Aside0.mk (show acc ++ (fB x 4 ++ (l0.drop (i + 1).toNat).flatMap aB) = r1 from HQ.out)
      have HQL := Aside0.mk (show (acc.length : Int) + (fB x 4).length ≤ 1 + 9 * (i + 1) by have := aB_length x; unfold aB at this; omega)
      clear hbw hle BA HO HB HB6 u0 u1 u2 u3 uf0 uf1 uf2 uf3 HW GA b0 p0 q0 p0' q0' hx0 hx1 hx2 hx3 HQ
      go_loopg [5, 29] 4 (fun kq v5 v29 w' => ∃ (acc2 : List Int) (j : Int), v29 = .int .i64 j ∧ Aside0 (0 ≤ j ∧ j + kq = 4 ∧ (acc2.length : Int) + (fB x kq).length ≤ 1 + 9 * (i + 1)) ∧ Aside0 (acc2 ++ (fB x kq ++ (l0.drop (i + 1).toNat).flatMap aB) = r1) ∧ Aside0 (Kd.R (Kd.int .u8) 5 w' w.heap.size (fun _ => True) v5 acc2) ∧ Aside0 (w'.heap[ga]? = some (.cells #[.int .i64 x.f0, .int .i64 x.f1, .int .i64 x.f2, .int .i64 x.f3] 24 (0, 0))) ∧ Aside0 (w'.heap[gf]? = some (.cells (FldC ga 0) 60 (0, 0))) ∧ Aside0 (Below w.heap.size w w'))
      case atStart => exact ⟨acc, 0, rfl, ⟨by have := HQL.out; omega⟩, HQ2, HO6, BA6, BF, HBW⟩
      case round =>
        clear HQ2 HO6 BA6 BF HBW HQL
        obtain ⟨acc2, j, rfl, HJ, HQ, HO, BA, BF, HB⟩ := hrel
        cases gk with
        | zero =>
          obtain rfl : j = 4 := by have := HJ.out; omega
          have HQ2 := Aside0.mk (show acc2 ++ (l0.drop (i + 1).toNat).flatMap aB = r1 from HQ.out)
          have hi0 : 0 ≤ i := by have := HI.out; omega
          have hi1 : i ≤ 64 := by have := HI.out; have := HN.out; omega
          have HJ2 := Aside0.mk (show (acc2.length : Int) ≤ 1 + 9 * (i + 1) by have h_ := HJ.out.2.2; simp only [fB, List.length_nil] at h_; omega)
          clear HQ HJ
          go_wp2
          go_roundg k1
          case measure => omega
          case rel =>
            have hi := HI.out
            exact ⟨acc2, i + 1, rfl, ⟨by have := HJ2.out; omega⟩, HQ2, HO, HB⟩
        | succ d =>
          have hj := HJ.out
          obtain ⟨jn, hjn⟩ : ∃ n, n = 3 - d := ⟨_, rfl⟩
          have hjt : j.toNat = jn := by omega
          have hj3 : jn < 4 := by omega
          obtain ⟨cA, cB⟩ := fld_cells' BF.out HADF.out hj3 hjt
          rw [Nat.zero_add] at cA
          obtain ⟨pa, hpa⟩ : ∃ p : Addr, p = ⟨ga, jn, none⟩ := ⟨_, rfl⟩
          rw [← hpa] at cA
          have HPA := Aside0.mk hpa
          obtain ⟨sz, hsz⟩ : ∃ s : Int, s = (abSz jn : Int) := ⟨_, rfl⟩
          rw [← hsz] at cB
          obtain ⟨vl, hvl⟩ : ∃ s, s = getF jn x := ⟨_, rfl⟩
          have HPF := Aside0.mk (show wire_Put.f vl sz = some (be (abSz jn) (getF jn x), 0) by rw [hsz, hvl]; exact put_fit x HX.out jn hj3)
          have HJN := Aside0.mk (show jn < 4 ∧ jn = 3 - d ∧ d ≤ 3 from ⟨hj3, hjn, by omega⟩)
          have HVL := Aside0.mk hvl
          have p0 : 0 ≤ j := hj.1
          have q0 : j < 4 := by omega
          have b0 : decide (j < 4) = true := decide_eq_true q0
          have p0' := eq_true p0
          have q0' := eq_true q0
          clear hj hjt hjn hj3 hpa hsz hvl
          go_upto_region 11 with (((with_reducible refine gate_dst (N := 9) rfl ?_); refine box_event ?hg (N := 9) ?hd (cs := #[.pointer none, .int .i64 0]) (t := 60) ?hr ?_; (case hd => rfl); (case hg => rfl); (case hr => first | (go_simp; done) | (go_simp; rfl)); intro gb hg w6 hbox hb; have HW := Aside0.mk hb; have GB := Aside0.mk (Nat.le_of_eq hg.symm); have BX := Aside0.mk hbox; clear hb hbox hg; have u0 : w6.cell? ⟨gb, 0, none⟩ = some (.pointer none) := (blk_cell BX.out 0).trans rfl; have u1 : w6.cell? ⟨gb, 1, none⟩ = some (.int .i64 0) := (blk_cell BX.out 1).trans rfl; have uf0 := blk_frozen BX.out 0; have uf1 := blk_frozen BX.out 1))
          have BX2 := Aside0.mk (show ((w6.setCell ⟨gb, 0, none⟩ (.pointer (some pa))).setCell ⟨gb, 1, none⟩ (.int .i64 sz)).heap[gb]? = some (.cells #[.pointer (some pa), .int .i64 sz] 60 (0, 0)) by refine blk_put (cs := #[.pointer (some pa), .int .i64 0]) ?_ 1 _ rfl; refine blk_put (cs := #[.pointer none, .int .i64 0]) ?_ 0 _ rfl; exact BX.out)
          have hbw : Below wr.heap.size wr ((w6.setCell ⟨gb, 0, none⟩ (.pointer (some pa))).setCell ⟨gb, 1, none⟩ (.int .i64 sz)) := below_set (below_set HW.out GB.out) GB.out
          have HB6 := Aside0.mk (below_step HB.out hbw)
          have BA6 := Aside0.mk (blk_below BA.out hbw)
          have BF6 := Aside0.mk (blk_below BF.out hbw)
          have HO6 := Aside0.mk (Kd.R_below HO.out hbw)
          clear u0 u1 uf0 uf1 BX HW HB HO BA BF hbw
          generalize ((w6.setCell ⟨gb, 0, none⟩ (.pointer (some pa))).setCell ⟨gb, 1, none⟩ (.int .i64 sz)) = wq at BX2 HB6 BA6 BF6 HO6 ⊢
          have cp : wq.drew.cell? pa = some (.int .i64 vl) := by
            show wq.cell? pa = _
            rw [HPA.out, blk_cell BA6.out, HVL.out]
            have hjn := HJN.out.1
            obtain rfl | rfl | rfl | rfl : jn = 0 ∨ jn = 1 ∨ jn = 2 ∨ jn = 3 := by omega
            all_goals rfl
          refine start_ (n := 12) (S := fun w' => w'.cell? ⟨gb, 0, none⟩ = some (.pointer (some pa)) ∧ w'.cell? ⟨gb, 1, none⟩ = some (.int .i64 sz) ∧ w'.cell? pa = some (.int .i64 vl)) (ds := []) #[false, false, false, false, false, false, false, false, false, false, false, false] (by kernel_rfl) rfl rfl ⟨(blk_cell BX2.out 0).trans rfl, (blk_cell BX2.out 1).trans rfl, cp⟩ (fun hHeld => ?_); refine with_tabW ack_Bytes.tab11 ack_Bytes.bits11 (fun HT_ HW_ => ?_)
          refine pure_ (i := 0) (N := some 34) (v := ?_) (a' := ?_) #[true, false, false, false, false, false, false, false, false, false, false, false] rfl rfl (any_of HT_.out (by kernel_rfl)) (fun _ _ _ h => h) (Or.inl ⟨by rfl, ?_⟩) ?_ ?_
          rotate_left
          · intro w'
            go_simp
            with_reducible rfl
          rotate_left
          · simp only [Act.put, List.setIfInBounds_toArray, List.set_cons_zero, List.set_cons_succ, i64_w, i32_w]
            rfl
          refine pure_ (i := 4) (N := some 38) (v := ?_) (a' := ?_) #[true, false, false, false, true, false, false, false, false, false, false, false] rfl rfl (any_of HT_.out (by kernel_rfl)) (fun _ _ _ h => h) (Or.inl ⟨by rfl, ?_⟩) ?_ ?_
          rotate_left
          · intro w'
            go_simp
            with_reducible rfl
          rotate_left
          · simp only [Act.put, List.setIfInBounds_toArray, List.set_cons_zero, List.set_cons_succ, i64_w, i32_w]
            rfl
          refine take_ (i := 1) (N := some 35) (v := ?_) (a' := ?_) #[true, true, false, false, true, false, false, false, false, false, false, false] rfl rfl (take_ofW HT_.out HW_.out (by kernel_rfl)) (fun _ _ _ h => h) (Or.inl ⟨by rfl, ?_⟩) hHeld ?_ ?_
          rotate_left
          · rintro w' ⟨s0, s1, s2⟩
            go_simp
            with_reducible rfl
          rotate_left
          · simp only [Act.put, List.setIfInBounds_toArray, List.set_cons_zero, List.set_cons_succ, i64_w, i32_w]
            rfl
          refine pure_ (i := 2) (N := some 36) (v := ?_) (a' := ?_) #[true, true, true, false, true, false, false, false, false, false, false, false] rfl rfl (any_of HT_.out (by kernel_rfl)) (fun _ _ _ h => h) (Or.inl ⟨by rfl, ?_⟩) ?_ ?_
          rotate_left
          · intro w'
            go_simp
            with_reducible rfl
          rotate_left
          · simp only [Act.put, List.setIfInBounds_toArray, List.set_cons_zero, List.set_cons_succ, i64_w, i32_w]
            rfl
          refine take_ (i := 3) (N := some 37) (v := ?_) (a' := ?_) #[true, true, true, true, true, false, false, false, false, false, false, false] rfl rfl (take_ofW HT_.out HW_.out (by kernel_rfl)) (fun _ _ _ h => h) (Or.inl ⟨by rfl, ?_⟩) hHeld ?_ ?_
          rotate_left
          · rintro w' ⟨s0, s1, s2⟩
            go_simp
            with_reducible rfl
          rotate_left
          · simp only [Act.put, List.setIfInBounds_toArray, List.set_cons_zero, List.set_cons_succ, i64_w, i32_w]
            rfl
          refine take_ (i := 5) (N := some 39) (v := ?_) (a' := ?_) #[true, true, true, true, true, true, false, false, false, false, false, false] rfl rfl (take_ofW HT_.out HW_.out (by kernel_rfl)) (fun _ _ _ h => h) (Or.inl ⟨by rfl, ?_⟩) hHeld ?_ ?_
          rotate_left
          · rintro w' ⟨s0, s1, s2⟩
            go_simp
            with_reducible rfl
          rotate_left
          · simp only [Act.put, List.setIfInBounds_toArray, List.set_cons_zero, List.set_cons_succ, i64_w, i32_w]
            rfl
          refine one_ (i := 6) (N := some 40) #[true, true, true, true, true, true, true, false, false, false, false, false] rfl rfl (one_of HT_.out (by kernel_rfl)) (by decide) (fun K hK => ?_)
          refine goes_ Try.func28 (by kernel_rfl) rfl #[.int .i64 vl, .int .i64 sz] (by rfl) rfl rfl (by simp only [List.map_toArray, List.map_cons, List.map_nil]; rfl) ?_
          with_reducible refine (wire_Put.calls vl sz _ _ _ HPF.out).mono ?_
          rintro e w7 ⟨vb, rfl, ho7, hb7⟩
          refine ⟨_, rfl, ?_⟩
          have HB7 := Aside0.mk (below_step (below_drew HB6.out) hb7)
          have BA7 := Aside0.mk (blk_below (w := wq.drew) BA6.out hb7)
          have BF7 := Aside0.mk (blk_below (w := wq.drew) BF6.out hb7)
          have BX7 := Aside0.mk (blk_below (w := wq.drew) BX2.out hb7)
          have HO7 := Aside0.mk (Kd.R_below (Kd.R_drew HO6.out) hb7)
          have HV7 := Aside0.mk ho7
          have cp7 := pw_cell_below hb7 cp
          clear hb7 ho7
          refine hK.out _ _ ⟨(blk_cell BX7.out 0).trans rfl, (blk_cell BX7.out 1).trans rfl, cp7⟩ (fun hHeld => ?_)
          clear hK K
          refine norm_ (a' := ?_) ?_ ?_
          rotate_left
          · show Act.put _ (some 40) _ = _
            simp only [Act.put, List.setIfInBounds_toArray, List.set_cons_zero, List.set_cons_succ, i64_w, i32_w]
            rfl
          refine pure_ (i := 7) (N := some 33) (v := ?_) (a' := ?_) #[true, true, true, true, true, true, true, true, false, false, false, false] rfl rfl (any_of HT_.out (by kernel_rfl)) (fun _ _ _ h => h) (Or.inl ⟨by rfl, ?_⟩) ?_ ?_
          rotate_left
          · intro w'
            go_simp
            with_reducible rfl
          rotate_left
          · simp only [Act.put, List.setIfInBounds_toArray, List.set_cons_zero, List.set_cons_succ, i64_w, i32_w]
            rfl
          refine pure_ (i := 8) (N := some 41) (v := ?_) (a' := ?_) #[true, true, true, true, true, true, true, true, true, false, false, false] rfl rfl (any_of HT_.out (by kernel_rfl)) (fun _ _ _ h => h) (Or.inl ⟨by rfl, ?_⟩) ?_ ?_
          rotate_left
          · intro w'
            go_simp
            with_reducible rfl
          rotate_left
          · simp only [Act.put, List.setIfInBounds_toArray, List.set_cons_zero, List.set_cons_succ, i64_w, i32_w]
            rfl
          refine pure_ (i := 9) (N := some 42) (v := ?_) (a' := ?_) #[true, true, true, true, true, true, true, true, true, true, false, false] rfl rfl (any_of HT_.out (by kernel_rfl)) (fun _ _ _ h => h) (Or.inl ⟨by rfl, ?_⟩) ?_ ?_
          rotate_left
          · intro w'
            go_simp
            with_reducible rfl
          rotate_left
          · simp only [Act.put, List.setIfInBounds_toArray, List.set_cons_zero, List.set_cons_succ, i64_w, i32_w]
            rfl
          refine pure_ (i := 10) (N := some 10) (v := ?_) (a' := ?_) #[true, true, true, true, true, true, true, true, true, true, true, false] rfl rfl (any_of HT_.out (by kernel_rfl)) (fun _ _ _ h => h) (Or.inl ⟨by rfl, ?_⟩) ?_ ?_
          rotate_left
          · intro w'
            go_simp
            with_reducible rfl
          rotate_left
          · simp only [Act.put, List.setIfInBounds_toArray, List.set_cons_zero, List.set_cons_succ, i64_w, i32_w]
            rfl
          refine pure_ (i := 11) (N := some 11) (v := ?_) (a' := ?_) #[true, true, true, true, true, true, true, true, true, true, true, true] rfl rfl (any_of HT_.out (by kernel_rfl)) (fun _ _ _ h => h) (Or.inl ⟨by rfl, ?_⟩) ?_ ?_
          rotate_left
          · intro w'
            go_simp
            with_reducible rfl
          rotate_left
          · simp only [Act.put, List.setIfInBounds_toArray, List.set_cons_zero, List.set_cons_succ, i64_w, i32_w]
            rfl
          refine done_ (done_of HT_.out (by kernel_rfl)) ?_
          clear HT_ HW_
          obtain ⟨Ab, cb, rfl⟩ := Kd.R_slice HV7.out
          have hvl := HV7.out
          have HLM := Aside0.mk (show (acc2.length : Int) + (be (abSz jn) (getF jn x)).length ≤ 1000 by
            have h_ := HJ.out.2.2
            have hjn := HJN.out
            have hi := HI.out
            have hn := HN.out
            rw [be_length]
            have : abSz jn ≤ 4 := by unfold abSz; split <;> omega
            omega)
          go_wp2_with (((with_reducible refine gate_builtin (b := .append) (xs := #[.tmp 43, .tmp 44]) rfl ?_); at_builtin; refine Kd.R_append_row (Value.int .u8) 0 (h1 := fun _ => rfl) (w0 := w) w.heap.size rfl (.tmp 43) (.tmp 44) 35 5 (.int .u8 0) 1 rfl Try.underlying35 info5 rfl (by decide) u5 acc2 (be (abSz jn) (getF jn x)) Ab _ _ (fun _ => True) rfl rfl (fun _ _ => trivial) HO7.out (Kd.R_reads' HV7.out).2.2 HB7.out (below_size HB7.out) (by have := HLM.out; omega) ?_; intro v9 w9 ho9 hb9 hg9 hat9; have HO9 := Aside0.mk ho9; have HB9 := Aside0.mk hb9; have BA9 := Aside0.mk (blk_grown BA7.out hg9 (Kd.R_ne HO7.out BA7.out (by decide))); have BF9 := Aside0.mk (blk_grown BF7.out hg9 (Kd.R_ne HO7.out BF7.out (by decide))); clear ho9 hb9 hg9 hat9))
          go_roundg d
          case measure => omega
          case rel =>
            have hj := HJ.out
            have hjn := HJN.out
            have hq := HQ.out
            simp only [fB, List.length_append] at hj
            simp only [fB, List.append_assoc] at hq
            rw [← hjn.2.1] at hj hq
            refine ⟨acc2 ++ be (abSz jn) (getF jn x), j + 1, rfl, ⟨?_⟩, ⟨?_⟩, HO9, BA9, BF9, HB9⟩
            · rw [List.length_append]; omega
            · rw [List.append_assoc]; exact hq
end Go.Proofs.Ytolfbnkdmafomaa.P
namespace Go.Proofs.Ytolfbnkdmafomaa.P
open Go.RowKit Go.Proofs.YtolfbnkdmafomaaW.PrintWords Go.Proofs.YtolfbnkdmafomaaW.PrintLast Go.Proofs.YtolfbnkdmafomaaW.PrintMore
attribute [local go_sem] max2_int min2_int max_two min_two max_three min_three max_four min_four   -- for this text's walks alone
def wire_Get.f (l0 : List Int) (a1 : Int) (a2 : Int) : Option (Int × Int × Int) := if a2 < 1 then (some (0, 0, 1)) else (if a2 > 7 then (some (0, 0, 1)) else ((wire_number.f l0 a1 a2).bind fun bt288 => (some (wrap64 (bt288.1), bt288.2.1, bt288.2.2))))
set_option maxHeartbeats 8000000 in
set_option maxRecDepth 100000 in
theorem wire_Get.calls (A0 : Option Addr) (c0 : Nat) (l0 : List Int) (a1 : Int) (a2 : Int) (r1 : Int) (r2 : Int) (r3 : Int) (w : World) (hr0 : Kd.C (Kd.int .u8) w A0 l0.length l0) (hc0 : l0.length ≤ c0) (h : wire_Get.f l0 a1 a2 = some (r1, r2, r3)) :
    Calls Try.prog 33 #[.slice A0 l0.length c0, .int .i64 a1, .int .i64 a2] w fun e w' => e = .returned (.tuple #[.int .i64 r1, .int .i64 r2, .int .i64 r3]) ∧ Below w.heap.size w w' := by
  have HR0 := Aside0.mk hr0
  have HC0 := Aside0.mk hc0
  clear hr0 hc0
  have HB := Aside0.mk (Below.refl w.heap.size w)
  have H : (if a2 < 1 then (some (0, 0, 1)) else (if a2 > 7 then (some (0, 0, 1)) else ((wire_number.f l0 a1 a2).bind fun bt288 => (some (wrap64 (bt288.1), bt288.2.1, bt288.2.2))))) = some (r1, r2, r3) := h
  clear h
  by_cases c4 : a2 < 1
  · rw [if_pos c4] at H
    have c4b0 : decide (a2 < 1) = true := decide_eq_true c4
    clear c4
    simp only [Option.some.injEq, Prod.mk.injEq] at H
    obtain ⟨rfl, rfl, rfl⟩ := H
    go_enter Try.func33, Try.ntmps33
    go_wp2
    go_ret3
    exact ⟨by first | rfl | (simp [errW_none, errW_some] <;> rfl) | (simp [*, errW_none, errW_some] <;> rfl), by repeat (first | (with_reducible first | exact HB.out | apply below_alloc | apply pw_below_drewN | apply below_drew1) | exact HB.out)⟩
  · rw [if_neg c4] at H
    have c4b0 : decide (a2 < 1) = false := decide_eq_false c4
    clear c4
    by_cases c5 : a2 > 7
    · rw [if_pos c5] at H
      have c5b0 : decide (7 < a2) = true := decide_eq_true c5
      clear c5
      simp only [Option.some.injEq, Prod.mk.injEq] at H
      obtain ⟨rfl, rfl, rfl⟩ := H
      go_enter Try.func33, Try.ntmps33
      go_wp2
      go_ret3
      exact ⟨by first | rfl | (simp [errW_none, errW_some] <;> rfl) | (simp [*, errW_none, errW_some] <;> rfl), by repeat (first | (with_reducible first | exact HB.out | apply below_alloc | apply pw_below_drewN | apply below_drew1) | exact HB.out)⟩
    · rw [if_neg c5] at H
      have c5b0 : decide (7 < a2) = false := decide_eq_false c5
      clear c5
      replace H := Option.bind_eq_some_iff.mp H
      obtain ⟨⟨t288, t289, t290⟩, A60, H⟩ := H
      replace H : (some (wrap64 (t288), t289, t290)) = some (r1, r2, r3) := H
      have A6 := Aside0.mk A60
      clear A60
      simp only [Option.some.injEq, Prod.mk.injEq] at H
      obtain ⟨rfl, rfl, rfl⟩ := H
      go_enter Try.func33, Try.ntmps33
      go_wp2_with (first | ((with_reducible refine gate_callee (f := 39) rfl ?_); refine goesL_ (some 22) rfl rfl Try.func39 (by kernel_rfl) rfl #[.slice A0 l0.length c0, .int .i64 a1, .int .i64 a2] rfl (by (try simp only [List.map_toArray, List.map_cons, List.map_nil]); first | done | rfl | (simp only [List.length_drop, List.length_take]; rfl)) ?_; (with_reducible refine (wire_number.calls _ _ l0 a1 a2 t288 t289 t290 _ ?side1 ?side2 A6.out).mono ?_); (case side1 => repeat (first | exact HR0.out | (with_reducible refine Kd.C_alloc ?_ _) | (with_reducible refine Kd.C_drewN ?_ _) | (with_reducible refine Kd.C_drew ?_))); (case side2 => exact HC0.out); rintro e w7 ⟨rfl, hb⟩; refine ⟨_, rfl, ?_⟩; have n0_ := Aside0.mk (below_step (by repeat (first | (with_reducible first | exact HB.out | apply below_alloc | apply pw_below_drewN | apply below_drew1) | exact HB.out)) hb); clear HB; have HB := n0_; clear n0_; (try clear hb); (try clear hb2); (try clear hk); (try clear hi)))
      go_ret3
      exact ⟨by first | rfl | (simp [errW_none, errW_some] <;> rfl) | (simp [*, errW_none, errW_some] <;> rfl), by repeat (first | (with_reducible first | exact HB.out | apply below_alloc | apply pw_below_drewN | apply below_drew1) | exact HB.out)⟩
end Go.Proofs.Ytolfbnkdmafomaa.P
namespace Go.Proofs.Ytolfbnkdmafomaa.P
open Go.RowKit Go.Proofs.YtolfbnkdmafomaaW.PrintWords Go.Proofs.YtolfbnkdmafomaaW.PrintLast Go.Proofs.YtolfbnkdmafomaaW.PrintMore
theorem wire_number_eq (l : List Int) (a n : Int) (hB : Bytes l) (hl : l.length ≤ 1000000000000) (h0 : 0 ≤ n) (h8 : n ≤ 8) : wire_number.f l a n = some (numSpec l a n) := by
  unfold wire_number.f
  rw [if_pos ⟨hl, h0, h8, hB⟩]
theorem numSpec_small (l : List Int) (a n : Int) (hB : Bytes l) (h7 : n ≤ 7) : 0 ≤ (numSpec l a n).1 ∧ (numSpec l a n).1 < 72057594037927936 := by
  unfold numSpec
  split
  · simp
  · split
    · simp
    · have hr := bev_range _ ((hB.drop a.toNat).take n.toNat)
      have hp : (256 : Int) ^ ((l.drop a.toNat).take n.toNat).length ≤ 256 ^ 7 := pow256_le _ _ (by rw [List.length_take]; omega)
      have e7 : (256 : Int) ^ 7 = 72057594037927936 := by decide
      exact ⟨hr.1, by show bev _ < _; omega⟩
theorem wire_Get_eq (l : List Int) (a n : Int) (hB : Bytes l) (hl : l.length ≤ 1000000000000) : wire_Get.f l a n = some (getSpec l a n) := by
  unfold wire_Get.f getSpec
  by_cases c : n < 1 ∨ 7 < n
  · rw [if_pos c]
    by_cases c1 : n < 1
    · rw [if_pos c1]
    · rw [if_neg c1, if_pos (show n > 7 by omega)]
  · rw [if_neg c]
    rw [if_neg (show ¬ n < 1 by omega), if_neg (show ¬ n > 7 by omega), wire_number_eq l a n hB hl (by omega) (by omega)]
    have hs := numSpec_small l a n hB (by omega)
    rw [Option.bind_some, w64 (by omega) (by omega)]
end Go.Proofs.Ytolfbnkdmafomaa.P
namespace Go.Proofs.Ytolfbnkdmafomaa.P
open Go.RowKit Go.Proofs.YtolfbnkdmafomaaW.PrintWords Go.Proofs.YtolfbnkdmafomaaW.PrintLast Go.Proofs.YtolfbnkdmafomaaW.PrintMore
attribute [local go_sem] max2_int min2_int max_two min_two max_three min_three max_four min_four
def apSz : Nat → Int
  | 0 => 1 | 1 => 4 | _ => 2
def apF (l : List Int) : Nat → S24 → Int → S24 × Int × Int
  | 0, x, at_ => (x, at_, 0)
  | d + 1, x, at_ => if (getSpec l at_ (apSz (3 - d))).2.2 = 0 then apF l d (putF (3 - d) (getSpec l at_ (apSz (3 - d))).1 x) (getSpec l at_ (apSz (3 - d))).2.1 else (x, 0, (getSpec l at_ (apSz (3 - d))).2.2)
def apL (l : List Int) : Nat → List S24 → Int → List S24 × Int × Int
  | 0, done, at_ => if RA done then (done, at_, 0) else ([], 0, 4)
  | m + 1, done, at_ => if (apF l 4 z24 at_).2.2 = 0 then apL l m (done ++ [(apF l 4 z24 at_).1]) (apF l 4 z24 at_).2.1 else ([], 0, (apF l 4 z24 at_).2.2)
def apSpec (l : List Int) (a : Int) : List S24 × Int × Int := if (getSpec l a 1).2.2 = 0 then apL l (getSpec l a 1).1.toNat [] (getSpec l a 1).2.1 else ([], 0, (getSpec l a 1).2.2)
def ack_Parse.f (l : List Int) (a : Int) : Option (List S24 × Int × Int) := if l.length ≤ 1000000000000 ∧ ∀ x ∈ l, 0 ≤ x ∧ x ≤ 255 then some (apSpec l a) else none
theorem get1_range (l : List Int) (a : Int) (hB : Bytes l) : 0 ≤ (getSpec l a 1).1 ∧ (getSpec l a 1).1 ≤ 255 := by
  unfold getSpec numSpec
  rw [if_neg (by omega)]
  split
  · decide
  split
  · decide
  have hr := bev_range _ ((hB.drop a.toNat).take (1 : Int).toNat)
  have hp := pow256_le ((l.drop a.toNat).take (1 : Int).toNat).length 1 (by rw [List.length_take]; exact Nat.min_le_left _ _)
  rw [show (256 : Int) ^ 1 = 256 by decide] at hp
  exact ⟨hr.1, by show bev _ ≤ 255; omega⟩
theorem ack_made (W : World) (m : Nat) (hm : m ≤ 1000) :
    (Instr.makeSlice 33 (.int .i64 (m : Int)) (.int .i64 (m : Int))).run Try.prog W = .ok (.slice (some ⟨W.heap.size, 0, none⟩) m m) (W.alloc (.cells (rowC (List.replicate m z24)).toArray 24 (0, 0))) := by
  obtain ⟨i0, hi, hzz⟩ := Option.map_eq_some_iff.1 info24
  simp only [Prod.mk.injEq] at hzz
  obtain ⟨hz0, hz1, hz2⟩ := hzz
  have hr := run_make (P := Try.prog) W 33 24 i0 (.agg #[(.int .i64 0), (.int .i64 0), (.int .i64 0), (.int .i64 0)]) Try.underlying33 hi hz0 .i64 .i64 (m : Int) (m : Int) (by omega) (by omega) (by rw [hz2]; omega) (by omega)
  simp only [Int.toNat_natCast] at hr
  rw [hz1] at hr
  rw [← rowC_made]
  exact hr
theorem fld_cells {W : World} {gf g o jn : Nat} {ad : Addr} {j : Int} (BF : W.heap[gf]? = some (.cells (FldC g o) 60 (0, 0))) (had : ad = ⟨gf, 0, none⟩) (hk : jn < 4) (hj : j.toNat = jn) :
    W.cell? (ad.add (j.toNat * 2)) = some (.pointer (some ⟨g, o + jn, none⟩)) ∧ W.cell? ⟨(ad.add (j.toNat * 2)).block, (ad.add (j.toNat * 2)).off + 1, none⟩ = some (.int .i64 (apSz jn)) := by
  have hl : (FldC g o)[jn * 2]? = some (.pointer (some ⟨g, o + jn, none⟩)) ∧ (FldC g o)[jn * 2 + 1]? = some (.int .i64 (apSz jn)) := by
    obtain rfl | rfl | rfl | rfl : jn = 0 ∨ jn = 1 ∨ jn = 2 ∨ jn = 3 := by omega
    all_goals exact ⟨rfl, rfl⟩
  refine ⟨?_, ?_⟩
  · rw [had, add_plain, hj, blk_cell BF, hl.1]
  · rw [had, add_plain, hj, blk_cell BF, hl.2]
def ack_Parse.T11 : Bool × List (List Nat × List Nat) := (true, [([], []), ([0], [0]), ([], []), ([], []), ([], []), ([4], [4]), ([2, 3, 5], [2, 3, 5]), ([6], [6]), ([7], [7]), ([7], [7]), ([7], [7]), ([1, 0, 1, 2, 3, 4, 5, 6, 7, 8], [1]), ([11, 8, 6, 0, 1, 2, 3, 4, 5, 6, 7, 8], [8, 11]), ([9, 12, 0, 1, 2, 3, 4, 5, 6, 7, 8, 9, 11, 12], [3, 9]), ([10, 13, 0, 1, 2, 3, 4, 5, 6, 7, 8, 9, 10, 11, 12, 13], [10])])
def ack_Parse.B11 : List Nat := [0, 1, 0, 0, 0, 16, 60, 124, 252, 252, 252, 511, 2559, 7167, 16383]
theorem ack_Parse.tab11 : rtab .any (opsOf Try.f20 11) = ack_Parse.T11 := by kernel_rfl
theorem ack_Parse.bits11 : waitsOk ack_Parse.T11.2 ack_Parse.B11 = true := by kernel_rfl
set_option maxHeartbeats 8000000 in
set_option maxRecDepth 100000 in
theorem ack_Parse.calls (A0 : Option Addr) (c0 : Nat) (l0 : List Int) (a1 : Int) (r1 : List S24) (r2 : Int) (r3 : Int) (w : World) (hr0 : Kd.C (Kd.int .u8) w A0 l0.length l0) (hc0 : l0.length ≤ c0) (h : ack_Parse.f l0 a1 = some (r1, r2, r3)) :
    Calls Try.prog 20 #[.slice A0 l0.length c0, .int .i64 a1] w fun e w' => ∃ v0_ : Value, e = .returned (.tuple #[v0_, .int .i64 r2, .int .i64 r3]) ∧ Kd.R k24 24 w' w.heap.size (fun _ => True) v0_ r1 ∧ Below w.heap.size w w' := by
  obtain ⟨hL0, hB0, hP⟩ : l0.length ≤ 1000000000000 ∧ Bytes l0 ∧ apSpec l0 a1 = (r1, r2, r3) := by
    unfold ack_Parse.f at h
    split at h
    · rename_i hc
      exact ⟨hc.1, hc.2, Option.some.inj h⟩
    · exact absurd h (by simp)
  have hu24 := Try.underlying24
  have hu60 := Try.underlying60
  have HL := Aside0.mk hL0
  have HY := Aside0.mk hB0
  have HR0 := Aside0.mk hr0
  have HC0 := Aside0.mk hc0
  have HB := Aside0.mk (Below.refl w.heap.size w)
  unfold apSpec at hP
  have hr := get1_range l0 a1 hB0
  obtain ⟨t0, t1, t2, hG⟩ : ∃ t0 t1 t2, getSpec l0 a1 1 = (t0, t1, t2) := ⟨_, _, _, rfl⟩
  have HG := Aside0.mk (show wire_Get.f l0 a1 1 = some (t0, t1, t2) by rw [wire_Get_eq _ _ _ hB0 hL0, hG])
  rw [hG] at hP hr
  simp only at hP hr
  obtain ⟨m, rfl⟩ := Int.eq_ofNat_of_zero_le hr.1
  have hm : m ≤ 255 := by omega
  rw [Int.toNat_natCast] at hP
  clear h hL0 hB0 hr0 hc0 hr hG
  by_cases c : t2 = 0
  case neg =>
    rw [if_neg c] at hP
    have e1 : (t2 != 0) = true := bne_iff_ne.mpr c
    simp only [Prod.mk.injEq] at hP
    obtain ⟨rfl, rfl, rfl⟩ := hP
    clear c
    go_enter Try.func20, Try.ntmps20
    go_wp2_with (((with_reducible refine gate_callee (f := 33) rfl ?_); refine goesL_ (some 16) rfl rfl Try.func33 (by kernel_rfl) rfl #[.slice A0 l0.length c0, .int .i64 a1, .int .i64 1] rfl (by (try simp only [List.map_toArray, List.map_cons, List.map_nil]); first | done | rfl) ?_; (with_reducible refine (wire_Get.calls A0 c0 l0 a1 1 _ t1 t2 _ ?side1 HC0.out HG.out).mono ?_); (case side1 => exact HR0.out); rintro e w2 ⟨rfl, hb2⟩; refine ⟨_, rfl, ?_⟩; have HB2 := Aside0.mk hb2; clear hb2))
    go_ret3
    exact ⟨_, rfl, Kd.R_nil _ _ _ _ _, HB2.out⟩
  subst c
  rw [if_pos rfl] at hP
  have HP := Aside0.mk hP
  clear hP
  have HM := Aside0.mk hm
  clear hm
  go_enter Try.func20, Try.ntmps20
  go_wp2_with (first
    | ((with_reducible refine gate_callee (f := 33) rfl ?_); refine goesL_ (some 16) rfl rfl Try.func33 (by kernel_rfl) rfl #[.slice A0 l0.length c0, .int .i64 a1, .int .i64 1] rfl (by (try simp only [List.map_toArray, List.map_cons, List.map_nil]); first | done | rfl) ?_; (with_reducible refine (wire_Get.calls A0 c0 l0 a1 1 _ t1 0 _ ?side1 HC0.out HG.out).mono ?_); (case side1 => exact HR0.out); rintro e w2 ⟨rfl, hb2⟩; refine ⟨_, rfl, ?_⟩; have HB2 := Aside0.mk hb2; clear hb2)
    | ((with_reducible refine gate_dst (N := 24) rfl ?_); refine lit_event ?hg (N := 24) ?hd (cs := (rowC (List.replicate m z24)).toArray) (t := 24) (n := m) ?hr ?_; (case hd => rfl); (case hg => rfl); (case hr => (simp [execOp, Act.eval, ack_made _ m (Nat.le_trans HM.out (by decide))])); intro gl hg ad had w3 hbox hb; have HB3 := Aside0.mk (below_step HB2.out hb); have BL := Aside0.mk hbox; have GL := Aside0.mk (show w.heap.size ≤ gl by rw [hg]; exact below_size HB2.out); have HAD := Aside0.mk had; clear hb hbox hg had))
  obtain ⟨W0, hW0⟩ : ∃ x, x = w3 := ⟨_, rfl⟩
  go_loopg [1, 27] m (fun kq v1 v27 w' => ∃ (dn : List S24) (at_ i : Int), v1 = .int .i64 at_ ∧ v27 = .int .i64 i ∧ Aside0 (i = (dn.length : Int) ∧ dn.length + kq = m) ∧ Aside0 (apL l0 kq dn at_ = (r1, r2, r3)) ∧ Aside0 (w'.heap[gl]? = some (.cells (rowC (dn ++ List.replicate kq z24)).toArray 24 (0, 0))) ∧ Aside0 (Below w.heap.size w w'))
  case atStart => exact ⟨[], t1, 0, rfl, rfl, ⟨rfl, by simp⟩, HP, ⟨by rw [List.nil_append]; exact BL.out⟩, HB3⟩
  case round =>
    clear HP BL HB3 HB2 hW0 W0
    obtain ⟨dn, at_, i, rfl, rfl, HI, HP, BL, HB⟩ := hrel
    cases gk with
    | zero =>
      have hp := HP.out
      have hi := HI.out
      have hm := HM.out
      simp only [apL] at hp
      have bl := BL.out
      rw [List.replicate_zero, List.append_nil] at bl
      have hdn : dn.length = m := by omega
      have hR := R_of_row bl GL.out (by omega)
      rw [hdn] at hR
      obtain ⟨K1, hK1⟩ := (acheck_ev dn (by omega)).rounds
      have HK1 := Aside0.mk hK1
      have HRR := Aside0.mk hR
      have b0 : decide (i < (m : Int)) = false := decide_eq_false (by omega)
      clear hi bl hR hK1 HI
      have HDN := Aside0.mk hdn
      clear hdn hm
      by_cases c : RA dn
      · rw [if_pos c] at hp
        simp only [Prod.mk.injEq] at hp
        obtain ⟨rfl, rfl, rfl⟩ := hp
        have hk1 := HK1.out
        rw [if_pos c] at hk1
        have HK2 := Aside0.mk hk1
        clear hk1 HK1 HP c
        go_wp2_with (((with_reducible refine gate_callee (f := 16) rfl ?_); refine goesL_ (some 57) rfl rfl Try.func16 (by kernel_rfl) rfl #[.slice (some ad) m m] rfl (by (try simp only [List.map_toArray, List.map_cons, List.map_nil]); first | done | rfl) ?_; rw [← HDN.out]; (with_reducible refine (ack_Check.calls K1 (some ad) dn.length dn _ _ ?side1 (Nat.le_refl _) HK2.out).mono ?_); (case side1 => have h_ := HRR.out; rw [← HDN.out, ← HAD.out] at h_; exact (Kd.R_reads' h_).2.2); rintro e w5 ⟨rfl, hb5⟩; refine ⟨_, rfl, ?_⟩; have HB5 := Aside0.mk (below_step HB.out hb5); have HR5 := Aside0.mk (Kd.R_below HRR.out hb5); clear hb5))
        go_ret3
        exact ⟨_, rfl, (by have h_ := HR5.out; rw [← HDN.out, ← HAD.out] at h_; exact h_), HB5.out⟩
      · rw [if_neg c] at hp
        simp only [Prod.mk.injEq] at hp
        obtain ⟨rfl, rfl, rfl⟩ := hp
        have hk1 := HK1.out
        rw [if_neg c] at hk1
        have HK2 := Aside0.mk hk1
        clear hk1 HK1 HP c
        go_wp2_with (((with_reducible refine gate_callee (f := 16) rfl ?_); refine goesL_ (some 57) rfl rfl Try.func16 (by kernel_rfl) rfl #[.slice (some ad) m m] rfl (by (try simp only [List.map_toArray, List.map_cons, List.map_nil]); first | done | rfl) ?_; rw [← HDN.out]; (with_reducible refine (ack_Check.calls K1 (some ad) dn.length dn _ _ ?side1 (Nat.le_refl _) HK2.out).mono ?_); (case side1 => have h_ := HRR.out; rw [← HDN.out, ← HAD.out] at h_; exact (Kd.R_reads' h_).2.2); rintro e w5 ⟨rfl, hb5⟩; refine ⟨_, rfl, ?_⟩; have HB5 := Aside0.mk (below_step HB.out hb5); have HR5 := Aside0.mk (Kd.R_below HRR.out hb5); clear hb5))
        go_ret3
        exact ⟨_, rfl, Kd.R_nil _ _ _ _ _, HB5.out⟩
    | succ k1 =>
      have hp := HP.out
      simp only [apL] at hp
      have hi := HI.out
      have hm := HM.out
      have p0 : 0 ≤ i := by omega
      have q0 : i < (m : Int) := by omega
      have b0 : decide (i < (m : Int)) = true := decide_eq_true q0
      have p0' := eq_true p0
      have q0' := eq_true q0
      have hit : i.toNat = dn.length := by omega
      have HIT := Aside0.mk hit
      have HPP := Aside0.mk hp
      have bl := BL.out
      rw [List.replicate_succ] at bl
      have BL1 := Aside0.mk bl
      clear hit hp hi hm HP bl BL
      go_wp2_with (((with_reducible refine gate_callee (f := 27) rfl ?_); refine goesL_ (some 33) rfl rfl Try.func27 (by kernel_rfl) rfl #[.pointer (some ⟨gl, dn.length * 4, none⟩)] rfl (by (try simp only [List.map_toArray, List.map_cons, List.map_nil]); rw [← HIT.out, ← add_plain, ← HAD.out]; first | done | rfl) ?_; (with_reducible refine (ack_fields.calls gl (dn.length * 4) _).mono ?_); rintro e w4 ⟨gf, adf, hadf, rfl, hgf, hbf, hb4⟩; refine ⟨_, rfl, ?_⟩; have HB4 := Aside0.mk (below_step HB.out hb4); have GF := Aside0.mk (show w.heap.size ≤ gf from Nat.le_trans (below_size HB.out) hgf); have BF := Aside0.mk hbf; have HADF := Aside0.mk hadf; have BL4 := Aside0.mk (blk_below BL1.out hb4); have NLF := Aside0.mk (show gl ≠ gf from Nat.ne_of_lt (Nat.lt_of_lt_of_le (blk_lt BL1.out) hgf)); clear hgf hbf hadf hb4))
      obtain ⟨rx, rat, re, hF⟩ : ∃ rx rat re, apF l0 4 z24 at_ = (rx, rat, re) := ⟨_, _, _, rfl⟩
      have HF := Aside0.mk hF
      have hpp := HPP.out
      rw [hF] at hpp
      simp only at hpp
      have HPQ := Aside0.mk hpp
      clear hF hpp HPP BL1 b0 p0 q0 p0' q0'
      go_loopg [1, 35] 4 (fun kq v1 v35 w' => ∃ (x : S24) (at2 j : Int), v1 = .int .i64 at2 ∧ v35 = .int .i64 j ∧ Aside0 (0 ≤ j ∧ j + kq = 4) ∧ Aside0 (apF l0 kq x at2 = (rx, rat, re)) ∧ Aside0 (w'.heap[gl]? = some (.cells (rowC (dn ++ x :: List.replicate k1 z24)).toArray 24 (0, 0))) ∧ Aside0 (w'.heap[gf]? = some (.cells (FldC gl (dn.length * 4)) 60 (0, 0))) ∧ Aside0 (Below w.heap.size w w'))
      case atStart => exact ⟨z24, at_, 0, rfl, rfl, ⟨by omega⟩, HF, BL4, BF, HB4⟩
      case round =>
        clear HF BL4 BF HB4 HB
        obtain ⟨x, at2, j, rfl, rfl, HJ, HF, BL, BF, HB⟩ := hrel
        cases gk with
        | zero =>
          have hf := HF.out
          simp only [apF, Prod.mk.injEq] at hf
          obtain ⟨rfl, rfl, rfl⟩ := hf
          obtain rfl : j = 4 := by have := HJ.out; omega
          have hq := HPQ.out
          rw [if_pos rfl] at hq
          have HQ := Aside0.mk hq
          have hi0 : 0 ≤ i := by have := HI.out; omega
          have hi1 : i ≤ 255 := by have := HI.out; have := HM.out; omega
          clear hq HPQ HF HJ
          go_wp2
          go_roundg k1
          case measure => have := HI.out; omega
          case rel =>
            have hi := HI.out
            refine ⟨dn ++ [x], at2, i + 1, rfl, rfl, ⟨?_⟩, HQ, ⟨?_⟩, HB⟩
            · rw [List.length_append, List.length_singleton]; omega
            · rw [List.append_assoc]; exact BL.out
        | succ d =>
          have hj4 : d ≤ 3 := by have := HJ.out; omega
          have hjt : j.toNat = 3 - d := by have := HJ.out; omega
          have hf := HF.out
          simp only [apF] at hf
          obtain ⟨s1, s2, s3, hG⟩ : ∃ s1 s2 s3, getSpec l0 at2 (apSz (3 - d)) = (s1, s2, s3) := ⟨_, _, _, rfl⟩
          rw [hG] at hf
          simp only at hf
          have HG2 := Aside0.mk (show wire_Get.f l0 at2 (apSz (3 - d)) = some (s1, s2, s3) by rw [wire_Get_eq _ _ _ HY.out HL.out, hG])
          obtain ⟨jn, hjn⟩ : ∃ n, n = 3 - d := ⟨_, rfl⟩
          rw [← hjn] at hf HG2 hjt
          have hj3 : jn < 4 := by omega
          obtain ⟨cA, cB⟩ := fld_cells BF.out HADF.out hj3 hjt
          obtain ⟨pa, hpa⟩ : ∃ p : Addr, p = ⟨gl, dn.length * 4 + jn, none⟩ := ⟨_, rfl⟩
          rw [← hpa] at cA
          obtain ⟨sz, hsz⟩ : ∃ s, s = apSz jn := ⟨_, rfl⟩
          rw [← hsz] at HG2 cB
          have HPA := Aside0.mk hpa
          have HF2 := Aside0.mk hf
          have HJN := Aside0.mk (show jn < 4 ∧ jn = 3 - d ∧ d ≤ 3 from ⟨hj3, hjn, hj4⟩)
          have p0 : 0 ≤ j := HJ.out.1
          have q0 : j < 4 := by have := HJ.out; omega
          have b0 : decide (j < 4) = true := decide_eq_true q0
          have p0' := eq_true p0
          have q0' := eq_true q0
          clear hj4 hjt hf hG hjn hj3 hpa hsz HF
          go_upto_region 11 with (((with_reducible refine gate_dst (N := 12) rfl ?_); refine box_event ?hg (N := 12) ?hd (cs := #[.pointer none, .int .i64 0]) (t := 60) ?hr ?_; (case hd => rfl); (case hg => rfl); (case hr => first | (go_simp; done) | (go_simp; rfl)); intro gb hg w6 hbox hb; have HW := Aside0.mk hb; have GB := Aside0.mk (Nat.le_of_eq hg.symm); have BX := Aside0.mk hbox; clear hb hbox hg; have u0 : w6.cell? ⟨gb, 0, none⟩ = some (.pointer none) := (blk_cell BX.out 0).trans rfl; have u1 : w6.cell? ⟨gb, 1, none⟩ = some (.int .i64 0) := (blk_cell BX.out 1).trans rfl; have uf0 := blk_frozen BX.out 0; have uf1 := blk_frozen BX.out 1))
          have BX2 := Aside0.mk (show ((w6.setCell ⟨gb, 0, none⟩ (.pointer (some pa))).setCell ⟨gb, 1, none⟩ (.int .i64 sz)).heap[gb]? = some (.cells #[.pointer (some pa), .int .i64 sz] 60 (0, 0)) by refine blk_put (cs := #[.pointer (some pa), .int .i64 0]) ?_ 1 _ rfl; refine blk_put (cs := #[.pointer none, .int .i64 0]) ?_ 0 _ rfl; exact BX.out)
          have HB6 := Aside0.mk (show Below w.heap.size w ((w6.setCell ⟨gb, 0, none⟩ (.pointer (some pa))).setCell ⟨gb, 1, none⟩ (.int .i64 sz)) from below_set (below_set (below_step HB.out HW.out) (Nat.le_trans (below_size HB.out) GB.out)) (Nat.le_trans (below_size HB.out) GB.out))
          have hnl : gl ≠ gb := Nat.ne_of_lt (Nat.lt_of_lt_of_le (blk_lt BL.out) GB.out)
          have hnf : gf ≠ gb := Nat.ne_of_lt (Nat.lt_of_lt_of_le (blk_lt BF.out) GB.out)
          have BL6 := Aside0.mk (show ((w6.setCell ⟨gb, 0, none⟩ (.pointer (some pa))).setCell ⟨gb, 1, none⟩ (.int .i64 sz)).heap[gl]? = _ from blk_far (p := ⟨gb, 1, none⟩) (blk_far (p := ⟨gb, 0, none⟩) (blk_below BL.out HW.out) hnl _) hnl _)
          have BF6 := Aside0.mk (show ((w6.setCell ⟨gb, 0, none⟩ (.pointer (some pa))).setCell ⟨gb, 1, none⟩ (.int .i64 sz)).heap[gf]? = _ from blk_far (p := ⟨gb, 1, none⟩) (blk_far (p := ⟨gb, 0, none⟩) (blk_below BF.out HW.out) hnf _) hnf _)
          clear hnl hnf u0 u1 uf0 uf1 BX HW HB
          generalize ((w6.setCell ⟨gb, 0, none⟩ (.pointer (some pa))).setCell ⟨gb, 1, none⟩ (.int .i64 sz)) = wq at BX2 HB6 BL6 BF6 ⊢
          refine start_ (n := 15) (S := fun w' => w'.cell? ⟨gb, 0, none⟩ = some (.pointer (some pa)) ∧ w'.cell? ⟨gb, 1, none⟩ = some (.int .i64 sz)) (ds := [12]) #[false, false, false, false, false, false, false, false, false, false, false, false, false, false, false] (by kernel_rfl) rfl rfl ⟨(blk_cell BX2.out 0).trans rfl, (blk_cell BX2.out 1).trans rfl⟩ (fun hHeld => ?_); refine with_tabW ack_Parse.tab11 ack_Parse.bits11 (fun HT_ HW_ => ?_)
          refine pure_ (i := 0) (N := some 40) (v := ?_) (a' := ?_) #[true, false, false, false, false, false, false, false, false, false, false, false, false, false, false] rfl rfl (any_of HT_.out (by kernel_rfl)) (fun _ _ _ h => h) (Or.inl ⟨by rfl, ?_⟩) ?_ ?_
          rotate_left
          · intro w'
            go_simp
            with_reducible rfl
          rotate_left
          · simp only [Act.put, List.setIfInBounds_toArray, List.set_cons_zero, List.set_cons_succ, i64_w, i32_w]
            rfl
          refine pure_ (i := 2) (N := some 42) (v := ?_) (a' := ?_) #[true, false, true, false, false, false, false, false, false, false, false, false, false, false, false] rfl rfl (any_of HT_.out (by kernel_rfl)) (fun _ _ _ h => h) (Or.inl ⟨by rfl, ?_⟩) ?_ ?_
          rotate_left
          · intro w'
            go_simp
            with_reducible rfl
          rotate_left
          · simp only [Act.put, List.setIfInBounds_toArray, List.set_cons_zero, List.set_cons_succ, i64_w, i32_w]
            rfl
          refine pure_ (i := 3) (N := some 43) (v := ?_) (a' := ?_) #[true, false, true, true, false, false, false, false, false, false, false, false, false, false, false] rfl rfl (any_of HT_.out (by kernel_rfl)) (fun _ _ _ h => h) (Or.inl ⟨by rfl, ?_⟩) ?_ ?_
          rotate_left
          · intro w'
            go_simp
            with_reducible rfl
          rotate_left
          · simp only [Act.put, List.setIfInBounds_toArray, List.set_cons_zero, List.set_cons_succ, i64_w, i32_w]
            rfl
          refine pure_ (i := 4) (N := some 44) (v := ?_) (a' := ?_) #[true, false, true, true, true, false, false, false, false, false, false, false, false, false, false] rfl rfl (any_of HT_.out (by kernel_rfl)) (fun _ _ _ h => h) (Or.inl ⟨by rfl, ?_⟩) ?_ ?_
          rotate_left
          · intro w'
            go_simp
            with_reducible rfl
          rotate_left
          · simp only [Act.put, List.setIfInBounds_toArray, List.set_cons_zero, List.set_cons_succ, i64_w, i32_w]
            rfl
          refine take_ (i := 1) (N := some 41) (v := ?_) (a' := ?_) #[true, true, true, true, true, false, false, false, false, false, false, false, false, false, false] rfl rfl (take_ofW HT_.out HW_.out (by kernel_rfl)) (fun _ _ _ h => h) (Or.inl ⟨by rfl, ?_⟩) hHeld ?_ ?_
          rotate_left
          · rintro w' ⟨s0, s1⟩
            go_simp
            with_reducible rfl
          rotate_left
          · simp only [Act.put, List.setIfInBounds_toArray, List.set_cons_zero, List.set_cons_succ, i64_w, i32_w]
            rfl
          refine take_ (i := 5) (N := some 45) (v := ?_) (a' := ?_) #[true, true, true, true, true, true, false, false, false, false, false, false, false, false, false] rfl rfl (take_ofW HT_.out HW_.out (by kernel_rfl)) (fun _ _ _ h => h) (Or.inl ⟨by rfl, ?_⟩) hHeld ?_ ?_
          rotate_left
          · rintro w' ⟨s0, s1⟩
            go_simp
            with_reducible rfl
          rotate_left
          · simp only [Act.put, List.setIfInBounds_toArray, List.set_cons_zero, List.set_cons_succ, i64_w, i32_w]
            rfl
          refine one_ (i := 6) (N := some 46) #[true, true, true, true, true, true, true, false, false, false, false, false, false, false, false] rfl rfl (one_of HT_.out (by kernel_rfl)) (by decide) (fun K hK => ?_)
          refine goes_ Try.func33 (by kernel_rfl) rfl #[.slice A0 l0.length c0, .int .i64 at2, .int .i64 sz] (by rfl) rfl rfl (by simp only [List.map_toArray, List.map_cons, List.map_nil]; rfl) ?_
          with_reducible refine (wire_Get.calls A0 c0 l0 at2 sz s1 s2 s3 _ (Kd.C_below HR0.out (below_drew HB6.out)) HC0.out HG2.out).mono ?_
          rintro e w7 ⟨rfl, hb7⟩
          refine ⟨_, rfl, ?_⟩
          have HB7 := Aside0.mk (below_step (below_drew HB6.out) hb7)
          have BL7 := Aside0.mk (blk_below (w := wq.drew) BL6.out hb7)
          have BF7 := Aside0.mk (blk_below (w := wq.drew) BF6.out hb7)
          have BX7 := Aside0.mk (blk_below (w := wq.drew) BX2.out hb7)
          clear hb7
          have cp : w7.cell? pa = some (.int .i64 (getF jn x)) := by rw [HPA.out, blk_cell BL7.out]; exact rowC_get _ _ _ _ HJN.out.1
          have fp : w7.frozen? pa = false := by rw [HPA.out]; exact blk_frozen BL7.out _
          refine hK.out _ _ ⟨(blk_cell BX7.out 0).trans rfl, (blk_cell BX7.out 1).trans rfl⟩ (fun hHeld => ?_)
          clear hK K
          refine norm_ (a' := ?_) ?_ ?_
          rotate_left
          · show Act.put _ (some 46) _ = _
            simp only [Act.put, List.setIfInBounds_toArray, List.set_cons_zero, List.set_cons_succ, i64_w, i32_w]
            rfl
          refine pure_ (i := 7) (N := some 39) (v := ?_) (a' := ?_) #[true, true, true, true, true, true, true, true, false, false, false, false, false, false, false] rfl rfl (any_of HT_.out (by kernel_rfl)) (fun _ _ _ h => h) (Or.inl ⟨by rfl, ?_⟩) ?_ ?_
          rotate_left
          · intro w'
            go_simp
            with_reducible rfl
          rotate_left
          · simp only [Act.put, List.setIfInBounds_toArray, List.set_cons_zero, List.set_cons_succ, i64_w, i32_w]
            rfl
          refine pure_ (i := 8) (N := some 47) (v := ?_) (a' := ?_) #[true, true, true, true, true, true, true, true, true, false, false, false, false, false, false] rfl rfl (any_of HT_.out (by kernel_rfl)) (fun _ _ _ h => h) (Or.inl ⟨by rfl, ?_⟩) ?_ ?_
          rotate_left
          · intro w'
            go_simp
            with_reducible rfl
          rotate_left
          · simp only [Act.put, List.setIfInBounds_toArray, List.set_cons_zero, List.set_cons_succ, i64_w, i32_w]
            rfl
          refine pure_ (i := 9) (N := some 48) (v := ?_) (a' := ?_) #[true, true, true, true, true, true, true, true, true, true, false, false, false, false, false] rfl rfl (any_of HT_.out (by kernel_rfl)) (fun _ _ _ h => h) (Or.inl ⟨by rfl, ?_⟩) ?_ ?_
          rotate_left
          · intro w'
            go_simp
            with_reducible rfl
          rotate_left
          · simp only [Act.put, List.setIfInBounds_toArray, List.set_cons_zero, List.set_cons_succ, i64_w, i32_w]
            rfl
          refine pure_ (i := 10) (N := some 49) (v := ?_) (a' := ?_) #[true, true, true, true, true, true, true, true, true, true, true, false, false, false, false] rfl rfl (any_of HT_.out (by kernel_rfl)) (fun _ _ _ h => h) (Or.inl ⟨by rfl, ?_⟩) ?_ ?_
          rotate_left
          · intro w'
            go_simp
            with_reducible rfl
          rotate_left
          · simp only [Act.put, List.setIfInBounds_toArray, List.set_cons_zero, List.set_cons_succ, i64_w, i32_w]
            rfl
          refine pure_ (i := 11) (N := some 50) (v := ?_) (a' := ?_) #[true, true, true, true, true, true, true, true, true, true, true, true, false, false, false] rfl rfl (any_of HT_.out (by kernel_rfl)) (fun _ _ _ h => h) (Or.inl ⟨by rfl, ?_⟩) ?_ ?_
          rotate_left
          · intro w'
            go_simp
            with_reducible rfl
          rotate_left
          · simp only [Act.put, List.setIfInBounds_toArray, List.set_cons_zero, List.set_cons_succ, i64_w, i32_w]
            rfl
          refine last_ (i := 12) (N := none) #[true, true, true, true, true, true, true, true, true, true, true, true, true, false, false] rfl rfl (one_of HT_.out (by kernel_rfl)) (by decide) (fun K hK => ?_)
          refine skip_ (w1 := ?_) (by rfl) rfl ?_ ?_
          rotate_left
          · go_simp
            rfl
          refine hK.out _ _ ?_
          clear hK K
          refine pure_ (i := 13) (N := some 1) (v := ?_) (a' := ?_) #[true, true, true, true, true, true, true, true, true, true, true, true, true, true, false] rfl rfl (any_of HT_.out (by kernel_rfl)) (fun _ _ _ h => h) (Or.inl ⟨by rfl, ?_⟩) ?_ ?_
          rotate_left
          · intro w'
            go_simp
            with_reducible rfl
          rotate_left
          · simp only [Act.put, List.setIfInBounds_toArray, List.set_cons_zero, List.set_cons_succ, i64_w, i32_w]
            rfl
          refine pure_ (i := 14) (N := some 8) (v := ?_) (a' := ?_) #[true, true, true, true, true, true, true, true, true, true, true, true, true, true, true] rfl rfl (any_of HT_.out (by kernel_rfl)) (fun _ _ _ h => h) (Or.inl ⟨by rfl, ?_⟩) ?_ ?_
          rotate_left
          · intro w'
            go_simp
            with_reducible rfl
          rotate_left
          · simp only [Act.put, List.setIfInBounds_toArray, List.set_cons_zero, List.set_cons_succ, i64_w, i32_w]
            rfl
          refine done_ (done_of HT_.out (by kernel_rfl)) ?_
          clear HT_ HW_
          try go_wp2
          · rename_i hs3
            have hz : ¬ s3 = 0 := by simpa using hs3
            have hf2 := HF2.out
            rw [if_neg hz] at hf2
            simp only [Prod.mk.injEq] at hf2
            obtain ⟨-, -, rfl⟩ := hf2
            have hq := HPQ.out
            rw [if_neg hz] at hq
            simp only [Prod.mk.injEq] at hq
            obtain ⟨rfl, rfl, rfl⟩ := hq
            go_ret3
            refine ⟨_, rfl, Kd.R_nil _ _ _ _ _, ?_⟩
            rw [HPA.out]
            exact below_set HB7.out GL.out
          · rename_i hs3
            have hz : s3 = 0 := by simpa using hs3
            have hf2 := HF2.out
            rw [if_pos hz] at hf2
            have HF3 := Aside0.mk hf2
            clear hf2 HF2 hs3 hz
            go_roundg d
            case measure => omega
            case rel =>
              have hj := HJ.out
              have hjn := HJN.out
              refine ⟨putF jn s1 x, s2, j + 1, rfl, rfl, ⟨by omega⟩, HF3, ⟨?_⟩, ⟨?_⟩, ⟨?_⟩⟩
              · rw [HPA.out, blk_set BL7.out, rowC_set _ _ _ _ hjn.1]
              · refine blk_far BF7.out ?_ _
                rw [HPA.out]
                exact NLF.out.symm
              · rw [HPA.out]
                exact below_set HB7.out GL.out
end Go.Proofs.Ytolfbnkdmafomaa.P
namespace Go.Proofs.Ytolfbnkdmafomaa.P
open Go.RowKit Go.Proofs.YtolfbnkdmafomaaW.PrintWords Go.Proofs.YtolfbnkdmafomaaW.PrintLast Go.Proofs.YtolfbnkdmafomaaW.PrintMore
attribute [local go_sem] max2_int min2_int max_two min_two max_three min_three max_four min_four   -- for this text's walks alone
mutual
def thalweglaw07_AckBack.j0 : Nat → List (S24) → List Int → List Int → Bool → Option (Bool)
  | 0, _, _, _, _ => none
  | k + 1, x0, x1, x2, x29 => if x29 = true then (some true) else ((ack_Parse.f x2 0).bind fun bt327 => ((ack_Bytes.f bt327.1).bind fun bt332 => (if bt327.2.2 = 0 then (if bt332.2 = bt327.2.2 then (if bt327.2.1 < 10 then (thalweglaw07_AckBack.j1 k x0 x1 x2 true) else (if bt327.2.1 > (x2.length : Int) then (thalweglaw07_AckBack.j1 k x0 x1 x2 true) else (if 0 ≤ bt327.2.1 then (if bt327.2.1 ≤ (x2.length : Int) then (thalweglaw07_AckBack.j1 k x0 x1 x2 ((strOfNums bt332.1).toList != (strOfNums (x2.take (bt327.2.1 : Int).toNat)).toList)) else (none)) else (none)))) else (thalweglaw07_AckBack.j1 k x0 x1 x2 true)) else (thalweglaw07_AckBack.j1 k x0 x1 x2 false))))
def thalweglaw07_AckBack.j1 : Nat → List (S24) → List Int → List Int → Bool → Option (Bool)
  | 0, _, _, _, _ => none
  | k + 1, x0, x1, x2, x66 => if x66 = true then (none) else ((ack_Bytes.f x0).bind fun bt341 => ((thalwegref01_Both.f k (([x1, bt341.1, x2] : List (List Int)))).bind fun t348 => ((ack_Parse.f t348 (x1.length : Int)).bind fun bt351 => (if bt341.2 = 0 then ((thalweglaw07_awake.f k).bind fun t356 => (if t356 = true then (if bt351.2.2 = 0 then ((thalwegref07_Same.f k bt351.1 x0).bind fun t357 => (if t357 = true then (some (bt351.2.1 == (wrap64 ((x1.length : Int) + (bt341.1.length : Int))))) else (none))) else (none)) else (none))) else ((thalweglaw07_awake.f k).bind fun t358 => (if t358 = true then (some ((bt341.1.length : Int) == 0)) else (none)))))))
end
def thalweglaw07_AckBack.f (k : Nat) (l0 : List (S24)) (l1 : List Int) (l2 : List Int) : Option (Bool) := if (l0.length : Int) > 100 then (thalweglaw07_AckBack.j0 k l0 l1 l2 true) else (if (l1.length : Int) > 200 then (thalweglaw07_AckBack.j0 k l0 l1 l2 true) else (thalweglaw07_AckBack.j0 k l0 l1 l2 (decide ((l2.length : Int) > 700))))
theorem thalweglaw07_AckBack.mono_l : ∀ k, (∀ y0 y1 y2 y3, LeO (thalweglaw07_AckBack.j0 k y0 y1 y2 y3) (thalweglaw07_AckBack.j0 (k + 1) y0 y1 y2 y3)) ∧ (∀ y0 y1 y2 y3, LeO (thalweglaw07_AckBack.j1 k y0 y1 y2 y3) (thalweglaw07_AckBack.j1 (k + 1) y0 y1 y2 y3))
  | 0 => ⟨fun _ _ _ _ r h => by simp [thalweglaw07_AckBack.j0] at h, fun _ _ _ _ r h => by simp [thalweglaw07_AckBack.j1] at h⟩
  | k + 1 => by
    obtain ⟨ih0, ih1⟩ := thalweglaw07_AckBack.mono_l k
    refine ⟨?_, ?_⟩
    · intro y0 y1 y2 y3
      unfold thalweglaw07_AckBack.j0
      repeat' first
      | (with_reducible exact ih0 _ _ _ _)
      | (with_reducible exact ih1 _ _ _ _)
      | (with_reducible exact thalweglaw07_awake.mono _)
      | (with_reducible exact thalwegref01_Both.mono _ _)
      | (with_reducible exact thalwegref07_Same.mono _ _ _)
      | (with_reducible exact LeO.refl _)
      | (with_reducible exact LeO.none _)
      | (with_reducible refine LeO.ite ?_ ?_)
      | (with_reducible refine LeO.bind ?_ (fun _ => ?_))
      | exact ih0 _ _ _ _
      | exact ih1 _ _ _ _
      | exact thalweglaw07_awake.mono _
      | exact thalwegref01_Both.mono _ _
      | exact thalwegref07_Same.mono _ _ _
      | exact LeO.none _
      | refine LeO.ite ?_ ?_
      | refine LeO.bind ?_ (fun _ => ?_)
    · intro y0 y1 y2 y3
      unfold thalweglaw07_AckBack.j1
      repeat' first
      | (with_reducible exact ih0 _ _ _ _)
      | (with_reducible exact ih1 _ _ _ _)
      | (with_reducible exact thalweglaw07_awake.mono _)
      | (with_reducible exact thalwegref01_Both.mono _ _)
      | (with_reducible exact thalwegref07_Same.mono _ _ _)
      | (with_reducible exact LeO.refl _)
      | (with_reducible exact LeO.none _)
      | (with_reducible refine LeO.ite ?_ ?_)
      | (with_reducible refine LeO.bind ?_ (fun _ => ?_))
      | exact ih0 _ _ _ _
      | exact ih1 _ _ _ _
      | exact thalweglaw07_awake.mono _
      | exact thalwegref01_Both.mono _ _
      | exact thalwegref07_Same.mono _ _ _
      | exact LeO.none _
      | refine LeO.ite ?_ ?_
      | refine LeO.bind ?_ (fun _ => ?_)
theorem thalweglaw07_AckBack.mono : ∀ a0 a1 a2 k, LeO (thalweglaw07_AckBack.f k a0 a1 a2) (thalweglaw07_AckBack.f (k + 1) a0 a1 a2) := by
  intro a0 a1 a2 k
  obtain ⟨ih0, ih1⟩ := thalweglaw07_AckBack.mono_l k
  unfold thalweglaw07_AckBack.f
  repeat' first
      | (with_reducible exact ih0 _ _ _ _)
      | (with_reducible exact ih1 _ _ _ _)
      | (with_reducible exact thalweglaw07_awake.mono _)
      | (with_reducible exact thalwegref01_Both.mono _ _)
      | (with_reducible exact thalwegref07_Same.mono _ _ _)
      | (with_reducible exact LeO.refl _)
      | (with_reducible exact LeO.none _)
      | (with_reducible refine LeO.ite ?_ ?_)
      | (with_reducible refine LeO.bind ?_ (fun _ => ?_))
      | exact ih0 _ _ _ _
      | exact ih1 _ _ _ _
      | exact thalweglaw07_awake.mono _
      | exact thalwegref01_Both.mono _ _
      | exact thalwegref07_Same.mono _ _ _
      | exact LeO.none _
      | refine LeO.ite ?_ ?_
      | refine LeO.bind ?_ (fun _ => ?_)
set_option maxHeartbeats 8000000 in
set_option maxRecDepth 100000 in
theorem thalweglaw07_AckBack.calls (k : Nat) (A0 : Option Addr) (c0 : Nat) (l0 : List (S24)) (P1_ : Nat → Prop) (A1 : Option Addr) (c1 : Nat) (l1 : List Int) (P2_ : Nat → Prop) (A2 : Option Addr) (c2 : Nat) (l2 : List Int) (r : Bool) (w : World) (hr0 : Kd.C k24 w A0 l0.length l0) (hc0 : l0.length ≤ c0) (hs1 : Kd.V (Kd.int .u8) 5 w w.heap.size (fun k_ => P1_ k_) (.slice A1 l1.length c1) l1) (hs2 : Kd.V (Kd.int .u8) 5 w w.heap.size (fun k_ => P2_ k_) (.slice A2 l2.length c2) l2) (h : thalweglaw07_AckBack.f k l0 l1 l2 = some r) :
    Calls Try.prog 7 #[.slice A0 l0.length c0, .slice A1 l1.length c1, .slice A2 l2.length c2] w fun e w' => e = .returned (.bool r) ∧ Below w.heap.size w w' := by
  have HR0 := Aside0.mk hr0
  have HC0 := Aside0.mk hc0
  clear hr0 hc0
  have HO1 := Aside0.mk (show Kd.V (Kd.int .u8) 5 w w.heap.size (fun k_ => ((P1_ k_ ∨ P2_ k_) ∨ w.heap.size ≤ k_)) (.slice A1 l1.length c1) l1 from Kd.V_mono hs1 (fun k_ hk => .inl (.inl hk)))
  have HO2 := Aside0.mk (show Kd.V (Kd.int .u8) 5 w w.heap.size (fun k_ => ((P1_ k_ ∨ P2_ k_) ∨ w.heap.size ≤ k_)) (.slice A2 l2.length c2) l2 from Kd.V_mono hs2 (fun k_ hk => .inl (.inr hk)))
  have HB := Aside0.mk (Below.refl w.heap.size w)
  have H : (if (l0.length : Int) > 100 then (thalweglaw07_AckBack.j0 k l0 l1 l2 true) else (if (l1.length : Int) > 200 then (thalweglaw07_AckBack.j0 k l0 l1 l2 true) else (thalweglaw07_AckBack.j0 k l0 l1 l2 (decide ((l2.length : Int) > 700))))) = some r := h
  clear h
  have HC4 := Aside0.mk H
  clear H
  go_enter Try.func7, Try.ntmps7
  go_upto_region 1 with (fail)
  repeat (go_quiet (fail); go_upto_region 1 with (fail))
  go_cut [29] (fun v29 wc => ∃ (kq : Nat) (x29_3 : Bool), v29 = .bool x29_3 ∧ Aside0 (thalweglaw07_AckBack.j0 kq l0 l1 l2 x29_3 = some r) ∧ Aside0 (kq ≤ k) ∧ Aside0 (Kd.V (Kd.int .u8) 5 wc w.heap.size (fun k_ => ((P1_ k_ ∨ P2_ k_) ∨ w.heap.size ≤ k_)) (.slice A1 l1.length c1) l1) ∧ Aside0 (Kd.V (Kd.int .u8) 5 wc w.heap.size (fun k_ => ((P1_ k_ ∨ P2_ k_) ∨ w.heap.size ≤ k_)) (.slice A2 l2.length c2) l2) ∧ Aside0 (Below w.heap.size w wc))
  case first =>
    have H := HC4.out
    clear HC4
    by_cases c5 : (l0.length : Int) > 100
    · rw [if_pos c5] at H
      have c5b0 : decide (100 < (l0.length : Int)) = true := decide_eq_true c5
      have c5b1 : decide (100 < l0.length) = true := decide_eq_true (by omega)
      clear c5
      (first | rw [c5b0] | (simp only [i64_w, i32_w]; rw [c5b0]) | rw [c5b1] | skip)
      have H' := Aside0.mk H
      clear H
      go_wp2
      repeat (go_quiet (fail); try go_wp2)
      go_meet
      case rel => exact ⟨_, (true), (by first | rfl | (simp; done) | (simp [*]; done)), H', ⟨by first | omega | exact Nat.le_refl _⟩, ⟨by (with_reducible repeat (first | apply Kd.V_alloc | apply Kd.V_drewN | apply Kd.V_drew)); exact HO1.out⟩, ⟨by (with_reducible repeat (first | apply Kd.V_alloc | apply Kd.V_drewN | apply Kd.V_drew)); exact HO2.out⟩, ⟨by repeat (first | (with_reducible first | exact HB.out | apply below_alloc | apply pw_below_drewN | apply below_drew1) | exact HB.out)⟩⟩
    · rw [if_neg c5] at H
      have c5b0 : decide (100 < (l0.length : Int)) = false := decide_eq_false c5
      have c5b1 : decide (100 < l0.length) = false := decide_eq_false (by omega)
      clear c5
      (first | rw [c5b0] | (simp only [i64_w, i32_w]; rw [c5b0]) | rw [c5b1] | skip)
      by_cases c6 : (l1.length : Int) > 200
      · rw [if_pos c6] at H
        have c6b0 : decide (200 < (l1.length : Int)) = true := decide_eq_true c6
        have c6b1 : decide (200 < l1.length) = true := decide_eq_true (by omega)
        clear c6
        have H' := Aside0.mk H
        clear H
        go_wp2
        repeat (go_quiet (fail); try go_wp2)
        go_meet
        case rel => exact ⟨_, (true), (by first | rfl | (simp; done) | (simp [*]; done)), H', ⟨by first | omega | exact Nat.le_refl _⟩, ⟨by (with_reducible repeat (first | apply Kd.V_alloc | apply Kd.V_drewN | apply Kd.V_drew)); exact HO1.out⟩, ⟨by (with_reducible repeat (first | apply Kd.V_alloc | apply Kd.V_drewN | apply Kd.V_drew)); exact HO2.out⟩, ⟨by repeat (first | (with_reducible first | exact HB.out | apply below_alloc | apply pw_below_drewN | apply below_drew1) | exact HB.out)⟩⟩
      · rw [if_neg c6] at H
        have c6b0 : decide (200 < (l1.length : Int)) = false := decide_eq_false c6
        have c6b1 : decide (200 < l1.length) = false := decide_eq_false (by omega)
        clear c6
        have H' := Aside0.mk H
        clear H
        go_wp2
        repeat (go_quiet (fail); try go_wp2)
        go_meet
        case rel => exact ⟨_, (decide ((l2.length : Int) > 700)), (by first | rfl | (simp; done) | (simp [*]; done)), H', ⟨by first | omega | exact Nat.le_refl _⟩, ⟨by (with_reducible repeat (first | apply Kd.V_alloc | apply Kd.V_drewN | apply Kd.V_drew)); exact HO1.out⟩, ⟨by (with_reducible repeat (first | apply Kd.V_alloc | apply Kd.V_drewN | apply Kd.V_drew)); exact HO2.out⟩, ⟨by repeat (first | (with_reducible first | exact HB.out | apply below_alloc | apply pw_below_drewN | apply below_drew1) | exact HB.out)⟩⟩
  case rest =>
    clear HC4
    try clear c1
    try clear c2
    try clear p2
    try clear c5
    try clear c5b0
    try clear c5b1
    try clear c6
    try clear c6b0
    try clear c6b1
    obtain ⟨kq, x29_3, rfl, HA, HJ3, HO_1, HO_2, HB⟩ := hcut
    cases kq with
    | zero => exact absurd HA.out (by simp [thalweglaw07_AckBack.j0])
    | succ kj3 =>
      have H := HA.out
      clear HA
      simp only [thalweglaw07_AckBack.j0] at H
      by_cases c7 : x29_3 = true
      · subst c7
        have H1 : (some true) = some r := by rw [if_pos rfl] at H; exact H
        clear H
        have H := H1
        clear H1
        obtain rfl := Option.some.inj H
        go_wp2
        repeat (go_quiet (fail); try go_wp2)
        go_ret
        exact ⟨by first | rfl | (simp [errW_none, errW_some] <;> rfl) | (simp [*, errW_none, errW_some] <;> rfl), by repeat (first | (with_reducible first | exact HB.out | apply below_alloc | apply pw_below_drewN | apply below_drew1) | exact HB.out)⟩
      · replace c7 := Bool.eq_false_iff.mpr c7
        subst c7
        have H1 : ((ack_Parse.f l2 0).bind fun bt327 => ((ack_Bytes.f bt327.1).bind fun bt332 => (if bt327.2.2 = 0 then (if bt332.2 = bt327.2.2 then (if bt327.2.1 < 10 then (thalweglaw07_AckBack.j1 kj3 l0 l1 l2 true) else (if bt327.2.1 > (l2.length : Int) then (thalweglaw07_AckBack.j1 kj3 l0 l1 l2 true) else (if 0 ≤ bt327.2.1 then (if bt327.2.1 ≤ (l2.length : Int) then (thalweglaw07_AckBack.j1 kj3 l0 l1 l2 ((strOfNums bt332.1).toList != (strOfNums (l2.take (bt327.2.1 : Int).toNat)).toList)) else (none)) else (none)))) else (thalweglaw07_AckBack.j1 kj3 l0 l1 l2 true)) else (thalweglaw07_AckBack.j1 kj3 l0 l1 l2 false)))) = some r := by rw [if_neg (show ¬ (false = true) by decide)] at H; exact H
        clear H
        have H := H1
        clear H1
        replace H := Option.bind_eq_some_iff.mp H
        obtain ⟨⟨t327, t328, t329⟩, A80, H⟩ := H
        replace H : ((ack_Bytes.f t327).bind fun bt332 => (if t329 = 0 then (if bt332.2 = t329 then (if t328 < 10 then (thalweglaw07_AckBack.j1 kj3 l0 l1 l2 true) else (if t328 > (l2.length : Int) then (thalweglaw07_AckBack.j1 kj3 l0 l1 l2 true) else (if 0 ≤ t328 then (if t328 ≤ (l2.length : Int) then (thalweglaw07_AckBack.j1 kj3 l0 l1 l2 ((strOfNums bt332.1).toList != (strOfNums (l2.take (t328 : Int).toNat)).toList)) else (none)) else (none)))) else (thalweglaw07_AckBack.j1 kj3 l0 l1 l2 true)) else (thalweglaw07_AckBack.j1 kj3 l0 l1 l2 false))) = some r := H
        have A8 := Aside0.mk A80
        clear A80
        replace H := Option.bind_eq_some_iff.mp H
        obtain ⟨⟨t332, t333⟩, A90, H⟩ := H
        replace H : (if t329 = 0 then (if t333 = t329 then (if t328 < 10 then (thalweglaw07_AckBack.j1 kj3 l0 l1 l2 true) else (if t328 > (l2.length : Int) then (thalweglaw07_AckBack.j1 kj3 l0 l1 l2 true) else (if 0 ≤ t328 then (if t328 ≤ (l2.length : Int) then (thalweglaw07_AckBack.j1 kj3 l0 l1 l2 ((strOfNums t332).toList != (strOfNums (l2.take (t328 : Int).toNat)).toList)) else (none)) else (none)))) else (thalweglaw07_AckBack.j1 kj3 l0 l1 l2 true)) else (thalweglaw07_AckBack.j1 kj3 l0 l1 l2 false)) = some r := H
        have A9 := Aside0.mk A90
        clear A90
        have HC10 := Aside0.mk H
        clear H
        go_upto_region 5 with (first | (go_at_call 20; (with_reducible refine (ack_Parse.calls _ _ l2 0 t327 t328 t329 _ ?side1 ?side2 A8.out).mono ?_); (case side1 => repeat (first | exact (Kd.V_reads' HO_2.out).2.2 | (with_reducible refine Kd.C_alloc ?_ _) | (with_reducible refine Kd.C_drewN ?_ _) | (with_reducible refine Kd.C_drew ?_))); (case side2 => exact (Kd.V_reads' HO_2.out).2.1); rintro e w11 ⟨v330, rfl, ho0, hb⟩; have n0_ := Aside0.mk (Kd.V_elder' (by (with_reducible repeat (first | apply Kd.V_alloc | apply Kd.V_drewN | apply Kd.V_drew)); exact HO_1.out) (Kd.R_base ho0) hb); have n1_ := Aside0.mk (Kd.V_elder' (by (with_reducible repeat (first | apply Kd.V_alloc | apply Kd.V_drewN | apply Kd.V_drew)); exact HO_2.out) (Kd.R_base ho0) hb); have n2_ := Aside0.mk (Kd.R_lower (Kd.R_newM (M := fun k_ => (w.heap.size ≤ k_)) ho0 (below_size (by repeat (first | (with_reducible first | exact HB.out | apply below_alloc | apply pw_below_drewN | apply below_drew1) | exact HB.out))) (fun k_ h_ => h_)) (below_size (by repeat (first | (with_reducible first | exact HB.out | apply below_alloc | apply pw_below_drewN | apply below_drew1) | exact HB.out)))); have n3_ := Aside0.mk (below_step (by repeat (first | (with_reducible first | exact HB.out | apply below_alloc | apply pw_below_drewN | apply below_drew1) | exact HB.out)) hb); clear HO_1; clear HO_2; clear HB; have HO_1 := n0_; have HO_2 := n1_; have HO331 := n2_; have HB := n3_; clear n0_ n1_ n2_ n3_; (try clear hb); (try clear hb2); (try clear hk); (try clear hi); (try clear ho0); obtain ⟨Ao12, co12, eo12⟩ := Kd.R_slice HO331.out; subst eo12) | (go_at_call 13; (with_reducible refine (ack_Bytes.calls _ _ t327 t332 t333 _ ?side1 ?side2 A9.out).mono ?_); (case side1 => repeat (first | exact (Kd.R_reads' HO331.out).2.2 | (with_reducible refine Kd.C_alloc ?_ _) | (with_reducible refine Kd.C_drewN ?_ _) | (with_reducible refine Kd.C_drew ?_))); (case side2 => exact (Kd.R_reads' HO331.out).2.1); rintro e w13 ⟨v334, rfl, ho0, hb⟩; have n0_ := Aside0.mk (Kd.V_below (by (with_reducible repeat (first | apply Kd.V_alloc | apply Kd.V_drewN | apply Kd.V_drew)); exact HO_1.out) hb); have n1_ := Aside0.mk (Kd.V_below (by (with_reducible repeat (first | apply Kd.V_alloc | apply Kd.V_drewN | apply Kd.V_drew)); exact HO_2.out) hb); have n2_ := Aside0.mk (Kd.R_below (by (with_reducible repeat (first | apply Kd.R_alloc | apply Kd.R_drewN | apply Kd.R_drew)); exact HO331.out) hb); have n3_ := Aside0.mk (Kd.V_lower (Kd.V_mono (ok' := fun k_ => ((P1_ k_ ∨ P2_ k_) ∨ w.heap.size ≤ k_) ∧ some k_ ≠ (.slice Ao12 t327.length co12 : Value).ownBlock) (Kd.N_V (base' := _) (Kd.R_N (Kd.R_bound ho0))) (fun k_ hk_ => ⟨(.inr (Nat.le_trans (below_size (by repeat (first | (with_reducible first | exact HB.out | apply below_alloc | apply pw_below_drewN | apply below_drew1) | exact HB.out))) hk_.2.1)), (Kd.fresh' (Kd.R_lt (by (with_reducible repeat (first | apply Kd.R_alloc | apply Kd.R_drewN | apply Kd.R_drew)); exact HO331.out)) k_ hk_.2.1)⟩)) (below_size (by repeat (first | (with_reducible first | exact HB.out | apply below_alloc | apply pw_below_drewN | apply below_drew1) | exact HB.out)))); have n4_ := Aside0.mk (below_step (by repeat (first | (with_reducible first | exact HB.out | apply below_alloc | apply pw_below_drewN | apply below_drew1) | exact HB.out)) hb); clear HO_1; clear HO_2; clear HO331; clear HB; have HO_1 := n0_; have HO_2 := n1_; have HO331 := n2_; have HO335 := n3_; have HB := n4_; clear n0_ n1_ n2_ n3_ n4_; (try clear hb); (try clear hb2); (try clear hk); (try clear hi); (try clear ho0)))
        repeat (go_quiet (first | (go_at_call 20; (with_reducible refine (ack_Parse.calls _ _ l2 0 t327 t328 t329 _ ?side1 ?side2 A8.out).mono ?_); (case side1 => repeat (first | exact (Kd.V_reads' HO_2.out).2.2 | (with_reducible refine Kd.C_alloc ?_ _) | (with_reducible refine Kd.C_drewN ?_ _) | (with_reducible refine Kd.C_drew ?_))); (case side2 => exact (Kd.V_reads' HO_2.out).2.1); rintro e w11 ⟨v330, rfl, ho0, hb⟩; have n0_ := Aside0.mk (Kd.V_elder' (by (with_reducible repeat (first | apply Kd.V_alloc | apply Kd.V_drewN | apply Kd.V_drew)); exact HO_1.out) (Kd.R_base ho0) hb); have n1_ := Aside0.mk (Kd.V_elder' (by (with_reducible repeat (first | apply Kd.V_alloc | apply Kd.V_drewN | apply Kd.V_drew)); exact HO_2.out) (Kd.R_base ho0) hb); have n2_ := Aside0.mk (Kd.R_lower (Kd.R_newM (M := fun k_ => (w.heap.size ≤ k_)) ho0 (below_size (by repeat (first | (with_reducible first | exact HB.out | apply below_alloc | apply pw_below_drewN | apply below_drew1) | exact HB.out))) (fun k_ h_ => h_)) (below_size (by repeat (first | (with_reducible first | exact HB.out | apply below_alloc | apply pw_below_drewN | apply below_drew1) | exact HB.out)))); have n3_ := Aside0.mk (below_step (by repeat (first | (with_reducible first | exact HB.out | apply below_alloc | apply pw_below_drewN | apply below_drew1) | exact HB.out)) hb); clear HO_1; clear HO_2; clear HB; have HO_1 := n0_; have HO_2 := n1_; have HO331 := n2_; have HB := n3_; clear n0_ n1_ n2_ n3_; (try clear hb); (try clear hb2); (try clear hk); (try clear hi); (try clear ho0); obtain ⟨Ao12, co12, eo12⟩ := Kd.R_slice HO331.out; subst eo12) | (go_at_call 13; (with_reducible refine (ack_Bytes.calls _ _ t327 t332 t333 _ ?side1 ?side2 A9.out).mono ?_); (case side1 => repeat (first | exact (Kd.R_reads' HO331.out).2.2 | (with_reducible refine Kd.C_alloc ?_ _) | (with_reducible refine Kd.C_drewN ?_ _) | (with_reducible refine Kd.C_drew ?_))); (case side2 => exact (Kd.R_reads' HO331.out).2.1); rintro e w13 ⟨v334, rfl, ho0, hb⟩; have n0_ := Aside0.mk (Kd.V_below (by (with_reducible repeat (first | apply Kd.V_alloc | apply Kd.V_drewN | apply Kd.V_drew)); exact HO_1.out) hb); have n1_ := Aside0.mk (Kd.V_below (by (with_reducible repeat (first | apply Kd.V_alloc | apply Kd.V_drewN | apply Kd.V_drew)); exact HO_2.out) hb); have n2_ := Aside0.mk (Kd.R_below (by (with_reducible repeat (first | apply Kd.R_alloc | apply Kd.R_drewN | apply Kd.R_drew)); exact HO331.out) hb); have n3_ := Aside0.mk (Kd.V_lower (Kd.V_mono (ok' := fun k_ => ((P1_ k_ ∨ P2_ k_) ∨ w.heap.size ≤ k_) ∧ some k_ ≠ (.slice Ao12 t327.length co12 : Value).ownBlock) (Kd.N_V (base' := _) (Kd.R_N (Kd.R_bound ho0))) (fun k_ hk_ => ⟨(.inr (Nat.le_trans (below_size (by repeat (first | (with_reducible first | exact HB.out | apply below_alloc | apply pw_below_drewN | apply below_drew1) | exact HB.out))) hk_.2.1)), (Kd.fresh' (Kd.R_lt (by (with_reducible repeat (first | apply Kd.R_alloc | apply Kd.R_drewN | apply Kd.R_drew)); exact HO331.out)) k_ hk_.2.1)⟩)) (below_size (by repeat (first | (with_reducible first | exact HB.out | apply below_alloc | apply pw_below_drewN | apply below_drew1) | exact HB.out)))); have n4_ := Aside0.mk (below_step (by repeat (first | (with_reducible first | exact HB.out | apply below_alloc | apply pw_below_drewN | apply below_drew1) | exact HB.out)) hb); clear HO_1; clear HO_2; clear HO331; clear HB; have HO_1 := n0_; have HO_2 := n1_; have HO331 := n2_; have HO335 := n3_; have HB := n4_; clear n0_ n1_ n2_ n3_ n4_; (try clear hb); (try clear hb2); (try clear hk); (try clear hi); (try clear ho0))); go_upto_region 5 with (first | (go_at_call 20; (with_reducible refine (ack_Parse.calls _ _ l2 0 t327 t328 t329 _ ?side1 ?side2 A8.out).mono ?_); (case side1 => repeat (first | exact (Kd.V_reads' HO_2.out).2.2 | (with_reducible refine Kd.C_alloc ?_ _) | (with_reducible refine Kd.C_drewN ?_ _) | (with_reducible refine Kd.C_drew ?_))); (case side2 => exact (Kd.V_reads' HO_2.out).2.1); rintro e w11 ⟨v330, rfl, ho0, hb⟩; have n0_ := Aside0.mk (Kd.V_elder' (by (with_reducible repeat (first | apply Kd.V_alloc | apply Kd.V_drewN | apply Kd.V_drew)); exact HO_1.out) (Kd.R_base ho0) hb); have n1_ := Aside0.mk (Kd.V_elder' (by (with_reducible repeat (first | apply Kd.V_alloc | apply Kd.V_drewN | apply Kd.V_drew)); exact HO_2.out) (Kd.R_base ho0) hb); have n2_ := Aside0.mk (Kd.R_lower (Kd.R_newM (M := fun k_ => (w.heap.size ≤ k_)) ho0 (below_size (by repeat (first | (with_reducible first | exact HB.out | apply below_alloc | apply pw_below_drewN | apply below_drew1) | exact HB.out))) (fun k_ h_ => h_)) (below_size (by repeat (first | (with_reducible first | exact HB.out | apply below_alloc | apply pw_below_drewN | apply below_drew1) | exact HB.out)))); have n3_ := Aside0.mk (below_step (by repeat (first | (with_reducible first | exact HB.out | apply below_alloc | apply pw_below_drewN | apply below_drew1) | exact HB.out)) hb); clear HO_1; clear HO_2; clear HB; have HO_1 := n0_; have HO_2 := n1_; have HO331 := n2_; have HB := n3_; clear n0_ n1_ n2_ n3_; (try clear hb); (try clear hb2); (try clear hk); (try clear hi); (try clear ho0); obtain ⟨Ao12, co12, eo12⟩ := Kd.R_slice HO331.out; subst eo12) | (go_at_call 13; (with_reducible refine (ack_Bytes.calls _ _ t327 t332 t333 _ ?side1 ?side2 A9.out).mono ?_); (case side1 => repeat (first | exact (Kd.R_reads' HO331.out).2.2 | (with_reducible refine Kd.C_alloc ?_ _) | (with_reducible refine Kd.C_drewN ?_ _) | (with_reducible refine Kd.C_drew ?_))); (case side2 => exact (Kd.R_reads' HO331.out).2.1); rintro e w13 ⟨v334, rfl, ho0, hb⟩; have n0_ := Aside0.mk (Kd.V_below (by (with_reducible repeat (first | apply Kd.V_alloc | apply Kd.V_drewN | apply Kd.V_drew)); exact HO_1.out) hb); have n1_ := Aside0.mk (Kd.V_below (by (with_reducible repeat (first | apply Kd.V_alloc | apply Kd.V_drewN | apply Kd.V_drew)); exact HO_2.out) hb); have n2_ := Aside0.mk (Kd.R_below (by (with_reducible repeat (first | apply Kd.R_alloc | apply Kd.R_drewN | apply Kd.R_drew)); exact HO331.out) hb); have n3_ := Aside0.mk (Kd.V_lower (Kd.V_mono (ok' := fun k_ => ((P1_ k_ ∨ P2_ k_) ∨ w.heap.size ≤ k_) ∧ some k_ ≠ (.slice Ao12 t327.length co12 : Value).ownBlock) (Kd.N_V (base' := _) (Kd.R_N (Kd.R_bound ho0))) (fun k_ hk_ => ⟨(.inr (Nat.le_trans (below_size (by repeat (first | (with_reducible first | exact HB.out | apply below_alloc | apply pw_below_drewN | apply below_drew1) | exact HB.out))) hk_.2.1)), (Kd.fresh' (Kd.R_lt (by (with_reducible repeat (first | apply Kd.R_alloc | apply Kd.R_drewN | apply Kd.R_drew)); exact HO331.out)) k_ hk_.2.1)⟩)) (below_size (by repeat (first | (with_reducible first | exact HB.out | apply below_alloc | apply pw_below_drewN | apply below_drew1) | exact HB.out)))); have n4_ := Aside0.mk (below_step (by repeat (first | (with_reducible first | exact HB.out | apply below_alloc | apply pw_below_drewN | apply below_drew1) | exact HB.out)) hb); clear HO_1; clear HO_2; clear HO331; clear HB; have HO_1 := n0_; have HO_2 := n1_; have HO331 := n2_; have HO335 := n3_; have HB := n4_; clear n0_ n1_ n2_ n3_ n4_; (try clear hb); (try clear hb2); (try clear hk); (try clear hi); (try clear ho0))))
        (try simp only [Act.put, List.setIfInBounds_toArray, List.set_cons_zero, List.set_cons_succ])
        go_cut [66] (fun v66 wc => ∃ (kq : Nat) (x66_9 : Bool), v66 = .bool x66_9 ∧ Aside0 (thalweglaw07_AckBack.j1 kq l0 l1 l2 x66_9 = some r) ∧ Aside0 (kq ≤ kj3) ∧ Aside0 (Kd.V (Kd.int .u8) 5 wc w.heap.size (fun k_ => ((P1_ k_ ∨ P2_ k_) ∨ w.heap.size ≤ k_)) (.slice A1 l1.length c1) l1) ∧ Aside0 (Kd.V (Kd.int .u8) 5 wc w.heap.size (fun k_ => ((P1_ k_ ∨ P2_ k_) ∨ w.heap.size ≤ k_)) (.slice A2 l2.length c2) l2) ∧ Aside0 (Below w.heap.size w wc))
        case first =>
          have H := HC10.out
          clear HC10
          by_cases c14 : t329 = 0
          · rw [if_pos c14] at H
            have c14b0 : (t329 == 0) = true := beq_iff_eq.mpr c14
            have c14b1 : (t329 != 0) = false := bne_eq_false_iff_eq.mpr c14
            clear c14
            (first | rw [c14b0] | (simp only [i64_w, i32_w]; rw [c14b0]) | rw [c14b1] | skip)
            by_cases c15 : t333 = t329
            · rw [if_pos c15] at H
              have c15b0 : (t333 == t329) = true := beq_iff_eq.mpr c15
              have c15b1 : (t333 != t329) = false := bne_eq_false_iff_eq.mpr c15
              clear c15
              by_cases c16 : t328 < 10
              · rw [if_pos c16] at H
                have c16b0 : decide (t328 < 10) = true := decide_eq_true c16
                clear c16
                have H' := Aside0.mk H
                clear H
                go_wp2
                repeat (go_quiet (fail); try go_wp2)
                go_meet
                case rel => exact ⟨_, (true), (by first | rfl | (simp; done) | (simp [*]; done)), H', ⟨by have := HJ3.out; first | omega | exact Nat.le_refl _⟩, ⟨by (with_reducible repeat (first | apply Kd.V_alloc | apply Kd.V_drewN | apply Kd.V_drew)); exact Kd.V_mono HO_1.out (fun _ hk => by first | exact hk.1 | exact trivial | (simp [hk]; done) | simp_all)⟩, ⟨by (with_reducible repeat (first | apply Kd.V_alloc | apply Kd.V_drewN | apply Kd.V_drew)); exact Kd.V_mono HO_2.out (fun _ hk => by first | exact hk.1 | exact trivial | (simp [hk]; done) | simp_all)⟩, ⟨by repeat (first | (with_reducible first | exact HB.out | apply below_alloc | apply pw_below_drewN | apply below_drew1) | exact HB.out)⟩⟩
              · rw [if_neg c16] at H
                have c16b0 : decide (t328 < 10) = false := decide_eq_false c16
                clear c16
                by_cases c17 : t328 > (l2.length : Int)
                · rw [if_pos c17] at H
                  have c17b0 : decide ((l2.length : Int) < t328) = true := decide_eq_true c17
                  clear c17
                  have H' := Aside0.mk H
                  clear H
                  go_wp2
                  repeat (go_quiet (fail); try go_wp2)
                  go_meet
                  case rel => exact ⟨_, (true), (by first | rfl | (simp; done) | (simp [*]; done)), H', ⟨by have := HJ3.out; first | omega | exact Nat.le_refl _⟩, ⟨by (with_reducible repeat (first | apply Kd.V_alloc | apply Kd.V_drewN | apply Kd.V_drew)); exact Kd.V_mono HO_1.out (fun _ hk => by first | exact hk.1 | exact trivial | (simp [hk]; done) | simp_all)⟩, ⟨by (with_reducible repeat (first | apply Kd.V_alloc | apply Kd.V_drewN | apply Kd.V_drew)); exact Kd.V_mono HO_2.out (fun _ hk => by first | exact hk.1 | exact trivial | (simp [hk]; done) | simp_all)⟩, ⟨by repeat (first | (with_reducible first | exact HB.out | apply below_alloc | apply pw_below_drewN | apply below_drew1) | exact HB.out)⟩⟩
                · rw [if_neg c17] at H
                  have c17b0 : decide ((l2.length : Int) < t328) = false := decide_eq_false c17
                  clear c17
                  by_cases c18 : 0 ≤ t328
                  rotate_left
                  · rw [if_neg c18] at H
                    exact absurd H (by simp)
                  rw [if_pos c18] at H
                  have c18b0 := eq_true c18
                  have c18b1 : decide (0 ≤ t328) = true := decide_eq_true c18
                  clear c18
                  by_cases c19 : t328 ≤ (l2.length : Int)
                  rotate_left
                  · rw [if_neg c19] at H
                    exact absurd H (by simp)
                  rw [if_pos c19] at H
                  have c19b0 := eq_true c19
                  have c19b1 : decide (t328 ≤ (l2.length : Int)) = true := decide_eq_true c19
                  clear c19
                  obtain ⟨y336, hy336⟩ : ∃ y_ : List Int, y_ = (l2.take (t328 : Int).toNat) := ⟨_, rfl⟩
                  replace H : (thalweglaw07_AckBack.j1 kj3 l0 l1 l2 ((strOfNums t332).toList != (strOfNums y336).toList)) = some r := by first | (rw [hy336]; with_reducible exact H) | (have H2_ := (Option.bind_some _ _).symm.trans H; rw [hy336]; with_reducible exact H2_) | (have H2_ := (Option.bind_some _ _).symm.trans H; with_reducible exact H2_) | with_reducible exact H | (rw [hy336]; exact H) | exact H
                  have Ny336 := Aside0.mk hy336
                  clear hy336
                  have H' := Aside0.mk H
                  clear H
                  obtain ⟨Ao20, co20, eo20⟩ := Kd.V_slice HO335.out
                  subst eo20
                  have hcv21 := Kd.C_string (P := Try.prog) (A := Ao20) (c := co20) Try.underlying35 Try.underlying5 Try.underlying9 (Kd.V_reads' HO335.out).2.2
                  have q22 : (t328 : Int) ≤ ((l2.length : Int) : Int) := of_decide_eq_true (by first | (with_reducible assumption) | assumption)
                  obtain ⟨i022, hi022, _, hsz22, _⟩ := info_parts info5
                  have hroom22 : l2.length ≤ c2 := (Kd.V_reads' HO_2.out).2.1
                  have hC22 : Kd.F (Kd.int .u8) _ _ A2 l2.length l2 := (Kd.V_at (base := w.heap.size) HO_2.out).2.2
                  have hcut22 := cut_to (P := Try.prog) 35 5 .i64 Try.underlying35 hi022 A2 l2.length c2 t328 (of_decide_eq_true (by first | (with_reducible assumption) | assumption)) q22 hroom22
                  have hr22 := Kd.F_take (m := (t328 : Int).toNat) hC22 (by omega)
                  have hy22 : y336.length = (t328 : Int).toNat := (by rw [Ny336.out, List.length_take]; omega)
                  rw [← Ny336.out] at hr22
                  rw [← hy22] at hcut22
                  have HO340 := Aside0.mk (show Kd.V (Kd.int .u8) 5 _ w.heap.size _ (.slice A2 y336.length c2) y336 from Kd.V_mk (by omega) hr22)
                  have HC340 := Aside0.mk (show y336.length ≤ c2 from by omega)
                  clear hr22 hC22 hroom22 hi022 hsz22
                  have KY22 := Aside0.mk hy22
                  clear hy22
                  replace q22 := eq_true q22
                  have hcv23 := Kd.C_string (P := Try.prog) (A := A2) (c := c2) Try.underlying35 Try.underlying5 Try.underlying9 (Kd.V_reads' HO340.out).2.2
                  have hcvA := fun n : Nat => Kd.C_string (P := Try.prog) (A := Ao20) (c := co20) Try.underlying35 Try.underlying5 Try.underlying9 (Kd.V_reads' (Kd.V_drewN HO335.out n)).2.2
                  have hcvB := fun n : Nat => Kd.C_string (P := Try.prog) (A := A2) (c := c2) Try.underlying35 Try.underlying5 Try.underlying9 (Kd.V_reads' (Kd.V_drewN HO340.out n)).2.2
                  go_wp2
                  repeat (go_quiet (fail); try go_wp2)
                  go_meet
                  case rel => exact ⟨_, (((strOfNums t332).toList != (strOfNums y336).toList)), (by first | rfl | (simp; done) | (simp [*]; done)), H', ⟨by have := HJ3.out; first | omega | exact Nat.le_refl _⟩, ⟨by (with_reducible repeat (first | apply Kd.V_alloc | apply Kd.V_drewN | apply Kd.V_drew)); exact Kd.V_mono HO_1.out (fun _ hk => by first | exact hk.1 | exact trivial | (simp [hk]; done) | simp_all)⟩, ⟨by (with_reducible repeat (first | apply Kd.V_alloc | apply Kd.V_drewN | apply Kd.V_drew)); exact Kd.V_mono HO_2.out (fun _ hk => by first | exact hk.1 | exact trivial | (simp [hk]; done) | simp_all)⟩, ⟨by repeat (first | (with_reducible first | exact HB.out | apply below_alloc | apply pw_below_drewN | apply below_drew1) | exact HB.out)⟩⟩
            · rw [if_neg c15] at H
              have c15b0 : (t333 == t329) = false := beq_eq_false_iff_ne.mpr c15
              have c15b1 : (t333 != t329) = true := bne_iff_ne.mpr c15
              have H' := Aside0.mk H
              clear H
              go_wp2
              repeat (go_quiet (fail); try go_wp2)
              go_meet
              case rel => exact ⟨_, (true), (by first | rfl | (simp; done) | (simp [*]; done)), H', ⟨by have := HJ3.out; first | omega | exact Nat.le_refl _⟩, ⟨by (with_reducible repeat (first | apply Kd.V_alloc | apply Kd.V_drewN | apply Kd.V_drew)); exact Kd.V_mono HO_1.out (fun _ hk => by first | exact hk.1 | exact trivial | (simp [hk]; done) | simp_all)⟩, ⟨by (with_reducible repeat (first | apply Kd.V_alloc | apply Kd.V_drewN | apply Kd.V_drew)); exact Kd.V_mono HO_2.out (fun _ hk => by first | exact hk.1 | exact trivial | (simp [hk]; done) | simp_all)⟩, ⟨by repeat (first | (with_reducible first | exact HB.out | apply below_alloc | apply pw_below_drewN | apply below_drew1) | exact HB.out)⟩⟩
          · rw [if_neg c14] at H
            have c14b0 : (t329 == 0) = false := beq_eq_false_iff_ne.mpr c14
            have c14b1 : (t329 != 0) = true := bne_iff_ne.mpr c14
            (first | rw [c14b0] | (simp only [i64_w, i32_w]; rw [c14b0]) | rw [c14b1] | skip)
            have H' := Aside0.mk H
            clear H
            go_wp2
            repeat (go_quiet (fail); try go_wp2)
            go_meet
            case rel => exact ⟨_, (false), (by first | rfl | (simp; done) | (simp [*]; done)), H', ⟨by have := HJ3.out; first | omega | exact Nat.le_refl _⟩, ⟨by (with_reducible repeat (first | apply Kd.V_alloc | apply Kd.V_drewN | apply Kd.V_drew)); exact Kd.V_mono HO_1.out (fun _ hk => by first | exact hk.1 | exact trivial | (simp [hk]; done) | simp_all)⟩, ⟨by (with_reducible repeat (first | apply Kd.V_alloc | apply Kd.V_drewN | apply Kd.V_drew)); exact Kd.V_mono HO_2.out (fun _ hk => by first | exact hk.1 | exact trivial | (simp [hk]; done) | simp_all)⟩, ⟨by repeat (first | (with_reducible first | exact HB.out | apply below_alloc | apply pw_below_drewN | apply below_drew1) | exact HB.out)⟩⟩
        case rest =>
          clear HC10
          try clear c1
          try clear c2
          try clear p2
          try clear q2
          try clear hcv2
          try clear c5
          try clear c5b0
          try clear c5b1
          try clear c6
          try clear c6b0
          try clear c6b1
          try clear c7
          try clear c14
          try clear c14b0
          try clear c14b1
          try clear c15
          try clear c15b0
          try clear c15b1
          try clear c16
          try clear c16b0
          try clear c17
          try clear c17b0
          try clear c18
          try clear c18b0
          try clear c18b1
          try clear c19
          try clear c19b0
          try clear c19b1
          try clear hcv21
          try clear q22
          try clear hcv23
          try clear p2
          try clear q22
          obtain ⟨kq, x66_9, rfl, HA, HJ9, HO_1, HO_2, HB⟩ := hcut
          cases kq with
          | zero => exact absurd HA.out (by simp [thalweglaw07_AckBack.j1])
          | succ kj9 =>
            have H := HA.out
            clear HA
            simp only [thalweglaw07_AckBack.j1] at H
            by_cases c24 : x66_9 = true
            · subst c24
              have H1 : (none) = some r := by rw [if_pos rfl] at H; exact H
              clear H
              have H := H1
              clear H1
              exact absurd H (by simp)
            · replace c24 := Bool.eq_false_iff.mpr c24
              subst c24
              have H1 : ((ack_Bytes.f l0).bind fun bt341 => ((thalwegref01_Both.f kj9 (([l1, bt341.1, l2] : List (List Int)))).bind fun t348 => ((ack_Parse.f t348 (l1.length : Int)).bind fun bt351 => (if bt341.2 = 0 then ((thalweglaw07_awake.f kj9).bind fun t356 => (if t356 = true then (if bt351.2.2 = 0 then ((thalwegref07_Same.f kj9 bt351.1 l0).bind fun t357 => (if t357 = true then (some (bt351.2.1 == (wrap64 ((l1.length : Int) + (bt341.1.length : Int))))) else (none))) else (none)) else (none))) else ((thalweglaw07_awake.f kj9).bind fun t358 => (if t358 = true then (some ((bt341.1.length : Int) == 0)) else (none))))))) = some r := by rw [if_neg (show ¬ (false = true) by decide)] at H; exact H
              clear H
              have H := H1
              clear H1
              replace H := Option.bind_eq_some_iff.mp H
              obtain ⟨⟨t341, t342⟩, A250, H⟩ := H
              replace H : ((thalwegref01_Both.f kj9 (([l1, t341, l2] : List (List Int)))).bind fun t348 => ((ack_Parse.f t348 (l1.length : Int)).bind fun bt351 => (if t342 = 0 then ((thalweglaw07_awake.f kj9).bind fun t356 => (if t356 = true then (if bt351.2.2 = 0 then ((thalwegref07_Same.f kj9 bt351.1 l0).bind fun t357 => (if t357 = true then (some (bt351.2.1 == (wrap64 ((l1.length : Int) + (t341.length : Int))))) else (none))) else (none)) else (none))) else ((thalweglaw07_awake.f kj9).bind fun t358 => (if t358 = true then (some ((t341.length : Int) == 0)) else (none)))))) = some r := H
              have A25 := Aside0.mk A250
              clear A250
              obtain ⟨y345, hy345⟩ : ∃ y_ : List (List Int), y_ = (([l1, t341, l2] : List (List Int))) := ⟨_, rfl⟩
              replace H : ((thalwegref01_Both.f kj9 y345).bind fun t348 => ((ack_Parse.f t348 (l1.length : Int)).bind fun bt351 => (if t342 = 0 then ((thalweglaw07_awake.f kj9).bind fun t356 => (if t356 = true then (if bt351.2.2 = 0 then ((thalwegref07_Same.f kj9 bt351.1 l0).bind fun t357 => (if t357 = true then (some (bt351.2.1 == (wrap64 ((l1.length : Int) + (t341.length : Int))))) else (none))) else (none)) else (none))) else ((thalweglaw07_awake.f kj9).bind fun t358 => (if t358 = true then (some ((t341.length : Int) == 0)) else (none)))))) = some r := by first | (rw [hy345]; with_reducible exact H) | (have H2_ := (Option.bind_some _ _).symm.trans H; rw [hy345]; with_reducible exact H2_) | (have H2_ := (Option.bind_some _ _).symm.trans H; with_reducible exact H2_) | with_reducible exact H | (rw [hy345]; exact H) | exact H
              have Ny345 := Aside0.mk hy345
              clear hy345
              replace H := Option.bind_eq_some_iff.mp H
              obtain ⟨t348, A260, H⟩ := H
              replace H : ((ack_Parse.f t348 (l1.length : Int)).bind fun bt351 => (if t342 = 0 then ((thalweglaw07_awake.f kj9).bind fun t356 => (if t356 = true then (if bt351.2.2 = 0 then ((thalwegref07_Same.f kj9 bt351.1 l0).bind fun t357 => (if t357 = true then (some (bt351.2.1 == (wrap64 ((l1.length : Int) + (t341.length : Int))))) else (none))) else (none)) else (none))) else ((thalweglaw07_awake.f kj9).bind fun t358 => (if t358 = true then (some ((t341.length : Int) == 0)) else (none))))) = some r := H
              have A26 := Aside0.mk A260
              clear A260
              replace H := Option.bind_eq_some_iff.mp H
              obtain ⟨⟨t351, t352, t353⟩, A270, H⟩ := H
              replace H : (if t342 = 0 then ((thalweglaw07_awake.f kj9).bind fun t356 => (if t356 = true then (if t353 = 0 then ((thalwegref07_Same.f kj9 t351 l0).bind fun t357 => (if t357 = true then (some (t352 == (wrap64 ((l1.length : Int) + (t341.length : Int))))) else (none))) else (none)) else (none))) else ((thalweglaw07_awake.f kj9).bind fun t358 => (if t358 = true then (some ((t341.length : Int) == 0)) else (none)))) = some r := H
              have A27 := Aside0.mk A270
              clear A270
              by_cases c28 : t342 = 0
              · rw [if_pos c28] at H
                have c28b0 : (t342 == 0) = true := beq_iff_eq.mpr c28
                have c28b1 : (t342 != 0) = false := bne_eq_false_iff_eq.mpr c28
                clear c28
                replace H := Option.bind_eq_some_iff.mp H
                obtain ⟨t356, A290, H⟩ := H
                replace H : (if t356 = true then (if t353 = 0 then ((thalwegref07_Same.f kj9 t351 l0).bind fun t357 => (if t357 = true then (some (t352 == (wrap64 ((l1.length : Int) + (t341.length : Int))))) else (none))) else (none)) else (none)) = some r := H
                have A29 := Aside0.mk A290
                clear A290
                by_cases c30 : t356 = true
                · subst c30
                  have H1 : (if t353 = 0 then ((thalwegref07_Same.f kj9 t351 l0).bind fun t357 => (if t357 = true then (some (t352 == (wrap64 ((l1.length : Int) + (t341.length : Int))))) else (none))) else (none)) = some r := by rw [if_pos rfl] at H; exact H
                  clear H
                  have H := H1
                  clear H1
                  by_cases c31 : t353 = 0
                  rotate_left
                  · rw [if_neg c31] at H
                    exact absurd H (by simp)
                  rw [if_pos c31] at H
                  have c31b0 : (t353 == 0) = true := beq_iff_eq.mpr c31
                  have c31b1 : (t353 != 0) = false := bne_eq_false_iff_eq.mpr c31
                  clear c31
                  replace H := Option.bind_eq_some_iff.mp H
                  obtain ⟨t357, A320, H⟩ := H
                  replace H : (if t357 = true then (some (t352 == (wrap64 ((l1.length : Int) + (t341.length : Int))))) else (none)) = some r := H
                  have A32 := Aside0.mk A320
                  clear A320
                  by_cases c33 : t357 = true
                  · subst c33
                    have H1 : (some (t352 == (wrap64 ((l1.length : Int) + (t341.length : Int))))) = some r := by rw [if_pos rfl] at H; exact H
                    clear H
                    have H := H1
                    clear H1
                    obtain rfl := Option.some.inj H
                    go_wp2_with (first | (go_at_call 13; (with_reducible refine (ack_Bytes.calls _ _ l0 t341 t342 _ ?side1 ?side2 A25.out).mono ?_); (case side1 => repeat (first | exact (Kd.C_below HR0.out HB.out) | (with_reducible refine Kd.C_alloc ?_ _) | (with_reducible refine Kd.C_drewN ?_ _) | (with_reducible refine Kd.C_drew ?_))); (case side2 => exact HC0.out); rintro e w34 ⟨v343, rfl, ho0, hb⟩; have n0_ := Aside0.mk (Kd.V_below (by (with_reducible repeat (first | apply Kd.V_alloc | apply Kd.V_drewN | apply Kd.V_drew)); exact HO_1.out) hb); have n1_ := Aside0.mk (Kd.V_below (by (with_reducible repeat (first | apply Kd.V_alloc | apply Kd.V_drewN | apply Kd.V_drew)); exact HO_2.out) hb); have n2_ := Aside0.mk (Kd.V_lower (Kd.V_mono (ok' := fun k_ => ((P1_ k_ ∨ P2_ k_) ∨ w.heap.size ≤ k_)) (Kd.N_V (base' := _) (Kd.R_N (Kd.R_bound ho0))) (fun k_ hk_ => (.inr (Nat.le_trans (below_size (by repeat (first | (with_reducible first | exact HB.out | apply below_alloc | apply pw_below_drewN | apply below_drew1) | exact HB.out))) hk_.2.1)))) (below_size (by repeat (first | (with_reducible first | exact HB.out | apply below_alloc | apply pw_below_drewN | apply below_drew1) | exact HB.out)))); have n3_ := Aside0.mk (below_step (by repeat (first | (with_reducible first | exact HB.out | apply below_alloc | apply pw_below_drewN | apply below_drew1) | exact HB.out)) hb); clear HO_1; clear HO_2; clear HB; have HO_1 := n0_; have HO_2 := n1_; have HO344 := n2_; have HB := n3_; clear n0_ n1_ n2_ n3_; (try clear hb); (try clear hb2); (try clear hk); (try clear hi); (try clear ho0); obtain ⟨Ao35, co35, eo35⟩ := Kd.V_slice HO344.out; subst eo35) | ((with_reducible refine gate_dst (N := 76) rfl ?_); (try (refine gate_guard (by rfl) ?_; dsimp only)); refine Kd.N_lit (Kd.slice 5 (Kd.int .u8)) _ 35 ?hg (N' := 76) ?hd (xs := ([l1, t341, l2] : List (List Int))) (inner := [.slice A1 l1.length c1, .slice Ao35 t341.length co35, .slice A2 l2.length c2]) (ok := (fun k_ => ((P1_ k_ ∨ P2_ k_) ∨ w.heap.size ≤ k_))) (okp := (fun k_ => ((P1_ k_ ∨ P2_ k_) ∨ w.heap.size ≤ k_))) ?hr ?hp (fun _ hk => hk) ((show ∀ k_, w34.heap.size ≤ k_ → (fun k_ => ((P1_ k_ ∨ P2_ k_) ∨ w.heap.size ≤ k_)) k_ from fun k_ hk => (.inr (Nat.le_trans (below_size (by repeat (first | (with_reducible first | exact HB.out | apply below_alloc | apply pw_below_drewN | apply below_drew1) | exact HB.out))) hk))) _ (Nat.le_refl _)) (Below.refl _ _) (Nat.le_refl _) (by simp) ?_; (case hd => rfl); (case hg => rfl); (case hr => first | (go_simp; done) | (go_simp; rfl)); (case hp => exact (Reps.one (show Kd.FK (Kd.slice 5 (Kd.int .u8)) _ _ l1 [.slice A1 l1.length c1] from (Kd.FK_slice_mk (Kd.V_reads' (Kd.V_mono (ok' := (fun k_ => ((P1_ k_ ∨ P2_ k_) ∨ w.heap.size ≤ k_))) (HO_1.out) (fun k_ hk => hk))).2.1 (Kd.V_F (Kd.V_mono (ok' := (fun k_ => ((P1_ k_ ∨ P2_ k_) ∨ w.heap.size ≤ k_))) (by (with_reducible repeat (first | apply Kd.V_alloc | apply Kd.V_drewN | apply Kd.V_drew)); exact HO_1.out) (fun k_ hk => by exact hk))))) (Reps.one (show Kd.FK (Kd.slice 5 (Kd.int .u8)) _ _ t341 [.slice Ao35 t341.length co35] from (Kd.FK_slice_mk (Kd.V_reads' (Kd.V_mono (ok' := (fun k_ => ((P1_ k_ ∨ P2_ k_) ∨ w.heap.size ≤ k_))) (HO344.out) (fun k_ hk => hk))).2.1 (Kd.V_F (Kd.V_mono (ok' := (fun k_ => ((P1_ k_ ∨ P2_ k_) ∨ w.heap.size ≤ k_))) (by (with_reducible repeat (first | apply Kd.V_alloc | apply Kd.V_drewN | apply Kd.V_drew)); exact HO344.out) (fun k_ hk => by exact hk))))) (Reps.one (show Kd.FK (Kd.slice 5 (Kd.int .u8)) _ _ l2 [.slice A2 l2.length c2] from (Kd.FK_slice_mk (Kd.V_reads' (Kd.V_mono (ok' := (fun k_ => ((P1_ k_ ∨ P2_ k_) ∨ w.heap.size ≤ k_))) (HO_2.out) (fun k_ hk => hk))).2.1 (Kd.V_F (Kd.V_mono (ok' := (fun k_ => ((P1_ k_ ∨ P2_ k_) ∨ w.heap.size ≤ k_))) (by (with_reducible repeat (first | apply Kd.V_alloc | apply Kd.V_drewN | apply Kd.V_drew)); exact HO_2.out) (fun k_ hk => by exact hk))))) (Reps.none _ _))))); intro v346 w36 ho37 hb hg_ hnew_; clear hg_ hnew_; (first | rw [← Ny345.out] at ho37 | (simp only [Int.reduceToNat] at ho37; rw [← Ny345.out] at ho37)); have n0_ := Aside0.mk (Kd.V_elder' (by (with_reducible repeat (first | apply Kd.V_alloc | apply Kd.V_drewN | apply Kd.V_drew)); exact HO_1.out) (Kd.N_base ho37) hb); have n1_ := Aside0.mk (Kd.V_elder' (by (with_reducible repeat (first | apply Kd.V_alloc | apply Kd.V_drewN | apply Kd.V_drew)); exact HO_2.out) (Kd.N_base ho37) hb); have n2_ := Aside0.mk (Kd.V_elder' (by (with_reducible repeat (first | apply Kd.V_alloc | apply Kd.V_drewN | apply Kd.V_drew)); exact HO344.out) (Kd.N_base ho37) hb); have n3_ := Aside0.mk (Kd.N_lower ho37 (below_size (by repeat (first | (with_reducible first | exact HB.out | apply below_alloc | apply pw_below_drewN | apply below_drew1) | exact HB.out)))); have n4_ := Aside0.mk (below_step (by repeat (first | (with_reducible first | exact HB.out | apply below_alloc | apply pw_below_drewN | apply below_drew1) | exact HB.out)) hb); clear HO_1; clear HO_2; clear HO344; clear HB; have HO_1 := n0_; have HO_2 := n1_; have HO344 := n2_; have HO347 := n3_; have HB := n4_; clear n0_ n1_ n2_ n3_ n4_; clear hb ho37; obtain ⟨Ao38, co38, eo38⟩ := Kd.N_slice HO347.out; subst eo38) | (go_at_call 23; (with_reducible refine (thalwegref01_Both.calls kj9 _ _ y345 t348 _ ?side1 ?side2 A26.out).mono ?_); (case side1 => repeat (first | exact (Kd.N_reads' HO347.out).2.2 | (with_reducible refine Kd.C_alloc ?_ _) | (with_reducible refine Kd.C_drewN ?_ _) | (with_reducible refine Kd.C_drew ?_))); (case side2 => exact (Kd.N_reads' HO347.out).2.1); rintro e w39 ⟨v349, rfl, ho0, hb⟩; have n0_ := Aside0.mk (Kd.V_elder' (by (with_reducible repeat (first | apply Kd.V_alloc | apply Kd.V_drewN | apply Kd.V_drew)); exact HO_1.out) (Kd.R_base ho0) hb); have n1_ := Aside0.mk (Kd.V_elder' (by (with_reducible repeat (first | apply Kd.V_alloc | apply Kd.V_drewN | apply Kd.V_drew)); exact HO_2.out) (Kd.R_base ho0) hb); have n2_ := Aside0.mk (Kd.V_elder' (by (with_reducible repeat (first | apply Kd.V_alloc | apply Kd.V_drewN | apply Kd.V_drew)); exact HO344.out) (Kd.R_base ho0) hb); have n3_ := Aside0.mk (Kd.N_elder' (by (with_reducible repeat (first | apply Kd.N_alloc | apply Kd.N_drewN | apply Kd.N_drew)); exact HO347.out) (Kd.R_base ho0) hb); have n4_ := Aside0.mk (Kd.R_lower (Kd.R_newM (M := fun k_ => (w.heap.size ≤ k_)) ho0 (below_size (by repeat (first | (with_reducible first | exact HB.out | apply below_alloc | apply pw_below_drewN | apply below_drew1) | exact HB.out))) (fun k_ h_ => h_)) (below_size (by repeat (first | (with_reducible first | exact HB.out | apply below_alloc | apply pw_below_drewN | apply below_drew1) | exact HB.out)))); have n5_ := Aside0.mk (below_step (by repeat (first | (with_reducible first | exact HB.out | apply below_alloc | apply pw_below_drewN | apply below_drew1) | exact HB.out)) hb); clear HO_1; clear HO_2; clear HO344; clear HO347; clear HB; have HO_1 := n0_; have HO_2 := n1_; have HO344 := n2_; have HO347 := n3_; have HO350 := n4_; have HB := n5_; clear n0_ n1_ n2_ n3_ n4_ n5_; (try clear hb); (try clear hb2); (try clear hk); (try clear hi); (try clear ho0); obtain ⟨Ao40, co40, eo40⟩ := Kd.R_slice HO350.out; subst eo40) | (go_at_call 20; (with_reducible refine (ack_Parse.calls _ _ t348 (l1.length : Int) t351 t352 t353 _ ?side1 ?side2 A27.out).mono ?_); (case side1 => repeat (first | exact (Kd.R_reads' HO350.out).2.2 | (with_reducible refine Kd.C_alloc ?_ _) | (with_reducible refine Kd.C_drewN ?_ _) | (with_reducible refine Kd.C_drew ?_))); (case side2 => exact (Kd.R_reads' HO350.out).2.1); rintro e w41 ⟨v354, rfl, ho0, hb⟩; have n0_ := Aside0.mk (Kd.V_elder' (by (with_reducible repeat (first | apply Kd.V_alloc | apply Kd.V_drewN | apply Kd.V_drew)); exact HO_1.out) (Kd.R_base ho0) hb); have n1_ := Aside0.mk (Kd.V_elder' (by (with_reducible repeat (first | apply Kd.V_alloc | apply Kd.V_drewN | apply Kd.V_drew)); exact HO_2.out) (Kd.R_base ho0) hb); have n2_ := Aside0.mk (Kd.V_elder' (by (with_reducible repeat (first | apply Kd.V_alloc | apply Kd.V_drewN | apply Kd.V_drew)); exact HO344.out) (Kd.R_base ho0) hb); have n3_ := Aside0.mk (Kd.N_elder' (by (with_reducible repeat (first | apply Kd.N_alloc | apply Kd.N_drewN | apply Kd.N_drew)); exact HO347.out) (Kd.R_base ho0) hb); have n4_ := Aside0.mk (Kd.R_below (by (with_reducible repeat (first | apply Kd.R_alloc | apply Kd.R_drewN | apply Kd.R_drew)); exact HO350.out) hb); have n5_ := Aside0.mk (Kd.R_lower (Kd.R_newM (M := fun k_ => (w.heap.size ≤ k_)) ho0 (below_size (by repeat (first | (with_reducible first | exact HB.out | apply below_alloc | apply pw_below_drewN | apply below_drew1) | exact HB.out))) (fun k_ h_ => h_)) (below_size (by repeat (first | (with_reducible first | exact HB.out | apply below_alloc | apply pw_below_drewN | apply below_drew1) | exact HB.out)))); have n6_ := Aside0.mk (below_step (by repeat (first | (with_reducible first | exact HB.out | apply below_alloc | apply pw_below_drewN | apply below_drew1) | exact HB.out)) hb); clear HO_1; clear HO_2; clear HO344; clear HO347; clear HO350; clear HB; have HO_1 := n0_; have HO_2 := n1_; have HO344 := n2_; have HO347 := n3_; have HO350 := n4_; have HO355 := n5_; have HB := n6_; clear n0_ n1_ n2_ n3_ n4_ n5_ n6_; (try clear hb); (try clear hb2); (try clear hk); (try clear hi); (try clear ho0)) | (go_at_call 9; (with_reducible refine (thalweglaw07_awake.calls kj9  true _ A29.out).mono ?_); rintro e w42 ⟨rfl, hb⟩; have n0_ := Aside0.mk (Kd.V_below (by (with_reducible repeat (first | apply Kd.V_alloc | apply Kd.V_drewN | apply Kd.V_drew)); exact HO_1.out) hb); have n1_ := Aside0.mk (Kd.V_below (by (with_reducible repeat (first | apply Kd.V_alloc | apply Kd.V_drewN | apply Kd.V_drew)); exact HO_2.out) hb); have n2_ := Aside0.mk (Kd.V_below (by (with_reducible repeat (first | apply Kd.V_alloc | apply Kd.V_drewN | apply Kd.V_drew)); exact HO344.out) hb); have n3_ := Aside0.mk (Kd.N_below (by (with_reducible repeat (first | apply Kd.N_alloc | apply Kd.N_drewN | apply Kd.N_drew)); exact HO347.out) hb); have n4_ := Aside0.mk (Kd.R_below (by (with_reducible repeat (first | apply Kd.R_alloc | apply Kd.R_drewN | apply Kd.R_drew)); exact HO350.out) hb); have n5_ := Aside0.mk (Kd.R_below (by (with_reducible repeat (first | apply Kd.R_alloc | apply Kd.R_drewN | apply Kd.R_drew)); exact HO355.out) hb); have n6_ := Aside0.mk (below_step (by repeat (first | (with_reducible first | exact HB.out | apply below_alloc | apply pw_below_drewN | apply below_drew1) | exact HB.out)) hb); clear HO_1; clear HO_2; clear HO344; clear HO347; clear HO350; clear HO355; clear HB; have HO_1 := n0_; have HO_2 := n1_; have HO344 := n2_; have HO347 := n3_; have HO350 := n4_; have HO355 := n5_; have HB := n6_; clear n0_ n1_ n2_ n3_ n4_ n5_ n6_; (try clear hb); (try clear hb2); (try clear hk); (try clear hi); obtain ⟨Ao43, co43, eo43⟩ := Kd.R_slice HO355.out; subst eo43) | (go_at_call 22; (with_reducible refine (thalwegref07_Same.calls kj9 _ _ t351 _ _ l0 true _ ?side1 ?side2 ?side3 ?side4 A32.out).mono ?_); (case side1 => repeat (first | exact (Kd.R_reads' HO355.out).2.2 | (with_reducible refine Kd.C_alloc ?_ _) | (with_reducible refine Kd.C_drewN ?_ _) | (with_reducible refine Kd.C_drew ?_))); (case side2 => exact (Kd.R_reads' HO355.out).2.1); (case side3 => repeat (first | exact (Kd.C_below HR0.out HB.out) | (with_reducible refine Kd.C_alloc ?_ _) | (with_reducible refine Kd.C_drewN ?_ _) | (with_reducible refine Kd.C_drew ?_))); (case side4 => exact HC0.out); rintro e w' ⟨rfl, ⟨nd, rfl⟩⟩; (try first | exact ⟨rfl, _, World.drewN_drewN _ _ _⟩ | exact ⟨rfl, _, Eq.trans (World.drewN_drewN _ _ _) (congrArg (World.drewN _) (Nat.add_assoc _ _ _))⟩)))
                    repeat (go_quiet (first | (go_at_call 13; (with_reducible refine (ack_Bytes.calls _ _ l0 t341 t342 _ ?side1 ?side2 A25.out).mono ?_); (case side1 => repeat (first | exact (Kd.C_below HR0.out HB.out) | (with_reducible refine Kd.C_alloc ?_ _) | (with_reducible refine Kd.C_drewN ?_ _) | (with_reducible refine Kd.C_drew ?_))); (case side2 => exact HC0.out); rintro e w34 ⟨v343, rfl, ho0, hb⟩; have n0_ := Aside0.mk (Kd.V_below (by (with_reducible repeat (first | apply Kd.V_alloc | apply Kd.V_drewN | apply Kd.V_drew)); exact HO_1.out) hb); have n1_ := Aside0.mk (Kd.V_below (by (with_reducible repeat (first | apply Kd.V_alloc | apply Kd.V_drewN | apply Kd.V_drew)); exact HO_2.out) hb); have n2_ := Aside0.mk (Kd.V_lower (Kd.V_mono (ok' := fun k_ => ((P1_ k_ ∨ P2_ k_) ∨ w.heap.size ≤ k_)) (Kd.N_V (base' := _) (Kd.R_N (Kd.R_bound ho0))) (fun k_ hk_ => (.inr (Nat.le_trans (below_size (by repeat (first | (with_reducible first | exact HB.out | apply below_alloc | apply pw_below_drewN | apply below_drew1) | exact HB.out))) hk_.2.1)))) (below_size (by repeat (first | (with_reducible first | exact HB.out | apply below_alloc | apply pw_below_drewN | apply below_drew1) | exact HB.out)))); have n3_ := Aside0.mk (below_step (by repeat (first | (with_reducible first | exact HB.out | apply below_alloc | apply pw_below_drewN | apply below_drew1) | exact HB.out)) hb); clear HO_1; clear HO_2; clear HB; have HO_1 := n0_; have HO_2 := n1_; have HO344 := n2_; have HB := n3_; clear n0_ n1_ n2_ n3_; (try clear hb); (try clear hb2); (try clear hk); (try clear hi); (try clear ho0); obtain ⟨Ao35, co35, eo35⟩ := Kd.V_slice HO344.out; subst eo35) | ((with_reducible refine gate_dst (N := 76) rfl ?_); (try (refine gate_guard (by rfl) ?_; dsimp only)); refine Kd.N_lit (Kd.slice 5 (Kd.int .u8)) _ 35 ?hg (N' := 76) ?hd (xs := ([l1, t341, l2] : List (List Int))) (inner := [.slice A1 l1.length c1, .slice Ao35 t341.length co35, .slice A2 l2.length c2]) (ok := (fun k_ => ((P1_ k_ ∨ P2_ k_) ∨ w.heap.size ≤ k_))) (okp := (fun k_ => ((P1_ k_ ∨ P2_ k_) ∨ w.heap.size ≤ k_))) ?hr ?hp (fun _ hk => hk) ((show ∀ k_, w34.heap.size ≤ k_ → (fun k_ => ((P1_ k_ ∨ P2_ k_) ∨ w.heap.size ≤ k_)) k_ from fun k_ hk => (.inr (Nat.le_trans (below_size (by repeat (first | (with_reducible first | exact HB.out | apply below_alloc | apply pw_below_drewN | apply below_drew1) | exact HB.out))) hk))) _ (Nat.le_refl _)) (Below.refl _ _) (Nat.le_refl _) (by simp) ?_; (case hd => rfl); (case hg => rfl); (case hr => first | (go_simp; done) | (go_simp; rfl)); (case hp => exact (Reps.one (show Kd.FK (Kd.slice 5 (Kd.int .u8)) _ _ l1 [.slice A1 l1.length c1] from (Kd.FK_slice_mk (Kd.V_reads' (Kd.V_mono (ok' := (fun k_ => ((P1_ k_ ∨ P2_ k_) ∨ w.heap.size ≤ k_))) (HO_1.out) (fun k_ hk => hk))).2.1 (Kd.V_F (Kd.V_mono (ok' := (fun k_ => ((P1_ k_ ∨ P2_ k_) ∨ w.heap.size ≤ k_))) (by (with_reducible repeat (first | apply Kd.V_alloc | apply Kd.V_drewN | apply Kd.V_drew)); exact HO_1.out) (fun k_ hk => by exact hk))))) (Reps.one (show Kd.FK (Kd.slice 5 (Kd.int .u8)) _ _ t341 [.slice Ao35 t341.length co35] from (Kd.FK_slice_mk (Kd.V_reads' (Kd.V_mono (ok' := (fun k_ => ((P1_ k_ ∨ P2_ k_) ∨ w.heap.size ≤ k_))) (HO344.out) (fun k_ hk => hk))).2.1 (Kd.V_F (Kd.V_mono (ok' := (fun k_ => ((P1_ k_ ∨ P2_ k_) ∨ w.heap.size ≤ k_))) (by (with_reducible repeat (first | apply Kd.V_alloc | apply Kd.V_drewN | apply Kd.V_drew)); exact HO344.out) (fun k_ hk => by exact hk))))) (Reps.one (show Kd.FK (Kd.slice 5 (Kd.int .u8)) _ _ l2 [.slice A2 l2.length c2] from (Kd.FK_slice_mk (Kd.V_reads' (Kd.V_mono (ok' := (fun k_ => ((P1_ k_ ∨ P2_ k_) ∨ w.heap.size ≤ k_))) (HO_2.out) (fun k_ hk => hk))).2.1 (Kd.V_F (Kd.V_mono (ok' := (fun k_ => ((P1_ k_ ∨ P2_ k_) ∨ w.heap.size ≤ k_))) (by (with_reducible repeat (first | apply Kd.V_alloc | apply Kd.V_drewN | apply Kd.V_drew)); exact HO_2.out) (fun k_ hk => by exact hk))))) (Reps.none _ _))))); intro v346 w36 ho37 hb hg_ hnew_; clear hg_ hnew_; (first | rw [← Ny345.out] at ho37 | (simp only [Int.reduceToNat] at ho37; rw [← Ny345.out] at ho37)); have n0_ := Aside0.mk (Kd.V_elder' (by (with_reducible repeat (first | apply Kd.V_alloc | apply Kd.V_drewN | apply Kd.V_drew)); exact HO_1.out) (Kd.N_base ho37) hb); have n1_ := Aside0.mk (Kd.V_elder' (by (with_reducible repeat (first | apply Kd.V_alloc | apply Kd.V_drewN | apply Kd.V_drew)); exact HO_2.out) (Kd.N_base ho37) hb); have n2_ := Aside0.mk (Kd.V_elder' (by (with_reducible repeat (first | apply Kd.V_alloc | apply Kd.V_drewN | apply Kd.V_drew)); exact HO344.out) (Kd.N_base ho37) hb); have n3_ := Aside0.mk (Kd.N_lower ho37 (below_size (by repeat (first | (with_reducible first | exact HB.out | apply below_alloc | apply pw_below_drewN | apply below_drew1) | exact HB.out)))); have n4_ := Aside0.mk (below_step (by repeat (first | (with_reducible first | exact HB.out | apply below_alloc | apply pw_below_drewN | apply below_drew1) | exact HB.out)) hb); clear HO_1; clear HO_2; clear HO344; clear HB; have HO_1 := n0_; have HO_2 := n1_; have HO344 := n2_; have HO347 := n3_; have HB := n4_; clear n0_ n1_ n2_ n3_ n4_; clear hb ho37; obtain ⟨Ao38, co38, eo38⟩ := Kd.N_slice HO347.out; subst eo38) | (go_at_call 23; (with_reducible refine (thalwegref01_Both.calls kj9 _ _ y345 t348 _ ?side1 ?side2 A26.out).mono ?_); (case side1 => repeat (first | exact (Kd.N_reads' HO347.out).2.2 | (with_reducible refine Kd.C_alloc ?_ _) | (with_reducible refine Kd.C_drewN ?_ _) | (with_reducible refine Kd.C_drew ?_))); (case side2 => exact (Kd.N_reads' HO347.out).2.1); rintro e w39 ⟨v349, rfl, ho0, hb⟩; have n0_ := Aside0.mk (Kd.V_elder' (by (with_reducible repeat (first | apply Kd.V_alloc | apply Kd.V_drewN | apply Kd.V_drew)); exact HO_1.out) (Kd.R_base ho0) hb); have n1_ := Aside0.mk (Kd.V_elder' (by (with_reducible repeat (first | apply Kd.V_alloc | apply Kd.V_drewN | apply Kd.V_drew)); exact HO_2.out) (Kd.R_base ho0) hb); have n2_ := Aside0.mk (Kd.V_elder' (by (with_reducible repeat (first | apply Kd.V_alloc | apply Kd.V_drewN | apply Kd.V_drew)); exact HO344.out) (Kd.R_base ho0) hb); have n3_ := Aside0.mk (Kd.N_elder' (by (with_reducible repeat (first | apply Kd.N_alloc | apply Kd.N_drewN | apply Kd.N_drew)); exact HO347.out) (Kd.R_base ho0) hb); have n4_ := Aside0.mk (Kd.R_lower (Kd.R_newM (M := fun k_ => (w.heap.size ≤ k_)) ho0 (below_size (by repeat (first | (with_reducible first | exact HB.out | apply below_alloc | apply pw_below_drewN | apply below_drew1) | exact HB.out))) (fun k_ h_ => h_)) (below_size (by repeat (first | (with_reducible first | exact HB.out | apply below_alloc | apply pw_below_drewN | apply below_drew1) | exact HB.out)))); have n5_ := Aside0.mk (below_step (by repeat (first | (with_reducible first | exact HB.out | apply below_alloc | apply pw_below_drewN | apply below_drew1) | exact HB.out)) hb); clear HO_1; clear HO_2; clear HO344; clear HO347; clear HB; have HO_1 := n0_; have HO_2 := n1_; have HO344 := n2_; have HO347 := n3_; have HO350 := n4_; have HB := n5_; clear n0_ n1_ n2_ n3_ n4_ n5_; (try clear hb); (try clear hb2); (try clear hk); (try clear hi); (try clear ho0); obtain ⟨Ao40, co40, eo40⟩ := Kd.R_slice HO350.out; subst eo40) | (go_at_call 20; (with_reducible refine (ack_Parse.calls _ _ t348 (l1.length : Int) t351 t352 t353 _ ?side1 ?side2 A27.out).mono ?_); (case side1 => repeat (first | exact (Kd.R_reads' HO350.out).2.2 | (with_reducible refine Kd.C_alloc ?_ _) | (with_reducible refine Kd.C_drewN ?_ _) | (with_reducible refine Kd.C_drew ?_))); (case side2 => exact (Kd.R_reads' HO350.out).2.1); rintro e w41 ⟨v354, rfl, ho0, hb⟩; have n0_ := Aside0.mk (Kd.V_elder' (by (with_reducible repeat (first | apply Kd.V_alloc | apply Kd.V_drewN | apply Kd.V_drew)); exact HO_1.out) (Kd.R_base ho0) hb); have n1_ := Aside0.mk (Kd.V_elder' (by (with_reducible repeat (first | apply Kd.V_alloc | apply Kd.V_drewN | apply Kd.V_drew)); exact HO_2.out) (Kd.R_base ho0) hb); have n2_ := Aside0.mk (Kd.V_elder' (by (with_reducible repeat (first | apply Kd.V_alloc | apply Kd.V_drewN | apply Kd.V_drew)); exact HO344.out) (Kd.R_base ho0) hb); have n3_ := Aside0.mk (Kd.N_elder' (by (with_reducible repeat (first | apply Kd.N_alloc | apply Kd.N_drewN | apply Kd.N_drew)); exact HO347.out) (Kd.R_base ho0) hb); have n4_ := Aside0.mk (Kd.R_below (by (with_reducible repeat (first | apply Kd.R_alloc | apply Kd.R_drewN | apply Kd.R_drew)); exact HO350.out) hb); have n5_ := Aside0.mk (Kd.R_lower (Kd.R_newM (M := fun k_ => (w.heap.size ≤ k_)) ho0 (below_size (by repeat (first | (with_reducible first | exact HB.out | apply below_alloc | apply pw_below_drewN | apply below_drew1) | exact HB.out))) (fun k_ h_ => h_)) (below_size (by repeat (first | (with_reducible first | exact HB.out | apply below_alloc | apply pw_below_drewN | apply below_drew1) | exact HB.out)))); have n6_ := Aside0.mk (below_step (by repeat (first | (with_reducible first | exact HB.out | apply below_alloc | apply pw_below_drewN | apply below_drew1) | exact HB.out)) hb); clear HO_1; clear HO_2; clear HO344; clear HO347; clear HO350; clear HB; have HO_1 := n0_; have HO_2 := n1_; have HO344 := n2_; have HO347 := n3_; have HO350 := n4_; have HO355 := n5_; have HB := n6_; clear n0_ n1_ n2_ n3_ n4_ n5_ n6_; (try clear hb); (try clear hb2); (try clear hk); (try clear hi); (try clear ho0)) | (go_at_call 9; (with_reducible refine (thalweglaw07_awake.calls kj9  true _ A29.out).mono ?_); rintro e w42 ⟨rfl, hb⟩; have n0_ := Aside0.mk (Kd.V_below (by (with_reducible repeat (first | apply Kd.V_alloc | apply Kd.V_drewN | apply Kd.V_drew)); exact HO_1.out) hb); have n1_ := Aside0.mk (Kd.V_below (by (with_reducible repeat (first | apply Kd.V_alloc | apply Kd.V_drewN | apply Kd.V_drew)); exact HO_2.out) hb); have n2_ := Aside0.mk (Kd.V_below (by (with_reducible repeat (first | apply Kd.V_alloc | apply Kd.V_drewN | apply Kd.V_drew)); exact HO344.out) hb); have n3_ := Aside0.mk (Kd.N_below (by (with_reducible repeat (first | apply Kd.N_alloc | apply Kd.N_drewN | apply Kd.N_drew)); exact HO347.out) hb); have n4_ := Aside0.mk (Kd.R_below (by (with_reducible repeat (first | apply Kd.R_alloc | apply Kd.R_drewN | apply Kd.R_drew)); exact HO350.out) hb); have n5_ := Aside0.mk (Kd.R_below (by (with_reducible repeat (first | apply Kd.R_alloc | apply Kd.R_drewN | apply Kd.R_drew)); exact HO355.out) hb); have n6_ := Aside0.mk (below_step (by repeat (first | (with_reducible first | exact HB.out | apply below_alloc | apply pw_below_drewN | apply below_drew1) | exact HB.out)) hb); clear HO_1; clear HO_2; clear HO344; clear HO347; clear HO350; clear HO355; clear HB; have HO_1 := n0_; have HO_2 := n1_; have HO344 := n2_; have HO347 := n3_; have HO350 := n4_; have HO355 := n5_; have HB := n6_; clear n0_ n1_ n2_ n3_ n4_ n5_ n6_; (try clear hb); (try clear hb2); (try clear hk); (try clear hi); obtain ⟨Ao43, co43, eo43⟩ := Kd.R_slice HO355.out; subst eo43) | (go_at_call 22; (with_reducible refine (thalwegref07_Same.calls kj9 _ _ t351 _ _ l0 true _ ?side1 ?side2 ?side3 ?side4 A32.out).mono ?_); (case side1 => repeat (first | exact (Kd.R_reads' HO355.out).2.2 | (with_reducible refine Kd.C_alloc ?_ _) | (with_reducible refine Kd.C_drewN ?_ _) | (with_reducible refine Kd.C_drew ?_))); (case side2 => exact (Kd.R_reads' HO355.out).2.1); (case side3 => repeat (first | exact (Kd.C_below HR0.out HB.out) | (with_reducible refine Kd.C_alloc ?_ _) | (with_reducible refine Kd.C_drewN ?_ _) | (with_reducible refine Kd.C_drew ?_))); (case side4 => exact HC0.out); rintro e w' ⟨rfl, ⟨nd, rfl⟩⟩; (try first | exact ⟨rfl, _, World.drewN_drewN _ _ _⟩ | exact ⟨rfl, _, Eq.trans (World.drewN_drewN _ _ _) (congrArg (World.drewN _) (Nat.add_assoc _ _ _))⟩))); try go_wp2_with (first | (go_at_call 13; (with_reducible refine (ack_Bytes.calls _ _ l0 t341 t342 _ ?side1 ?side2 A25.out).mono ?_); (case side1 => repeat (first | exact (Kd.C_below HR0.out HB.out) | (with_reducible refine Kd.C_alloc ?_ _) | (with_reducible refine Kd.C_drewN ?_ _) | (with_reducible refine Kd.C_drew ?_))); (case side2 => exact HC0.out); rintro e w34 ⟨v343, rfl, ho0, hb⟩; have n0_ := Aside0.mk (Kd.V_below (by (with_reducible repeat (first | apply Kd.V_alloc | apply Kd.V_drewN | apply Kd.V_drew)); exact HO_1.out) hb); have n1_ := Aside0.mk (Kd.V_below (by (with_reducible repeat (first | apply Kd.V_alloc | apply Kd.V_drewN | apply Kd.V_drew)); exact HO_2.out) hb); have n2_ := Aside0.mk (Kd.V_lower (Kd.V_mono (ok' := fun k_ => ((P1_ k_ ∨ P2_ k_) ∨ w.heap.size ≤ k_)) (Kd.N_V (base' := _) (Kd.R_N (Kd.R_bound ho0))) (fun k_ hk_ => (.inr (Nat.le_trans (below_size (by repeat (first | (with_reducible first | exact HB.out | apply below_alloc | apply pw_below_drewN | apply below_drew1) | exact HB.out))) hk_.2.1)))) (below_size (by repeat (first | (with_reducible first | exact HB.out | apply below_alloc | apply pw_below_drewN | apply below_drew1) | exact HB.out)))); have n3_ := Aside0.mk (below_step (by repeat (first | (with_reducible first | exact HB.out | apply below_alloc | apply pw_below_drewN | apply below_drew1) | exact HB.out)) hb); clear HO_1; clear HO_2; clear HB; have HO_1 := n0_; have HO_2 := n1_; have HO344 := n2_; have HB := n3_; clear n0_ n1_ n2_ n3_; (try clear hb); (try clear hb2); (try clear hk); (try clear hi); (try clear ho0); obtain ⟨Ao35, co35, eo35⟩ := Kd.V_slice HO344.out; subst eo35) | ((with_reducible refine gate_dst (N := 76) rfl ?_); (try (refine gate_guard (by rfl) ?_; dsimp only)); refine Kd.N_lit (Kd.slice 5 (Kd.int .u8)) _ 35 ?hg (N' := 76) ?hd (xs := ([l1, t341, l2] : List (List Int))) (inner := [.slice A1 l1.length c1, .slice Ao35 t341.length co35, .slice A2 l2.length c2]) (ok := (fun k_ => ((P1_ k_ ∨ P2_ k_) ∨ w.heap.size ≤ k_))) (okp := (fun k_ => ((P1_ k_ ∨ P2_ k_) ∨ w.heap.size ≤ k_))) ?hr ?hp (fun _ hk => hk) ((show ∀ k_, w34.heap.size ≤ k_ → (fun k_ => ((P1_ k_ ∨ P2_ k_) ∨ w.heap.size ≤ k_)) k_ from fun k_ hk => (.inr (Nat.le_trans (below_size (by repeat (first | (with_reducible first | exact HB.out | apply below_alloc | apply pw_below_drewN | apply below_drew1) | exact HB.out))) hk))) _ (Nat.le_refl _)) (Below.refl _ _) (Nat.le_refl _) (by simp) ?_; (case hd => rfl); (case hg => rfl); (case hr => first | (go_simp; done) | (go_simp; rfl)); (case hp => exact (Reps.one (show Kd.FK (Kd.slice 5 (Kd.int .u8)) _ _ l1 [.slice A1 l1.length c1] from (Kd.FK_slice_mk (Kd.V_reads' (Kd.V_mono (ok' := (fun k_ => ((P1_ k_ ∨ P2_ k_) ∨ w.heap.size ≤ k_))) (HO_1.out) (fun k_ hk => hk))).2.1 (Kd.V_F (Kd.V_mono (ok' := (fun k_ => ((P1_ k_ ∨ P2_ k_) ∨ w.heap.size ≤ k_))) (by (with_reducible repeat (first | apply Kd.V_alloc | apply Kd.V_drewN | apply Kd.V_drew)); exact HO_1.out) (fun k_ hk => by exact hk))))) (Reps.one (show Kd.FK (Kd.slice 5 (Kd.int .u8)) _ _ t341 [.slice Ao35 t341.length co35] from (Kd.FK_slice_mk (Kd.V_reads' (Kd.V_mono (ok' := (fun k_ => ((P1_ k_ ∨ P2_ k_) ∨ w.heap.size ≤ k_))) (HO344.out) (fun k_ hk => hk))).2.1 (Kd.V_F (Kd.V_mono (ok' := (fun k_ => ((P1_ k_ ∨ P2_ k_) ∨ w.heap.size ≤ k_))) (by (with_reducible repeat (first | apply Kd.V_alloc | apply Kd.V_drewN | apply Kd.V_drew)); exact HO344.out) (fun k_ hk => by exact hk))))) (Reps.one (show Kd.FK (Kd.slice 5 (Kd.int .u8)) _ _ l2 [.slice A2 l2.length c2] from (Kd.FK_slice_mk (Kd.V_reads' (Kd.V_mono (ok' := (fun k_ => ((P1_ k_ ∨ P2_ k_) ∨ w.heap.size ≤ k_))) (HO_2.out) (fun k_ hk => hk))).2.1 (Kd.V_F (Kd.V_mono (ok' := (fun k_ => ((P1_ k_ ∨ P2_ k_) ∨ w.heap.size ≤ k_))) (by (with_reducible repeat (first | apply Kd.V_alloc | apply Kd.V_drewN | apply Kd.V_drew)); exact HO_2.out) (fun k_ hk => by exact hk))))) (Reps.none _ _))))); intro v346 w36 ho37 hb hg_ hnew_; clear hg_ hnew_; (first | rw [← Ny345.out] at ho37 | (simp only [Int.reduceToNat] at ho37; rw [← Ny345.out] at ho37)); have n0_ := Aside0.mk (Kd.V_elder' (by (with_reducible repeat (first | apply Kd.V_alloc | apply Kd.V_drewN | apply Kd.V_drew)); exact HO_1.out) (Kd.N_base ho37) hb); have n1_ := Aside0.mk (Kd.V_elder' (by (with_reducible repeat (first | apply Kd.V_alloc | apply Kd.V_drewN | apply Kd.V_drew)); exact HO_2.out) (Kd.N_base ho37) hb); have n2_ := Aside0.mk (Kd.V_elder' (by (with_reducible repeat (first | apply Kd.V_alloc | apply Kd.V_drewN | apply Kd.V_drew)); exact HO344.out) (Kd.N_base ho37) hb); have n3_ := Aside0.mk (Kd.N_lower ho37 (below_size (by repeat (first | (with_reducible first | exact HB.out | apply below_alloc | apply pw_below_drewN | apply below_drew1) | exact HB.out)))); have n4_ := Aside0.mk (below_step (by repeat (first | (with_reducible first | exact HB.out | apply below_alloc | apply pw_below_drewN | apply below_drew1) | exact HB.out)) hb); clear HO_1; clear HO_2; clear HO344; clear HB; have HO_1 := n0_; have HO_2 := n1_; have HO344 := n2_; have HO347 := n3_; have HB := n4_; clear n0_ n1_ n2_ n3_ n4_; clear hb ho37; obtain ⟨Ao38, co38, eo38⟩ := Kd.N_slice HO347.out; subst eo38) | (go_at_call 23; (with_reducible refine (thalwegref01_Both.calls kj9 _ _ y345 t348 _ ?side1 ?side2 A26.out).mono ?_); (case side1 => repeat (first | exact (Kd.N_reads' HO347.out).2.2 | (with_reducible refine Kd.C_alloc ?_ _) | (with_reducible refine Kd.C_drewN ?_ _) | (with_reducible refine Kd.C_drew ?_))); (case side2 => exact (Kd.N_reads' HO347.out).2.1); rintro e w39 ⟨v349, rfl, ho0, hb⟩; have n0_ := Aside0.mk (Kd.V_elder' (by (with_reducible repeat (first | apply Kd.V_alloc | apply Kd.V_drewN | apply Kd.V_drew)); exact HO_1.out) (Kd.R_base ho0) hb); have n1_ := Aside0.mk (Kd.V_elder' (by (with_reducible repeat (first | apply Kd.V_alloc | apply Kd.V_drewN | apply Kd.V_drew)); exact HO_2.out) (Kd.R_base ho0) hb); have n2_ := Aside0.mk (Kd.V_elder' (by (with_reducible repeat (first | apply Kd.V_alloc | apply Kd.V_drewN | apply Kd.V_drew)); exact HO344.out) (Kd.R_base ho0) hb); have n3_ := Aside0.mk (Kd.N_elder' (by (with_reducible repeat (first | apply Kd.N_alloc | apply Kd.N_drewN | apply Kd.N_drew)); exact HO347.out) (Kd.R_base ho0) hb); have n4_ := Aside0.mk (Kd.R_lower (Kd.R_newM (M := fun k_ => (w.heap.size ≤ k_)) ho0 (below_size (by repeat (first | (with_reducible first | exact HB.out | apply below_alloc | apply pw_below_drewN | apply below_drew1) | exact HB.out))) (fun k_ h_ => h_)) (below_size (by repeat (first | (with_reducible first | exact HB.out | apply below_alloc | apply pw_below_drewN | apply below_drew1) | exact HB.out)))); have n5_ := Aside0.mk (below_step (by repeat (first | (with_reducible first | exact HB.out | apply below_alloc | apply pw_below_drewN | apply below_drew1) | exact HB.out)) hb); clear HO_1; clear HO_2; clear HO344; clear HO347; clear HB; have HO_1 := n0_; have HO_2 := n1_; have HO344 := n2_; have HO347 := n3_; have HO350 := n4_; have HB := n5_; clear n0_ n1_ n2_ n3_ n4_ n5_; (try clear hb); (try clear hb2); (try clear hk); (try clear hi); (try clear ho0); obtain ⟨Ao40, co40, eo40⟩ := Kd.R_slice HO350.out; subst eo40) | (go_at_call 20; (with_reducible refine (ack_Parse.calls _ _ t348 (l1.length : Int) t351 t352 t353 _ ?side1 ?side2 A27.out).mono ?_); (case side1 => repeat (first | exact (Kd.R_reads' HO350.out).2.2 | (with_reducible refine Kd.C_alloc ?_ _) | (with_reducible refine Kd.C_drewN ?_ _) | (with_reducible refine Kd.C_drew ?_))); (case side2 => exact (Kd.R_reads' HO350.out).2.1); rintro e w41 ⟨v354, rfl, ho0, hb⟩; have n0_ := Aside0.mk (Kd.V_elder' (by (with_reducible repeat (first | apply Kd.V_alloc | apply Kd.V_drewN | apply Kd.V_drew)); exact HO_1.out) (Kd.R_base ho0) hb); have n1_ := Aside0.mk (Kd.V_elder' (by (with_reducible repeat (first | apply Kd.V_alloc | apply Kd.V_drewN | apply Kd.V_drew)); exact HO_2.out) (Kd.R_base ho0) hb); have n2_ := Aside0.mk (Kd.V_elder' (by (with_reducible repeat (first | apply Kd.V_alloc | apply Kd.V_drewN | apply Kd.V_drew)); exact HO344.out) (Kd.R_base ho0) hb); have n3_ := Aside0.mk (Kd.N_elder' (by (with_reducible repeat (first | apply Kd.N_alloc | apply Kd.N_drewN | apply Kd.N_drew)); exact HO347.out) (Kd.R_base ho0) hb); have n4_ := Aside0.mk (Kd.R_below (by (with_reducible repeat (first | apply Kd.R_alloc | apply Kd.R_drewN | apply Kd.R_drew)); exact HO350.out) hb); have n5_ := Aside0.mk (Kd.R_lower (Kd.R_newM (M := fun k_ => (w.heap.size ≤ k_)) ho0 (below_size (by repeat (first | (with_reducible first | exact HB.out | apply below_alloc | apply pw_below_drewN | apply below_drew1) | exact HB.out))) (fun k_ h_ => h_)) (below_size (by repeat (first | (with_reducible first | exact HB.out | apply below_alloc | apply pw_below_drewN | apply below_drew1) | exact HB.out)))); have n6_ := Aside0.mk (below_step (by repeat (first | (with_reducible first | exact HB.out | apply below_alloc | apply pw_below_drewN | apply below_drew1) | exact HB.out)) hb); clear HO_1; clear HO_2; clear HO344; clear HO347; clear HO350; clear HB; have HO_1 := n0_; have HO_2 := n1_; have HO344 := n2_; have HO347 := n3_; have HO350 := n4_; have HO355 := n5_; have HB := n6_; clear n0_ n1_ n2_ n3_ n4_ n5_ n6_; (try clear hb); (try clear hb2); (try clear hk); (try clear hi); (try clear ho0)) | (go_at_call 9; (with_reducible refine (thalweglaw07_awake.calls kj9  true _ A29.out).mono ?_); rintro e w42 ⟨rfl, hb⟩; have n0_ := Aside0.mk (Kd.V_below (by (with_reducible repeat (first | apply Kd.V_alloc | apply Kd.V_drewN | apply Kd.V_drew)); exact HO_1.out) hb); have n1_ := Aside0.mk (Kd.V_below (by (with_reducible repeat (first | apply Kd.V_alloc | apply Kd.V_drewN | apply Kd.V_drew)); exact HO_2.out) hb); have n2_ := Aside0.mk (Kd.V_below (by (with_reducible repeat (first | apply Kd.V_alloc | apply Kd.V_drewN | apply Kd.V_drew)); exact HO344.out) hb); have n3_ := Aside0.mk (Kd.N_below (by (with_reducible repeat (first | apply Kd.N_alloc | apply Kd.N_drewN | apply Kd.N_drew)); exact HO347.out) hb); have n4_ := Aside0.mk (Kd.R_below (by (with_reducible repeat (first | apply Kd.R_alloc | apply Kd.R_drewN | apply Kd.R_drew)); exact HO350.out) hb); have n5_ := Aside0.mk (Kd.R_below (by (with_reducible repeat (first | apply Kd.R_alloc | apply Kd.R_drewN | apply Kd.R_drew)); exact HO355.out) hb); have n6_ := Aside0.mk (below_step (by repeat (first | (with_reducible first | exact HB.out | apply below_alloc | apply pw_below_drewN | apply below_drew1) | exact HB.out)) hb); clear HO_1; clear HO_2; clear HO344; clear HO347; clear HO350; clear HO355; clear HB; have HO_1 := n0_; have HO_2 := n1_; have HO344 := n2_; have HO347 := n3_; have HO350 := n4_; have HO355 := n5_; have HB := n6_; clear n0_ n1_ n2_ n3_ n4_ n5_ n6_; (try clear hb); (try clear hb2); (try clear hk); (try clear hi); obtain ⟨Ao43, co43, eo43⟩ := Kd.R_slice HO355.out; subst eo43) | (go_at_call 22; (with_reducible refine (thalwegref07_Same.calls kj9 _ _ t351 _ _ l0 true _ ?side1 ?side2 ?side3 ?side4 A32.out).mono ?_); (case side1 => repeat (first | exact (Kd.R_reads' HO355.out).2.2 | (with_reducible refine Kd.C_alloc ?_ _) | (with_reducible refine Kd.C_drewN ?_ _) | (with_reducible refine Kd.C_drew ?_))); (case side2 => exact (Kd.R_reads' HO355.out).2.1); (case side3 => repeat (first | exact (Kd.C_below HR0.out HB.out) | (with_reducible refine Kd.C_alloc ?_ _) | (with_reducible refine Kd.C_drewN ?_ _) | (with_reducible refine Kd.C_drew ?_))); (case side4 => exact HC0.out); rintro e w' ⟨rfl, ⟨nd, rfl⟩⟩; (try first | exact ⟨rfl, _, World.drewN_drewN _ _ _⟩ | exact ⟨rfl, _, Eq.trans (World.drewN_drewN _ _ _) (congrArg (World.drewN _) (Nat.add_assoc _ _ _))⟩))))
                    go_ret
                    exact ⟨by first | rfl | (simp [errW_none, errW_some] <;> rfl) | (simp [*, errW_none, errW_some] <;> rfl), by repeat (first | (with_reducible first | exact HB.out | apply below_alloc | apply pw_below_drewN | apply below_drew1) | exact HB.out)⟩
                  · replace c33 := Bool.eq_false_iff.mpr c33
                    subst c33
                    have H1 : (none) = some r := by rw [if_neg (show ¬ (false = true) by decide)] at H; exact H
                    clear H
                    have H := H1
                    clear H1
                    exact absurd H (by simp)
                · replace c30 := Bool.eq_false_iff.mpr c30
                  subst c30
                  have H1 : (none) = some r := by rw [if_neg (show ¬ (false = true) by decide)] at H; exact H
                  clear H
                  have H := H1
                  clear H1
                  exact absurd H (by simp)
              · rw [if_neg c28] at H
                have c28b0 : (t342 == 0) = false := beq_eq_false_iff_ne.mpr c28
                have c28b1 : (t342 != 0) = true := bne_iff_ne.mpr c28
                replace H := Option.bind_eq_some_iff.mp H
                obtain ⟨t358, A440, H⟩ := H
                replace H : (if t358 = true then (some ((t341.length : Int) == 0)) else (none)) = some r := H
                have A44 := Aside0.mk A440
                clear A440
                by_cases c45 : t358 = true
                · subst c45
                  have H1 : (some ((t341.length : Int) == 0)) = some r := by rw [if_pos rfl] at H; exact H
                  clear H
                  have H := H1
                  clear H1
                  obtain rfl := Option.some.inj H
                  go_wp2_with (first | (go_at_call 13; (with_reducible refine (ack_Bytes.calls _ _ l0 t341 t342 _ ?side1 ?side2 A25.out).mono ?_); (case side1 => repeat (first | exact (Kd.C_below HR0.out HB.out) | (with_reducible refine Kd.C_alloc ?_ _) | (with_reducible refine Kd.C_drewN ?_ _) | (with_reducible refine Kd.C_drew ?_))); (case side2 => exact HC0.out); rintro e w46 ⟨v343, rfl, ho0, hb⟩; have n0_ := Aside0.mk (Kd.V_below (by (with_reducible repeat (first | apply Kd.V_alloc | apply Kd.V_drewN | apply Kd.V_drew)); exact HO_1.out) hb); have n1_ := Aside0.mk (Kd.V_below (by (with_reducible repeat (first | apply Kd.V_alloc | apply Kd.V_drewN | apply Kd.V_drew)); exact HO_2.out) hb); have n2_ := Aside0.mk (Kd.V_lower (Kd.V_mono (ok' := fun k_ => ((P1_ k_ ∨ P2_ k_) ∨ w.heap.size ≤ k_)) (Kd.N_V (base' := _) (Kd.R_N (Kd.R_bound ho0))) (fun k_ hk_ => (.inr (Nat.le_trans (below_size (by repeat (first | (with_reducible first | exact HB.out | apply below_alloc | apply pw_below_drewN | apply below_drew1) | exact HB.out))) hk_.2.1)))) (below_size (by repeat (first | (with_reducible first | exact HB.out | apply below_alloc | apply pw_below_drewN | apply below_drew1) | exact HB.out)))); have n3_ := Aside0.mk (below_step (by repeat (first | (with_reducible first | exact HB.out | apply below_alloc | apply pw_below_drewN | apply below_drew1) | exact HB.out)) hb); clear HO_1; clear HO_2; clear HB; have HO_1 := n0_; have HO_2 := n1_; have HO344 := n2_; have HB := n3_; clear n0_ n1_ n2_ n3_; (try clear hb); (try clear hb2); (try clear hk); (try clear hi); (try clear ho0); obtain ⟨Ao47, co47, eo47⟩ := Kd.V_slice HO344.out; subst eo47) | ((with_reducible refine gate_dst (N := 76) rfl ?_); (try (refine gate_guard (by rfl) ?_; dsimp only)); refine Kd.N_lit (Kd.slice 5 (Kd.int .u8)) _ 35 ?hg (N' := 76) ?hd (xs := ([l1, t341, l2] : List (List Int))) (inner := [.slice A1 l1.length c1, .slice Ao47 t341.length co47, .slice A2 l2.length c2]) (ok := (fun k_ => ((P1_ k_ ∨ P2_ k_) ∨ w.heap.size ≤ k_))) (okp := (fun k_ => ((P1_ k_ ∨ P2_ k_) ∨ w.heap.size ≤ k_))) ?hr ?hp (fun _ hk => hk) ((show ∀ k_, w46.heap.size ≤ k_ → (fun k_ => ((P1_ k_ ∨ P2_ k_) ∨ w.heap.size ≤ k_)) k_ from fun k_ hk => (.inr (Nat.le_trans (below_size (by repeat (first | (with_reducible first | exact HB.out | apply below_alloc | apply pw_below_drewN | apply below_drew1) | exact HB.out))) hk))) _ (Nat.le_refl _)) (Below.refl _ _) (Nat.le_refl _) (by simp) ?_; (case hd => rfl); (case hg => rfl); (case hr => first | (go_simp; done) | (go_simp; rfl)); (case hp => exact (Reps.one (show Kd.FK (Kd.slice 5 (Kd.int .u8)) _ _ l1 [.slice A1 l1.length c1] from (Kd.FK_slice_mk (Kd.V_reads' (Kd.V_mono (ok' := (fun k_ => ((P1_ k_ ∨ P2_ k_) ∨ w.heap.size ≤ k_))) (HO_1.out) (fun k_ hk => hk))).2.1 (Kd.V_F (Kd.V_mono (ok' := (fun k_ => ((P1_ k_ ∨ P2_ k_) ∨ w.heap.size ≤ k_))) (by (with_reducible repeat (first | apply Kd.V_alloc | apply Kd.V_drewN | apply Kd.V_drew)); exact HO_1.out) (fun k_ hk => by exact hk))))) (Reps.one (show Kd.FK (Kd.slice 5 (Kd.int .u8)) _ _ t341 [.slice Ao47 t341.length co47] from (Kd.FK_slice_mk (Kd.V_reads' (Kd.V_mono (ok' := (fun k_ => ((P1_ k_ ∨ P2_ k_) ∨ w.heap.size ≤ k_))) (HO344.out) (fun k_ hk => hk))).2.1 (Kd.V_F (Kd.V_mono (ok' := (fun k_ => ((P1_ k_ ∨ P2_ k_) ∨ w.heap.size ≤ k_))) (by (with_reducible repeat (first | apply Kd.V_alloc | apply Kd.V_drewN | apply Kd.V_drew)); exact HO344.out) (fun k_ hk => by exact hk))))) (Reps.one (show Kd.FK (Kd.slice 5 (Kd.int .u8)) _ _ l2 [.slice A2 l2.length c2] from (Kd.FK_slice_mk (Kd.V_reads' (Kd.V_mono (ok' := (fun k_ => ((P1_ k_ ∨ P2_ k_) ∨ w.heap.size ≤ k_))) (HO_2.out) (fun k_ hk => hk))).2.1 (Kd.V_F (Kd.V_mono (ok' := (fun k_ => ((P1_ k_ ∨ P2_ k_) ∨ w.heap.size ≤ k_))) (by (with_reducible repeat (first | apply Kd.V_alloc | apply Kd.V_drewN | apply Kd.V_drew)); exact HO_2.out) (fun k_ hk => by exact hk))))) (Reps.none _ _))))); intro v346 w48 ho49 hb hg_ hnew_; clear hg_ hnew_; (first | rw [← Ny345.out] at ho49 | (simp only [Int.reduceToNat] at ho49; rw [← Ny345.out] at ho49)); have n0_ := Aside0.mk (Kd.V_elder' (by (with_reducible repeat (first | apply Kd.V_alloc | apply Kd.V_drewN | apply Kd.V_drew)); exact HO_1.out) (Kd.N_base ho49) hb); have n1_ := Aside0.mk (Kd.V_elder' (by (with_reducible repeat (first | apply Kd.V_alloc | apply Kd.V_drewN | apply Kd.V_drew)); exact HO_2.out) (Kd.N_base ho49) hb); have n2_ := Aside0.mk (Kd.V_elder' (by (with_reducible repeat (first | apply Kd.V_alloc | apply Kd.V_drewN | apply Kd.V_drew)); exact HO344.out) (Kd.N_base ho49) hb); have n3_ := Aside0.mk (Kd.N_lower ho49 (below_size (by repeat (first | (with_reducible first | exact HB.out | apply below_alloc | apply pw_below_drewN | apply below_drew1) | exact HB.out)))); have n4_ := Aside0.mk (below_step (by repeat (first | (with_reducible first | exact HB.out | apply below_alloc | apply pw_below_drewN | apply below_drew1) | exact HB.out)) hb); clear HO_1; clear HO_2; clear HO344; clear HB; have HO_1 := n0_; have HO_2 := n1_; have HO344 := n2_; have HO347 := n3_; have HB := n4_; clear n0_ n1_ n2_ n3_ n4_; clear hb ho49; obtain ⟨Ao50, co50, eo50⟩ := Kd.N_slice HO347.out; subst eo50) | (go_at_call 23; (with_reducible refine (thalwegref01_Both.calls kj9 _ _ y345 t348 _ ?side1 ?side2 A26.out).mono ?_); (case side1 => repeat (first | exact (Kd.N_reads' HO347.out).2.2 | (with_reducible refine Kd.C_alloc ?_ _) | (with_reducible refine Kd.C_drewN ?_ _) | (with_reducible refine Kd.C_drew ?_))); (case side2 => exact (Kd.N_reads' HO347.out).2.1); rintro e w51 ⟨v349, rfl, ho0, hb⟩; have n0_ := Aside0.mk (Kd.V_elder' (by (with_reducible repeat (first | apply Kd.V_alloc | apply Kd.V_drewN | apply Kd.V_drew)); exact HO_1.out) (Kd.R_base ho0) hb); have n1_ := Aside0.mk (Kd.V_elder' (by (with_reducible repeat (first | apply Kd.V_alloc | apply Kd.V_drewN | apply Kd.V_drew)); exact HO_2.out) (Kd.R_base ho0) hb); have n2_ := Aside0.mk (Kd.V_elder' (by (with_reducible repeat (first | apply Kd.V_alloc | apply Kd.V_drewN | apply Kd.V_drew)); exact HO344.out) (Kd.R_base ho0) hb); have n3_ := Aside0.mk (Kd.N_elder' (by (with_reducible repeat (first | apply Kd.N_alloc | apply Kd.N_drewN | apply Kd.N_drew)); exact HO347.out) (Kd.R_base ho0) hb); have n4_ := Aside0.mk (Kd.R_lower (Kd.R_newM (M := fun k_ => (w.heap.size ≤ k_)) ho0 (below_size (by repeat (first | (with_reducible first | exact HB.out | apply below_alloc | apply pw_below_drewN | apply below_drew1) | exact HB.out))) (fun k_ h_ => h_)) (below_size (by repeat (first | (with_reducible first | exact HB.out | apply below_alloc | apply pw_below_drewN | apply below_drew1) | exact HB.out)))); have n5_ := Aside0.mk (below_step (by repeat (first | (with_reducible first | exact HB.out | apply below_alloc | apply pw_below_drewN | apply below_drew1) | exact HB.out)) hb); clear HO_1; clear HO_2; clear HO344; clear HO347; clear HB; have HO_1 := n0_; have HO_2 := n1_; have HO344 := n2_; have HO347 := n3_; have HO350 := n4_; have HB := n5_; clear n0_ n1_ n2_ n3_ n4_ n5_; (try clear hb); (try clear hb2); (try clear hk); (try clear hi); (try clear ho0); obtain ⟨Ao52, co52, eo52⟩ := Kd.R_slice HO350.out; subst eo52) | (go_at_call 20; (with_reducible refine (ack_Parse.calls _ _ t348 (l1.length : Int) t351 t352 t353 _ ?side1 ?side2 A27.out).mono ?_); (case side1 => repeat (first | exact (Kd.R_reads' HO350.out).2.2 | (with_reducible refine Kd.C_alloc ?_ _) | (with_reducible refine Kd.C_drewN ?_ _) | (with_reducible refine Kd.C_drew ?_))); (case side2 => exact (Kd.R_reads' HO350.out).2.1); rintro e w53 ⟨v354, rfl, ho0, hb⟩; have n0_ := Aside0.mk (Kd.V_elder' (by (with_reducible repeat (first | apply Kd.V_alloc | apply Kd.V_drewN | apply Kd.V_drew)); exact HO_1.out) (Kd.R_base ho0) hb); have n1_ := Aside0.mk (Kd.V_elder' (by (with_reducible repeat (first | apply Kd.V_alloc | apply Kd.V_drewN | apply Kd.V_drew)); exact HO_2.out) (Kd.R_base ho0) hb); have n2_ := Aside0.mk (Kd.V_elder' (by (with_reducible repeat (first | apply Kd.V_alloc | apply Kd.V_drewN | apply Kd.V_drew)); exact HO344.out) (Kd.R_base ho0) hb); have n3_ := Aside0.mk (Kd.N_elder' (by (with_reducible repeat (first | apply Kd.N_alloc | apply Kd.N_drewN | apply Kd.N_drew)); exact HO347.out) (Kd.R_base ho0) hb); have n4_ := Aside0.mk (Kd.R_below (by (with_reducible repeat (first | apply Kd.R_alloc | apply Kd.R_drewN | apply Kd.R_drew)); exact HO350.out) hb); have n5_ := Aside0.mk (Kd.R_lower (Kd.R_newM (M := fun k_ => (w.heap.size ≤ k_)) ho0 (below_size (by repeat (first | (with_reducible first | exact HB.out | apply below_alloc | apply pw_below_drewN | apply below_drew1) | exact HB.out))) (fun k_ h_ => h_)) (below_size (by repeat (first | (with_reducible first | exact HB.out | apply below_alloc | apply pw_below_drewN | apply below_drew1) | exact HB.out)))); have n6_ := Aside0.mk (below_step (by repeat (first | (with_reducible first | exact HB.out | apply below_alloc | apply pw_below_drewN | apply below_drew1) | exact HB.out)) hb); clear HO_1; clear HO_2; clear HO344; clear HO347; clear HO350; clear HB; have HO_1 := n0_; have HO_2 := n1_; have HO344 := n2_; have HO347 := n3_; have HO350 := n4_; have HO355 := n5_; have HB := n6_; clear n0_ n1_ n2_ n3_ n4_ n5_ n6_; (try clear hb); (try clear hb2); (try clear hk); (try clear hi); (try clear ho0)) | (go_at_call 9; (with_reducible refine (thalweglaw07_awake.calls kj9  true _ A44.out).mono ?_); rintro e w54 ⟨rfl, hb⟩; have n0_ := Aside0.mk (Kd.V_below (by (with_reducible repeat (first | apply Kd.V_alloc | apply Kd.V_drewN | apply Kd.V_drew)); exact HO_1.out) hb); have n1_ := Aside0.mk (Kd.V_below (by (with_reducible repeat (first | apply Kd.V_alloc | apply Kd.V_drewN | apply Kd.V_drew)); exact HO_2.out) hb); have n2_ := Aside0.mk (Kd.V_below (by (with_reducible repeat (first | apply Kd.V_alloc | apply Kd.V_drewN | apply Kd.V_drew)); exact HO344.out) hb); have n3_ := Aside0.mk (Kd.N_below (by (with_reducible repeat (first | apply Kd.N_alloc | apply Kd.N_drewN | apply Kd.N_drew)); exact HO347.out) hb); have n4_ := Aside0.mk (Kd.R_below (by (with_reducible repeat (first | apply Kd.R_alloc | apply Kd.R_drewN | apply Kd.R_drew)); exact HO350.out) hb); have n5_ := Aside0.mk (Kd.R_below (by (with_reducible repeat (first | apply Kd.R_alloc | apply Kd.R_drewN | apply Kd.R_drew)); exact HO355.out) hb); have n6_ := Aside0.mk (below_step (by repeat (first | (with_reducible first | exact HB.out | apply below_alloc | apply pw_below_drewN | apply below_drew1) | exact HB.out)) hb); clear HO_1; clear HO_2; clear HO344; clear HO347; clear HO350; clear HO355; clear HB; have HO_1 := n0_; have HO_2 := n1_; have HO344 := n2_; have HO347 := n3_; have HO350 := n4_; have HO355 := n5_; have HB := n6_; clear n0_ n1_ n2_ n3_ n4_ n5_ n6_; (try clear hb); (try clear hb2); (try clear hk); (try clear hi)))
                  repeat (go_quiet (first | (go_at_call 13; (with_reducible refine (ack_Bytes.calls _ _ l0 t341 t342 _ ?side1 ?side2 A25.out).mono ?_); (case side1 => repeat (first | exact (Kd.C_below HR0.out HB.out) | (with_reducible refine Kd.C_alloc ?_ _) | (with_reducible refine Kd.C_drewN ?_ _) | (with_reducible refine Kd.C_drew ?_))); (case side2 => exact HC0.out); rintro e w46 ⟨v343, rfl, ho0, hb⟩; have n0_ := Aside0.mk (Kd.V_below (by (with_reducible repeat (first | apply Kd.V_alloc | apply Kd.V_drewN | apply Kd.V_drew)); exact HO_1.out) hb); have n1_ := Aside0.mk (Kd.V_below (by (with_reducible repeat (first | apply Kd.V_alloc | apply Kd.V_drewN | apply Kd.V_drew)); exact HO_2.out) hb); have n2_ := Aside0.mk (Kd.V_lower (Kd.V_mono (ok' := fun k_ => ((P1_ k_ ∨ P2_ k_) ∨ w.heap.size ≤ k_)) (Kd.N_V (base' := _) (Kd.R_N (Kd.R_bound ho0))) (fun k_ hk_ => (.inr (Nat.le_trans (below_size (by repeat (first | (with_reducible first | exact HB.out | apply below_alloc | apply pw_below_drewN | apply below_drew1) | exact HB.out))) hk_.2.1)))) (below_size (by repeat (first | (with_reducible first | exact HB.out | apply below_alloc | apply pw_below_drewN | apply below_drew1) | exact HB.out)))); have n3_ := Aside0.mk (below_step (by repeat (first | (with_reducible first | exact HB.out | apply below_alloc | apply pw_below_drewN | apply below_drew1) | exact HB.out)) hb); clear HO_1; clear HO_2; clear HB; have HO_1 := n0_; have HO_2 := n1_; have HO344 := n2_; have HB := n3_; clear n0_ n1_ n2_ n3_; (try clear hb); (try clear hb2); (try clear hk); (try clear hi); (try clear ho0); obtain ⟨Ao47, co47, eo47⟩ := Kd.V_slice HO344.out; subst eo47) | ((with_reducible refine gate_dst (N := 76) rfl ?_); (try (refine gate_guard (by rfl) ?_; dsimp only)); refine Kd.N_lit (Kd.slice 5 (Kd.int .u8)) _ 35 ?hg (N' := 76) ?hd (xs := ([l1, t341, l2] : List (List Int))) (inner := [.slice A1 l1.length c1, .slice Ao47 t341.length co47, .slice A2 l2.length c2]) (ok := (fun k_ => ((P1_ k_ ∨ P2_ k_) ∨ w.heap.size ≤ k_))) (okp := (fun k_ => ((P1_ k_ ∨ P2_ k_) ∨ w.heap.size ≤ k_))) ?hr ?hp (fun _ hk => hk) ((show ∀ k_, w46.heap.size ≤ k_ → (fun k_ => ((P1_ k_ ∨ P2_ k_) ∨ w.heap.size ≤ k_)) k_ from fun k_ hk => (.inr (Nat.le_trans (below_size (by repeat (first | (with_reducible first | exact HB.out | apply below_alloc | apply pw_below_drewN | apply below_drew1) | exact HB.out))) hk))) _ (Nat.le_refl _)) (Below.refl _ _) (Nat.le_refl _) (by simp) ?_; (case hd => rfl); (case hg => rfl); (case hr => first | (go_simp; done) | (go_simp; rfl)); (case hp => exact (Reps.one (show Kd.FK (Kd.slice 5 (Kd.int .u8)) _ _ l1 [.slice A1 l1.length c1] from (Kd.FK_slice_mk (Kd.V_reads' (Kd.V_mono (ok' := (fun k_ => ((P1_ k_ ∨ P2_ k_) ∨ w.heap.size ≤ k_))) (HO_1.out) (fun k_ hk => hk))).2.1 (Kd.V_F (Kd.V_mono (ok' := (fun k_ => ((P1_ k_ ∨ P2_ k_) ∨ w.heap.size ≤ k_))) (by (with_reducible repeat (first | apply Kd.V_alloc | apply Kd.V_drewN | apply Kd.V_drew)); exact HO_1.out) (fun k_ hk => by exact hk))))) (Reps.one (show Kd.FK (Kd.slice 5 (Kd.int .u8)) _ _ t341 [.slice Ao47 t341.length co47] from (Kd.FK_slice_mk (Kd.V_reads' (Kd.V_mono (ok' := (fun k_ => ((P1_ k_ ∨ P2_ k_) ∨ w.heap.size ≤ k_))) (HO344.out) (fun k_ hk => hk))).2.1 (Kd.V_F (Kd.V_mono (ok' := (fun k_ => ((P1_ k_ ∨ P2_ k_) ∨ w.heap.size ≤ k_))) (by (with_reducible repeat (first | apply Kd.V_alloc | apply Kd.V_drewN | apply Kd.V_drew)); exact HO344.out) (fun k_ hk => by exact hk))))) (Reps.one (show Kd.FK (Kd.slice 5 (Kd.int .u8)) _ _ l2 [.slice A2 l2.length c2] from (Kd.FK_slice_mk (Kd.V_reads' (Kd.V_mono (ok' := (fun k_ => ((P1_ k_ ∨ P2_ k_) ∨ w.heap.size ≤ k_))) (HO_2.out) (fun k_ hk => hk))).2.1 (Kd.V_F (Kd.V_mono (ok' := (fun k_ => ((P1_ k_ ∨ P2_ k_) ∨ w.heap.size ≤ k_))) (by (with_reducible repeat (first | apply Kd.V_alloc | apply Kd.V_drewN | apply Kd.V_drew)); exact HO_2.out) (fun k_ hk => by exact hk))))) (Reps.none _ _))))); intro v346 w48 ho49 hb hg_ hnew_; clear hg_ hnew_; (first | rw [← Ny345.out] at ho49 | (simp only [Int.reduceToNat] at ho49; rw [← Ny345.out] at ho49)); have n0_ := Aside0.mk (Kd.V_elder' (by (with_reducible repeat (first | apply Kd.V_alloc | apply Kd.V_drewN | apply Kd.V_drew)); exact HO_1.out) (Kd.N_base ho49) hb); have n1_ := Aside0.mk (Kd.V_elder' (by (with_reducible repeat (first | apply Kd.V_alloc | apply Kd.V_drewN | apply Kd.V_drew)); exact HO_2.out) (Kd.N_base ho49) hb); have n2_ := Aside0.mk (Kd.V_elder' (by (with_reducible repeat (first | apply Kd.V_alloc | apply Kd.V_drewN | apply Kd.V_drew)); exact HO344.out) (Kd.N_base ho49) hb); have n3_ := Aside0.mk (Kd.N_lower ho49 (below_size (by repeat (first | (with_reducible first | exact HB.out | apply below_alloc | apply pw_below_drewN | apply below_drew1) | exact HB.out)))); have n4_ := Aside0.mk (below_step (by repeat (first | (with_reducible first | exact HB.out | apply below_alloc | apply pw_below_drewN | apply below_drew1) | exact HB.out)) hb); clear HO_1; clear HO_2; clear HO344; clear HB; have HO_1 := n0_; have HO_2 := n1_; have HO344 := n2_; have HO347 := n3_; have HB := n4_; clear n0_ n1_ n2_ n3_ n4_; clear hb ho49; obtain ⟨Ao50, co50, eo50⟩ := Kd.N_slice HO347.out; subst eo50) | (go_at_call 23; (with_reducible refine (thalwegref01_Both.calls kj9 _ _ y345 t348 _ ?side1 ?side2 A26.out).mono ?_); (case side1 => repeat (first | exact (Kd.N_reads' HO347.out).2.2 | (with_reducible refine Kd.C_alloc ?_ _) | (with_reducible refine Kd.C_drewN ?_ _) | (with_reducible refine Kd.C_drew ?_))); (case side2 => exact (Kd.N_reads' HO347.out).2.1); rintro e w51 ⟨v349, rfl, ho0, hb⟩; have n0_ := Aside0.mk (Kd.V_elder' (by (with_reducible repeat (first | apply Kd.V_alloc | apply Kd.V_drewN | apply Kd.V_drew)); exact HO_1.out) (Kd.R_base ho0) hb); have n1_ := Aside0.mk (Kd.V_elder' (by (with_reducible repeat (first | apply Kd.V_alloc | apply Kd.V_drewN | apply Kd.V_drew)); exact HO_2.out) (Kd.R_base ho0) hb); have n2_ := Aside0.mk (Kd.V_elder' (by (with_reducible repeat (first | apply Kd.V_alloc | apply Kd.V_drewN | apply Kd.V_drew)); exact HO344.out) (Kd.R_base ho0) hb); have n3_ := Aside0.mk (Kd.N_elder' (by (with_reducible repeat (first | apply Kd.N_alloc | apply Kd.N_drewN | apply Kd.N_drew)); exact HO347.out) (Kd.R_base ho0) hb); have n4_ := Aside0.mk (Kd.R_lower (Kd.R_newM (M := fun k_ => (w.heap.size ≤ k_)) ho0 (below_size (by repeat (first | (with_reducible first | exact HB.out | apply below_alloc | apply pw_below_drewN | apply below_drew1) | exact HB.out))) (fun k_ h_ => h_)) (below_size (by repeat (first | (with_reducible first | exact HB.out | apply below_alloc | apply pw_below_drewN | apply below_drew1) | exact HB.out)))); have n5_ := Aside0.mk (below_step (by repeat (first | (with_reducible first | exact HB.out | apply below_alloc | apply pw_below_drewN | apply below_drew1) | exact HB.out)) hb); clear HO_1; clear HO_2; clear HO344; clear HO347; clear HB; have HO_1 := n0_; have HO_2 := n1_; have HO344 := n2_; have HO347 := n3_; have HO350 := n4_; have HB := n5_; clear n0_ n1_ n2_ n3_ n4_ n5_; (try clear hb); (try clear hb2); (try clear hk); (try clear hi); (try clear ho0); obtain ⟨Ao52, co52, eo52⟩ := Kd.R_slice HO350.out; subst eo52) | (go_at_call 20; (with_reducible refine (ack_Parse.calls _ _ t348 (l1.length : Int) t351 t352 t353 _ ?side1 ?side2 A27.out).mono ?_); (case side1 => repeat (first | exact (Kd.R_reads' HO350.out).2.2 | (with_reducible refine Kd.C_alloc ?_ _) | (with_reducible refine Kd.C_drewN ?_ _) | (with_reducible refine Kd.C_drew ?_))); (case side2 => exact (Kd.R_reads' HO350.out).2.1); rintro e w53 ⟨v354, rfl, ho0, hb⟩; have n0_ := Aside0.mk (Kd.V_elder' (by (with_reducible repeat (first | apply Kd.V_alloc | apply Kd.V_drewN | apply Kd.V_drew)); exact HO_1.out) (Kd.R_base ho0) hb); have n1_ := Aside0.mk (Kd.V_elder' (by (with_reducible repeat (first | apply Kd.V_alloc | apply Kd.V_drewN | apply Kd.V_drew)); exact HO_2.out) (Kd.R_base ho0) hb); have n2_ := Aside0.mk (Kd.V_elder' (by (with_reducible repeat (first | apply Kd.V_alloc | apply Kd.V_drewN | apply Kd.V_drew)); exact HO344.out) (Kd.R_base ho0) hb); have n3_ := Aside0.mk (Kd.N_elder' (by (with_reducible repeat (first | apply Kd.N_alloc | apply Kd.N_drewN | apply Kd.N_drew)); exact HO347.out) (Kd.R_base ho0) hb); have n4_ := Aside0.mk (Kd.R_below (by (with_reducible repeat (first | apply Kd.R_alloc | apply Kd.R_drewN | apply Kd.R_drew)); exact HO350.out) hb); have n5_ := Aside0.mk (Kd.R_lower (Kd.R_newM (M := fun k_ => (w.heap.size ≤ k_)) ho0 (below_size (by repeat (first | (with_reducible first | exact HB.out | apply below_alloc | apply pw_below_drewN | apply below_drew1) | exact HB.out))) (fun k_ h_ => h_)) (below_size (by repeat (first | (with_reducible first | exact HB.out | apply below_alloc | apply pw_below_drewN | apply below_drew1) | exact HB.out)))); have n6_ := Aside0.mk (below_step (by repeat (first | (with_reducible first | exact HB.out | apply below_alloc | apply pw_below_drewN | apply below_drew1) | exact HB.out)) hb); clear HO_1; clear HO_2; clear HO344; clear HO347; clear HO350; clear HB; have HO_1 := n0_; have HO_2 := n1_; have HO344 := n2_; have HO347 := n3_; have HO350 := n4_; have HO355 := n5_; have HB := n6_; clear n0_ n1_ n2_ n3_ n4_ n5_ n6_; (try clear hb); (try clear hb2); (try clear hk); (try clear hi); (try clear ho0)) | (go_at_call 9; (with_reducible refine (thalweglaw07_awake.calls kj9  true _ A44.out).mono ?_); rintro e w54 ⟨rfl, hb⟩; have n0_ := Aside0.mk (Kd.V_below (by (with_reducible repeat (first | apply Kd.V_alloc | apply Kd.V_drewN | apply Kd.V_drew)); exact HO_1.out) hb); have n1_ := Aside0.mk (Kd.V_below (by (with_reducible repeat (first | apply Kd.V_alloc | apply Kd.V_drewN | apply Kd.V_drew)); exact HO_2.out) hb); have n2_ := Aside0.mk (Kd.V_below (by (with_reducible repeat (first | apply Kd.V_alloc | apply Kd.V_drewN | apply Kd.V_drew)); exact HO344.out) hb); have n3_ := Aside0.mk (Kd.N_below (by (with_reducible repeat (first | apply Kd.N_alloc | apply Kd.N_drewN | apply Kd.N_drew)); exact HO347.out) hb); have n4_ := Aside0.mk (Kd.R_below (by (with_reducible repeat (first | apply Kd.R_alloc | apply Kd.R_drewN | apply Kd.R_drew)); exact HO350.out) hb); have n5_ := Aside0.mk (Kd.R_below (by (with_reducible repeat (first | apply Kd.R_alloc | apply Kd.R_drewN | apply Kd.R_drew)); exact HO355.out) hb); have n6_ := Aside0.mk (below_step (by repeat (first | (with_reducible first | exact HB.out | apply below_alloc | apply pw_below_drewN | apply below_drew1) | exact HB.out)) hb); clear HO_1; clear HO_2; clear HO344; clear HO347; clear HO350; clear HO355; clear HB; have HO_1 := n0_; have HO_2 := n1_; have HO344 := n2_; have HO347 := n3_; have HO350 := n4_; have HO355 := n5_; have HB := n6_; clear n0_ n1_ n2_ n3_ n4_ n5_ n6_; (try clear hb); (try clear hb2); (try clear hk); (try clear hi))); try go_wp2_with (first | (go_at_call 13; (with_reducible refine (ack_Bytes.calls _ _ l0 t341 t342 _ ?side1 ?side2 A25.out).mono ?_); (case side1 => repeat (first | exact (Kd.C_below HR0.out HB.out) | (with_reducible refine Kd.C_alloc ?_ _) | (with_reducible refine Kd.C_drewN ?_ _) | (with_reducible refine Kd.C_drew ?_))); (case side2 => exact HC0.out); rintro e w46 ⟨v343, rfl, ho0, hb⟩; have n0_ := Aside0.mk (Kd.V_below (by (with_reducible repeat (first | apply Kd.V_alloc | apply Kd.V_drewN | apply Kd.V_drew)); exact HO_1.out) hb); have n1_ := Aside0.mk (Kd.V_below (by (with_reducible repeat (first | apply Kd.V_alloc | apply Kd.V_drewN | apply Kd.V_drew)); exact HO_2.out) hb); have n2_ := Aside0.mk (Kd.V_lower (Kd.V_mono (ok' := fun k_ => ((P1_ k_ ∨ P2_ k_) ∨ w.heap.size ≤ k_)) (Kd.N_V (base' := _) (Kd.R_N (Kd.R_bound ho0))) (fun k_ hk_ => (.inr (Nat.le_trans (below_size (by repeat (first | (with_reducible first | exact HB.out | apply below_alloc | apply pw_below_drewN | apply below_drew1) | exact HB.out))) hk_.2.1)))) (below_size (by repeat (first | (with_reducible first | exact HB.out | apply below_alloc | apply pw_below_drewN | apply below_drew1) | exact HB.out)))); have n3_ := Aside0.mk (below_step (by repeat (first | (with_reducible first | exact HB.out | apply below_alloc | apply pw_below_drewN | apply below_drew1) | exact HB.out)) hb); clear HO_1; clear HO_2; clear HB; have HO_1 := n0_; have HO_2 := n1_; have HO344 := n2_; have HB := n3_; clear n0_ n1_ n2_ n3_; (try clear hb); (try clear hb2); (try clear hk); (try clear hi); (try clear ho0); obtain ⟨Ao47, co47, eo47⟩ := Kd.V_slice HO344.out; subst eo47) | ((with_reducible refine gate_dst (N := 76) rfl ?_); (try (refine gate_guard (by rfl) ?_; dsimp only)); refine Kd.N_lit (Kd.slice 5 (Kd.int .u8)) _ 35 ?hg (N' := 76) ?hd (xs := ([l1, t341, l2] : List (List Int))) (inner := [.slice A1 l1.length c1, .slice Ao47 t341.length co47, .slice A2 l2.length c2]) (ok := (fun k_ => ((P1_ k_ ∨ P2_ k_) ∨ w.heap.size ≤ k_))) (okp := (fun k_ => ((P1_ k_ ∨ P2_ k_) ∨ w.heap.size ≤ k_))) ?hr ?hp (fun _ hk => hk) ((show ∀ k_, w46.heap.size ≤ k_ → (fun k_ => ((P1_ k_ ∨ P2_ k_) ∨ w.heap.size ≤ k_)) k_ from fun k_ hk => (.inr (Nat.le_trans (below_size (by repeat (first | (with_reducible first | exact HB.out | apply below_alloc | apply pw_below_drewN | apply below_drew1) | exact HB.out))) hk))) _ (Nat.le_refl _)) (Below.refl _ _) (Nat.le_refl _) (by simp) ?_; (case hd => rfl); (case hg => rfl); (case hr => first | (go_simp; done) | (go_simp; rfl)); (case hp => exact (Reps.one (show Kd.FK (Kd.slice 5 (Kd.int .u8)) _ _ l1 [.slice A1 l1.length c1] from (Kd.FK_slice_mk (Kd.V_reads' (Kd.V_mono (ok' := (fun k_ => ((P1_ k_ ∨ P2_ k_) ∨ w.heap.size ≤ k_))) (HO_1.out) (fun k_ hk => hk))).2.1 (Kd.V_F (Kd.V_mono (ok' := (fun k_ => ((P1_ k_ ∨ P2_ k_) ∨ w.heap.size ≤ k_))) (by (with_reducible repeat (first | apply Kd.V_alloc | apply Kd.V_drewN | apply Kd.V_drew)); exact HO_1.out) (fun k_ hk => by exact hk))))) (Reps.one (show Kd.FK (Kd.slice 5 (Kd.int .u8)) _ _ t341 [.slice Ao47 t341.length co47] from (Kd.FK_slice_mk (Kd.V_reads' (Kd.V_mono (ok' := (fun k_ => ((P1_ k_ ∨ P2_ k_) ∨ w.heap.size ≤ k_))) (HO344.out) (fun k_ hk => hk))).2.1 (Kd.V_F (Kd.V_mono (ok' := (fun k_ => ((P1_ k_ ∨ P2_ k_) ∨ w.heap.size ≤ k_))) (by (with_reducible repeat (first | apply Kd.V_alloc | apply Kd.V_drewN | apply Kd.V_drew)); exact HO344.out) (fun k_ hk => by exact hk))))) (Reps.one (show Kd.FK (Kd.slice 5 (Kd.int .u8)) _ _ l2 [.slice A2 l2.length c2] from (Kd.FK_slice_mk (Kd.V_reads' (Kd.V_mono (ok' := (fun k_ => ((P1_ k_ ∨ P2_ k_) ∨ w.heap.size ≤ k_))) (HO_2.out) (fun k_ hk => hk))).2.1 (Kd.V_F (Kd.V_mono (ok' := (fun k_ => ((P1_ k_ ∨ P2_ k_) ∨ w.heap.size ≤ k_))) (by (with_reducible repeat (first | apply Kd.V_alloc | apply Kd.V_drewN | apply Kd.V_drew)); exact HO_2.out) (fun k_ hk => by exact hk))))) (Reps.none _ _))))); intro v346 w48 ho49 hb hg_ hnew_; clear hg_ hnew_; (first | rw [← Ny345.out] at ho49 | (simp only [Int.reduceToNat] at ho49; rw [← Ny345.out] at ho49)); have n0_ := Aside0.mk (Kd.V_elder' (by (with_reducible repeat (first | apply Kd.V_alloc | apply Kd.V_drewN | apply Kd.V_drew)); exact HO_1.out) (Kd.N_base ho49) hb); have n1_ := Aside0.mk (Kd.V_elder' (by (with_reducible repeat (first | apply Kd.V_alloc | apply Kd.V_drewN | apply Kd.V_drew)); exact HO_2.out) (Kd.N_base ho49) hb); have n2_ := Aside0.mk (Kd.V_elder' (by (with_reducible repeat (first | apply Kd.V_alloc | apply Kd.V_drewN | apply Kd.V_drew)); exact HO344.out) (Kd.N_base ho49) hb); have n3_ := Aside0.mk (Kd.N_lower ho49 (below_size (by repeat (first | (with_reducible first | exact HB.out | apply below_alloc | apply pw_below_drewN | apply below_drew1) | exact HB.out)))); have n4_ := Aside0.mk (below_step (by repeat (first | (with_reducible first | exact HB.out | apply below_alloc | apply pw_below_drewN | apply below_drew1) | exact HB.out)) hb); clear HO_1; clear HO_2; clear HO344; clear HB; have HO_1 := n0_; have HO_2 := n1_; have HO344 := n2_; have HO347 := n3_; have HB := n4_; clear n0_ n1_ n2_ n3_ n4_; clear hb ho49; obtain ⟨Ao50, co50, eo50⟩ := Kd.N_slice HO347.out; subst eo50) | (go_at_call 23; (with_reducible refine (thalwegref01_Both.calls kj9 _ _ y345 t348 _ ?side1 ?side2 A26.out).mono ?_); (case side1 => repeat (first | exact (Kd.N_reads' HO347.out).2.2 | (with_reducible refine Kd.C_alloc ?_ _) | (with_reducible refine Kd.C_drewN ?_ _) | (with_reducible refine Kd.C_drew ?_))); (case side2 => exact (Kd.N_reads' HO347.out).2.1); rintro e w51 ⟨v349, rfl, ho0, hb⟩; have n0_ := Aside0.mk (Kd.V_elder' (by (with_reducible repeat (first | apply Kd.V_alloc | apply Kd.V_drewN | apply Kd.V_drew)); exact HO_1.out) (Kd.R_base ho0) hb); have n1_ := Aside0.mk (Kd.V_elder' (by (with_reducible repeat (first | apply Kd.V_alloc | apply Kd.V_drewN | apply Kd.V_drew)); exact HO_2.out) (Kd.R_base ho0) hb); have n2_ := Aside0.mk (Kd.V_elder' (by (with_reducible repeat (first | apply Kd.V_alloc | apply Kd.V_drewN | apply Kd.V_drew)); exact HO344.out) (Kd.R_base ho0) hb); have n3_ := Aside0.mk (Kd.N_elder' (by (with_reducible repeat (first | apply Kd.N_alloc | apply Kd.N_drewN | apply Kd.N_drew)); exact HO347.out) (Kd.R_base ho0) hb); have n4_ := Aside0.mk (Kd.R_lower (Kd.R_newM (M := fun k_ => (w.heap.size ≤ k_)) ho0 (below_size (by repeat (first | (with_reducible first | exact HB.out | apply below_alloc | apply pw_below_drewN | apply below_drew1) | exact HB.out))) (fun k_ h_ => h_)) (below_size (by repeat (first | (with_reducible first | exact HB.out | apply below_alloc | apply pw_below_drewN | apply below_drew1) | exact HB.out)))); have n5_ := Aside0.mk (below_step (by repeat (first | (with_reducible first | exact HB.out | apply below_alloc | apply pw_below_drewN | apply below_drew1) | exact HB.out)) hb); clear HO_1; clear HO_2; clear HO344; clear HO347; clear HB; have HO_1 := n0_; have HO_2 := n1_; have HO344 := n2_; have HO347 := n3_; have HO350 := n4_; have HB := n5_; clear n0_ n1_ n2_ n3_ n4_ n5_; (try clear hb); (try clear hb2); (try clear hk); (try clear hi); (try clear ho0); obtain ⟨Ao52, co52, eo52⟩ := Kd.R_slice HO350.out; subst eo52) | (go_at_call 20; (with_reducible refine (ack_Parse.calls _ _ t348 (l1.length : Int) t351 t352 t353 _ ?side1 ?side2 A27.out).mono ?_); (case side1 => repeat (first | exact (Kd.R_reads' HO350.out).2.2 | (with_reducible refine Kd.C_alloc ?_ _) | (with_reducible refine Kd.C_drewN ?_ _) | (with_reducible refine Kd.C_drew ?_))); (case side2 => exact (Kd.R_reads' HO350.out).2.1); rintro e w53 ⟨v354, rfl, ho0, hb⟩; have n0_ := Aside0.mk (Kd.V_elder' (by (with_reducible repeat (first | apply Kd.V_alloc | apply Kd.V_drewN | apply Kd.V_drew)); exact HO_1.out) (Kd.R_base ho0) hb); have n1_ := Aside0.mk (Kd.V_elder' (by (with_reducible repeat (first | apply Kd.V_alloc | apply Kd.V_drewN | apply Kd.V_drew)); exact HO_2.out) (Kd.R_base ho0) hb); have n2_ := Aside0.mk (Kd.V_elder' (by (with_reducible repeat (first | apply Kd.V_alloc | apply Kd.V_drewN | apply Kd.V_drew)); exact HO344.out) (Kd.R_base ho0) hb); have n3_ := Aside0.mk (Kd.N_elder' (by (with_reducible repeat (first | apply Kd.N_alloc | apply Kd.N_drewN | apply Kd.N_drew)); exact HO347.out) (Kd.R_base ho0) hb); have n4_ := Aside0.mk (Kd.R_below (by (with_reducible repeat (first | apply Kd.R_alloc | apply Kd.R_drewN | apply Kd.R_drew)); exact HO350.out) hb); have n5_ := Aside0.mk (Kd.R_lower (Kd.R_newM (M := fun k_ => (w.heap.size ≤ k_)) ho0 (below_size (by repeat (first | (with_reducible first | exact HB.out | apply below_alloc | apply pw_below_drewN | apply below_drew1) | exact HB.out))) (fun k_ h_ => h_)) (below_size (by repeat (first | (with_reducible first | exact HB.out | apply below_alloc | apply pw_below_drewN | apply below_drew1) | exact HB.out)))); have n6_ := Aside0.mk (below_step (by repeat (first | (with_reducible first | exact HB.out | apply below_alloc | apply pw_below_drewN | apply below_drew1) | exact HB.out)) hb); clear HO_1; clear HO_2; clear HO344; clear HO347; clear HO350; clear HB; have HO_1 := n0_; have HO_2 := n1_; have HO344 := n2_; have HO347 := n3_; have HO350 := n4_; have HO355 := n5_; have HB := n6_; clear n0_ n1_ n2_ n3_ n4_ n5_ n6_; (try clear hb); (try clear hb2); (try clear hk); (try clear hi); (try clear ho0)) | (go_at_call 9; (with_reducible refine (thalweglaw07_awake.calls kj9  true _ A44.out).mono ?_); rintro e w54 ⟨rfl, hb⟩; have n0_ := Aside0.mk (Kd.V_below (by (with_reducible repeat (first | apply Kd.V_alloc | apply Kd.V_drewN | apply Kd.V_drew)); exact HO_1.out) hb); have n1_ := Aside0.mk (Kd.V_below (by (with_reducible repeat (first | apply Kd.V_alloc | apply Kd.V_drewN | apply Kd.V_drew)); exact HO_2.out) hb); have n2_ := Aside0.mk (Kd.V_below (by (with_reducible repeat (first | apply Kd.V_alloc | apply Kd.V_drewN | apply Kd.V_drew)); exact HO344.out) hb); have n3_ := Aside0.mk (Kd.N_below (by (with_reducible repeat (first | apply Kd.N_alloc | apply Kd.N_drewN | apply Kd.N_drew)); exact HO347.out) hb); have n4_ := Aside0.mk (Kd.R_below (by (with_reducible repeat (first | apply Kd.R_alloc | apply Kd.R_drewN | apply Kd.R_drew)); exact HO350.out) hb); have n5_ := Aside0.mk (Kd.R_below (by (with_reducible repeat (first | apply Kd.R_alloc | apply Kd.R_drewN | apply Kd.R_drew)); exact HO355.out) hb); have n6_ := Aside0.mk (below_step (by repeat (first | (with_reducible first | exact HB.out | apply below_alloc | apply pw_below_drewN | apply below_drew1) | exact HB.out)) hb); clear HO_1; clear HO_2; clear HO344; clear HO347; clear HO350; clear HO355; clear HB; have HO_1 := n0_; have HO_2 := n1_; have HO344 := n2_; have HO347 := n3_; have HO350 := n4_; have HO355 := n5_; have HB := n6_; clear n0_ n1_ n2_ n3_ n4_ n5_ n6_; (try clear hb); (try clear hb2); (try clear hk); (try clear hi))))
                  go_ret
                  exact ⟨by first | rfl | (simp [errW_none, errW_some] <;> rfl) | (simp [*, errW_none, errW_some] <;> rfl), by repeat (first | (with_reducible first | exact HB.out | apply below_alloc | apply pw_below_drewN | apply below_drew1) | exact HB.out)⟩
                · replace c45 := Bool.eq_false_iff.mpr c45
                  subst c45
                  have H1 : (none) = some r := by rw [if_neg (show ¬ (false = true) by decide)] at H; exact H
                  clear H
                  have H := H1
                  clear H1
                  exact absurd H (by simp)
end Go.Proofs.Ytolfbnkdmafomaa.P
namespace Go.Proofs.Ytolfbnkdmafomaa.P
open Go.RowKit Go.Proofs.YtolfbnkdmafomaaW.PrintWords
def thalweglaw07_AckBack.Pure : Prop := ∀ (l0 : List S24) (l1 : List Int) (l2 : List Int), (l0.length ≤ maxLen ∧ ∀ x0_ ∈ l0, ((Lit.int .i64 x0_.f0).wf = true ∧ (Lit.int .i64 x0_.f1).wf = true ∧ (Lit.int .i64 x0_.f2).wf = true ∧ (Lit.int .i64 x0_.f3).wf = true)) → l1.length ≤ maxLen → (∀ x ∈ l1, (Lit.int .u8 x).wf = true) → l2.length ≤ maxLen → (∀ x ∈ l2, (Lit.int .u8 x).wf = true) → ∃ k, thalweglaw07_AckBack.f k l0 l1 l2 = some true
end Go.Proofs.Ytolfbnkdmafomaa.P
namespace Go.Proofs.Ytolfbnkdmafomaa.P
open Go.RowKit Go.Proofs.YtolfbnkdmafomaaW.PrintWords Go.Proofs.YtolfbnkdmafomaaW.PrintLast Go.Proofs.YtolfbnkdmafomaaW.PrintMore
attribute [local go_sem] max2_int min2_int max_two min_two max_three min_three max_four min_four   -- for this text's walks alone
mutual
def thalwegref01_Get.j0 : Nat → List Int → Int → Int → Bool → Option (Int × Int × Int)
  | 0, _, _, _, _ => none
  | k + 1, x0, x1, x2, x26 => if x26 = true then (some (0, 0, 1)) else (if (wrap64 ((x0.length : Int) - x1)) < x2 then (some (0, 0, 6)) else (thalwegref01_Get.l0 k x0 x1 x2 0 0))
def thalwegref01_Get.l0 : Nat → List Int → Int → Int → Int → Int → Option (Int × Int × Int)
  | 0, _, _, _, _, _ => none
  | k + 1, x0, x1, x2, x9, x10 => if x10 < x2 then (if 0 ≤ (wrap64 (x1 + x10)) then (if (wrap64 (x1 + x10)) < (x0.length : Int) then (thalwegref01_Get.l0 k x0 x1 x2 (wrap64 ((wrap64 (256 * x9)) + (wrap64 (rd x0 (wrap64 (x1 + x10)))))) (wrap64 (x10 + 1))) else (none)) else (none)) else (some (x9, wrap64 (x1 + x2), 0))
end
def thalwegref01_Get.f (k : Nat) (l0 : List Int) (a1 : Int) (a2 : Int) : Option (Int × Int × Int) := if a2 < 1 then (thalwegref01_Get.j0 k l0 a1 a2 true) else (if a2 > 7 then (thalwegref01_Get.j0 k l0 a1 a2 true) else (if a1 < 0 then (thalwegref01_Get.j0 k l0 a1 a2 true) else (thalwegref01_Get.j0 k l0 a1 a2 (decide (a1 > (l0.length : Int))))))
theorem thalwegref01_Get.mono_l : ∀ k, (∀ y0 y1 y2 y3, LeO (thalwegref01_Get.j0 k y0 y1 y2 y3) (thalwegref01_Get.j0 (k + 1) y0 y1 y2 y3)) ∧ (∀ y0 y1 y2 y3 y4, LeO (thalwegref01_Get.l0 k y0 y1 y2 y3 y4) (thalwegref01_Get.l0 (k + 1) y0 y1 y2 y3 y4))
  | 0 => ⟨fun _ _ _ _ r h => by simp [thalwegref01_Get.j0] at h, fun _ _ _ _ _ r h => by simp [thalwegref01_Get.l0] at h⟩
  | k + 1 => by
    obtain ⟨ih0, ih1⟩ := thalwegref01_Get.mono_l k
    refine ⟨?_, ?_⟩
    · intro y0 y1 y2 y3
      unfold thalwegref01_Get.j0
      repeat' first
      | (with_reducible exact ih0 _ _ _ _)
      | (with_reducible exact ih1 _ _ _ _ _)
      | (with_reducible exact LeO.refl _)
      | (with_reducible exact LeO.none _)
      | (with_reducible refine LeO.ite ?_ ?_)
      | (with_reducible refine LeO.bind ?_ (fun _ => ?_))
      | exact ih0 _ _ _ _
      | exact ih1 _ _ _ _ _
      | exact LeO.none _
      | refine LeO.ite ?_ ?_
      | refine LeO.bind ?_ (fun _ => ?_)
    · intro y0 y1 y2 y3 y4
      unfold thalwegref01_Get.l0
      repeat' first
      | (with_reducible exact ih0 _ _ _ _)
      | (with_reducible exact ih1 _ _ _ _ _)
      | (with_reducible exact LeO.refl _)
      | (with_reducible exact LeO.none _)
      | (with_reducible refine LeO.ite ?_ ?_)
      | (with_reducible refine LeO.bind ?_ (fun _ => ?_))
      | exact ih0 _ _ _ _
      | exact ih1 _ _ _ _ _
      | exact LeO.none _
      | refine LeO.ite ?_ ?_
      | refine LeO.bind ?_ (fun _ => ?_)
theorem thalwegref01_Get.mono : ∀ a0 a1 a2 k, LeO (thalwegref01_Get.f k a0 a1 a2) (thalwegref01_Get.f (k + 1) a0 a1 a2) := by
  intro a0 a1 a2 k
  obtain ⟨ih0, ih1⟩ := thalwegref01_Get.mono_l k
  unfold thalwegref01_Get.f
  repeat' first
      | (with_reducible exact ih0 _ _ _ _)
      | (with_reducible exact ih1 _ _ _ _ _)
      | (with_reducible exact LeO.refl _)
      | (with_reducible exact LeO.none _)
      | (with_reducible refine LeO.ite ?_ ?_)
      | (with_reducible refine LeO.bind ?_ (fun _ => ?_))
      | exact ih0 _ _ _ _
      | exact ih1 _ _ _ _ _
      | exact LeO.none _
      | refine LeO.ite ?_ ?_
      | refine LeO.bind ?_ (fun _ => ?_)
set_option maxHeartbeats 8000000 in
set_option maxRecDepth 100000 in
theorem thalwegref01_Get.calls (k : Nat) (A0 : Option Addr) (c0 : Nat) (l0 : List Int) (a1 : Int) (a2 : Int) (r1 : Int) (r2 : Int) (r3 : Int) (w : World) (hr0 : Kd.C (Kd.int .u8) w A0 l0.length l0) (hc0 : l0.length ≤ c0) (h : thalwegref01_Get.f k l0 a1 a2 = some (r1, r2, r3)) :
    Calls Try.prog 34 #[.slice A0 l0.length c0, .int .i64 a1, .int .i64 a2] w fun e w' => e = .returned (.tuple #[.int .i64 r1, .int .i64 r2, .int .i64 r3]) ∧ Drawn0 w w' := by
  have HR0 := Aside0.mk hr0
  have HC0 := Aside0.mk hc0
  clear hr0 hc0
  have H : (if a2 < 1 then (thalwegref01_Get.j0 k l0 a1 a2 true) else (if a2 > 7 then (thalwegref01_Get.j0 k l0 a1 a2 true) else (if a1 < 0 then (thalwegref01_Get.j0 k l0 a1 a2 true) else (thalwegref01_Get.j0 k l0 a1 a2 (decide (a1 > (l0.length : Int))))))) = some (r1, r2, r3) := h
  clear h
  have HC4 := Aside0.mk H
  clear H
  go_enter Try.func34, Try.ntmps34
  go_upto_region 1 with (fail)
  go_cut [26] (fun v26 wc => ∃ (kq : Nat) (x26_3 : Bool), v26 = .bool x26_3 ∧ Aside0 (thalwegref01_Get.j0 kq l0 a1 a2 x26_3 = some (r1, r2, r3)) ∧ Aside0 (kq ≤ k) ∧ Drawn0 w wc)
  case first =>
    have H := HC4.out
    clear HC4
    by_cases c5 : a2 < 1
    · rw [if_pos c5] at H
      have c5b0 : decide (a2 < 1) = true := decide_eq_true c5
      clear c5
      (first | rw [c5b0] | (simp only [i64_w, i32_w]; rw [c5b0]) | rw [c5b1] | skip)
      have H' := Aside0.mk H
      clear H
      go_wp2
      go_meet
      case rel => exact ⟨_, (true), (by first | rfl | (simp; done) | (simp [*]; done)), H', ⟨by first | omega | exact Nat.le_refl _⟩, by repeat (first | exact Drawn0.refl _ | apply Drawn0.step)⟩
    · rw [if_neg c5] at H
      have c5b0 : decide (a2 < 1) = false := decide_eq_false c5
      clear c5
      (first | rw [c5b0] | (simp only [i64_w, i32_w]; rw [c5b0]) | rw [c5b1] | skip)
      by_cases c6 : a2 > 7
      · rw [if_pos c6] at H
        have c6b0 : decide (7 < a2) = true := decide_eq_true c6
        clear c6
        have H' := Aside0.mk H
        clear H
        go_wp2
        go_meet
        case rel => exact ⟨_, (true), (by first | rfl | (simp; done) | (simp [*]; done)), H', ⟨by first | omega | exact Nat.le_refl _⟩, by repeat (first | exact Drawn0.refl _ | apply Drawn0.step)⟩
      · rw [if_neg c6] at H
        have c6b0 : decide (7 < a2) = false := decide_eq_false c6
        clear c6
        by_cases c7 : a1 < 0
        · rw [if_pos c7] at H
          have c7b0 : decide (a1 < 0) = true := decide_eq_true c7
          clear c7
          have H' := Aside0.mk H
          clear H
          go_wp2
          go_meet
          case rel => exact ⟨_, (true), (by first | rfl | (simp; done) | (simp [*]; done)), H', ⟨by first | omega | exact Nat.le_refl _⟩, by repeat (first | exact Drawn0.refl _ | apply Drawn0.step)⟩
        · rw [if_neg c7] at H
          have c7b0 : decide (a1 < 0) = false := decide_eq_false c7
          clear c7
          have H' := Aside0.mk H
          clear H
          go_wp2
          go_meet
          case rel => exact ⟨_, (decide (a1 > (l0.length : Int))), (by first | rfl | (simp; done) | (simp [*]; done)), H', ⟨by first | omega | exact Nat.le_refl _⟩, by repeat (first | exact Drawn0.refl _ | apply Drawn0.step)⟩
  case rest =>
    clear HC4
    try clear p2
    try clear c3
    try clear c5
    try clear c5b0
    try clear c6
    try clear c6b0
    try clear c7
    try clear c7b0
    obtain ⟨kq, x26_3, rfl, HA, HJ3, ⟨mc3, rfl⟩⟩ := hcut
    cases kq with
    | zero => exact absurd HA.out (by simp [thalwegref01_Get.j0])
    | succ kj3 =>
      have H := HA.out
      clear HA
      simp only [thalwegref01_Get.j0] at H
      by_cases c8 : x26_3 = true
      · subst c8
        have H1 : (some (0, 0, 1)) = some (r1, r2, r3) := by rw [if_pos rfl] at H; exact H
        clear H
        have H := H1
        clear H1
        simp only [Option.some.injEq, Prod.mk.injEq] at H
        obtain ⟨rfl, rfl, rfl⟩ := H
        go_wp2
        go_ret3
        exact ⟨by first | rfl | (simp; done) | (simp [*]; done), by repeat (first | exact Drawn0.refl _ | apply Drawn0.step)⟩
      · replace c8 := Bool.eq_false_iff.mpr c8
        subst c8
        have H1 : (if (wrap64 ((l0.length : Int) - a1)) < a2 then (some (0, 0, 6)) else (thalwegref01_Get.l0 kj3 l0 a1 a2 0 0)) = some (r1, r2, r3) := by rw [if_neg (show ¬ (false = true) by decide)] at H; exact H
        clear H
        have H := H1
        clear H1
        by_cases c9 : (wrap64 ((l0.length : Int) - a1)) < a2
        · rw [if_pos c9] at H
          have c9b0 : decide ((wrap64 ((l0.length : Int) - a1)) < a2) = true := decide_eq_true c9
          clear c9
          simp only [Option.some.injEq, Prod.mk.injEq] at H
          obtain ⟨rfl, rfl, rfl⟩ := H
          go_wp2
          go_ret3
          exact ⟨by first | rfl | (simp; done) | (simp [*]; done), by repeat (first | exact Drawn0.refl _ | apply Drawn0.step)⟩
        · rw [if_neg c9] at H
          have c9b0 : decide ((wrap64 ((l0.length : Int) - a1)) < a2) = false := decide_eq_false c9
          clear c9
          have H' := Aside0.mk H
          clear H
          go_wp2
          go_loopg [9, 10] kj3 (fun kq v9 v10 w' => ∃ (x9_2 : Int) (x10_2 : Int), v9 = .int .i64 x9_2 ∧ v10 = .int .i64 x10_2 ∧ Aside0 (thalwegref01_Get.l0 kq l0 a1 a2 x9_2 x10_2 = some (r1, r2, r3)) ∧ Aside0 (kq ≤ kj3) ∧ Drawn0 w w')
          case atStart => exact ⟨(0), (0), (by first | rfl | (simp; done) | (simp [*]; done)), (by first | rfl | (simp; done) | (simp [*]; done)), H', ⟨Nat.le_refl _⟩, by repeat (first | exact Drawn0.refl _ | apply Drawn0.step)⟩
          case round =>
            clear H'
            try clear p2
            try clear c3
            try clear c5
            try clear c5b0
            try clear c6
            try clear c6b0
            try clear p6
            try clear c7
            try clear c7b0
            try clear c8
            try clear c9
            try clear c9b0
            try clear p2
            obtain ⟨x9_2, x10_2, rfl, rfl, HA, HK2, ⟨m2, rfl⟩⟩ := hrel
            cases gk with
            | zero => exact absurd HA.out (by simp [thalwegref01_Get.l0])
            | succ k2 =>
              have H := HA.out
              clear HA
              simp only [thalwegref01_Get.l0] at H
              by_cases c10 : x10_2 < a2
              · rw [if_pos c10] at H
                have c10b0 : decide (x10_2 < a2) = true := decide_eq_true c10
                clear c10
                obtain ⟨ji11, hji11⟩ : ∃ j_ : Int, (wrap64 (a1 + x10_2)) = j_ := ⟨_, rfl⟩
                replace H : (if 0 ≤ (ji11) then (if (ji11) < (l0.length : Int) then (thalwegref01_Get.l0 k2 l0 a1 a2 (wrap64 ((wrap64 (256 * x9_2)) + (wrap64 (rd l0 (ji11))))) (wrap64 (x10_2 + 1))) else (none)) else (none)) = some (r1, r2, r3) := by first | (rw [hji11] at H; exact H) | (simp only [hji11] at H ⊢; exact H)
                have hji11w : (IntKind.i64.wrap (a1 + x10_2)) = ji11 := (i64_w _).trans hji11
                by_cases c12 : 0 ≤ (ji11)
                rotate_left
                · rw [if_neg c12] at H
                  exact absurd H (by simp)
                rw [if_pos c12] at H
                have c12b0 : decide (0 ≤ (ji11)) = true := decide_eq_true c12
                clear c12
                by_cases c13 : (ji11) < (l0.length : Int)
                rotate_left
                · rw [if_neg c13] at H
                  exact absurd H (by simp)
                rw [if_pos c13] at H
                have c13b0 : decide ((ji11) < (l0.length : Int)) = true := decide_eq_true c13
                clear c13
                have H' := Aside0.mk H
                clear H
                have p291 : 0 ≤ ((ji11) : Int) := of_decide_eq_true (by first | (with_reducible assumption) | assumption)
                have q291 : (ji11) < (l0.length : Int) := of_decide_eq_true (by first | (with_reducible assumption) | assumption)
                obtain ⟨ad291, e291, hx291_0⟩ := Kd.at_int HR0.out (ji11) p291 q291
                cases e291
                replace p291 := eq_true p291
                replace q291 := eq_true q291
                go_wp2
                go_roundg k2
                case measure => have := HJ3.out; have := HK2.out; omega
                case rel => exact ⟨(wrap64 ((wrap64 (256 * x9_2)) + (wrap64 (rd l0 (ji11))))), (wrap64 (x10_2 + 1)), (by first | rfl | (simp; done) | (simp only [← hji11] <;> (first | rfl | simp)) | (simp [*]; done)), (by first | rfl | (simp; done) | (simp [*]; done)), H', ⟨by have := HJ3.out; have := HK2.out; omega⟩, by repeat (first | exact Drawn0.refl _ | apply Drawn0.step)⟩
              · rw [if_neg c10] at H
                have c10b0 : decide (x10_2 < a2) = false := decide_eq_false c10
                clear c10
                simp only [Option.some.injEq, Prod.mk.injEq] at H
                obtain ⟨rfl, rfl, rfl⟩ := H
                go_wp2
                go_ret3
                exact ⟨by first | rfl | (simp; done) | (simp [*]; done), by repeat (first | exact Drawn0.refl _ | apply Drawn0.step)⟩
end Go.Proofs.Ytolfbnkdmafomaa.P
