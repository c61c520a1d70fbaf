/- wire.bytes, by hand: the n lowest bytes of a number, through an atomic word. -/
import Derived.Test.YtjeahmlahkngaaaP0
import Derived.Test.YtjeahmlahkngaaaEev
import Derived.Laws.LoneSync
namespace Go.Proofs.Ytjeahmlahkngaaa.P
open Go.RowKit Go.Proofs.YtjeahmlahkngaaaW.PrintWords Go.Proofs.YtjeahmlahkngaaaW.PrintLast Go.Proofs.YtjeahmlahkngaaaW.PrintMore
set_option linter.unusedVariables false
set_option linter.unusedSimpArgs false

def wire_bytes.f (v n : Int) : Option (List Int) := if 0 ≤ v ∧ 1 ≤ n ∧ n ≤ 8 then some (be n.toNat v) else none

theorem store_any (g : Nat) (u : Value) (v : Int) (w : World) (hb : w.heap[g]? = some (.cells #[u] 86 (0, 0))) :
    Calls Try.prog 48 #[.pointer (some ⟨g, 0, none⟩), .int .u64 v] w fun e w' => e = .returned (.tuple #[]) ∧ w.setCell ⟨g, 0, none⟩ (.int .u64 v) = w' := by
  have hc : w.cell? ⟨g, 0, none⟩ = some u := by rw [blk_cell hb]; rfl
  have hz : w.frozen? ⟨g, 0, none⟩ = false := blk_frozen hb 0
  have hst := fun y => run_call_store (P := Try.prog) Try.func51 (by kernel_rfl) (by kernel_rfl) (by kernel_rfl) (by kernel_rfl) (k := .u64) (y := y) hc hz
  clear hb
  go_enter Try.func48, Try.ntmps48
  go_wp2
  go_end0
  exact ⟨rfl, rfl⟩

theorem low_any (g : Nat) (v : Int) (w : World) (h0 : 0 ≤ v) (hb : w.heap[g]? = some (.cells #[.int .u64 v] 86 (0, 0))) :
    Calls Try.prog 49 #[.pointer (some ⟨g, 0, none⟩)] w fun e w' => e = .returned (.int .u8 (v % 256)) ∧ w.setCell ⟨g, 0, none⟩ (.int .u64 (v / 256)) = w' := by
  have hc : w.cell? ⟨g, 0, none⟩ = some (.int .u64 v) := by rw [blk_cell hb]; rfl
  have hz : w.frozen? ⟨g, 0, none⟩ = false := blk_frozen hb 0
  have hld := run_call_load (P := Try.prog) Try.func53 (by kernel_rfl) (by kernel_rfl) (by kernel_rfl) .u64 (by kernel_rfl) hc
  have hst := fun y => run_call_store (P := Try.prog) Try.func51 (by kernel_rfl) (by kernel_rfl) (by kernel_rfl) (by kernel_rfl) (k := .u64) (y := y) hc hz
  clear hb
  go_enter Try.func49, Try.ntmps49
  go_wp2
  go_end0
  go_wp2
  go_ret
  exact ⟨rfl, rfl⟩

set_option maxHeartbeats 2000000 in
set_option maxRecDepth 100000 in
theorem wire_bytes.calls (a0 : Int) (a1 : Int) (r : List Int) (w : World) (h : wire_bytes.f a0 a1 = some r) :
    Calls Try.prog 41 #[.int .u64 a0, .int .i64 a1] w fun e w' => ∃ v0_ : Value, e = .returned (v0_) ∧ Kd.R (Kd.int .u8) 5 w' w.heap.size (fun _ => True) v0_ r ∧ Below w.heap.size w w' := by
  have hh : (0 ≤ a0 ∧ 1 ≤ a1 ∧ a1 ≤ 8) ∧ be a1.toNat a0 = r := by
    unfold wire_bytes.f at h
    split at h
    · rename_i hc
      exact ⟨hc, Option.some.inj h⟩
    · exact absurd h (by simp)
  clear h
  obtain ⟨⟨h0, h1, h2⟩, rfl⟩ := hh
  obtain ⟨n, rfl⟩ := Int.eq_ofNat_of_zero_le (show 0 ≤ a1 by omega)
  have hp : 0 < n := by omega
  have h2' : n ≤ 8 := by omega
  clear h1 h2
  simp only [Int.toNat_natCast]
  have H0 := Aside0.mk h0
  clear h0
  have hn0 : (0 : Int) ≤ (n : Int) := by omega
  have hn1 : (n : Int) ≤ 8 := by omega
  go_enter Try.func41, Try.ntmps41
  go_wp2_with (((with_reducible refine gate_dst (N := 9) rfl ?_); refine box_event ?hg (N := 9) ?hd (cs := #[.int .u64 0]) (t := 86) ?hr ?_; (case hd => rfl); (case hg => rfl); (case hr => first | (go_simp; done) | (go_simp; rfl)); intro gb hgb w1 hbox hb1; have HBX := Aside0.mk hbox; have HB := Aside0.mk (Below.trans (Below.refl w.heap.size w) hb1); have HG := Aside0.mk (show w.heap.size ≤ gb by rw [hgb]; exact Nat.le_refl _); clear hbox hb1 hgb))
  refine (store_any gb _ a0 _ HBX.out).mono ?_
  rintro e w2 ⟨rfl, hw2⟩
  have HBX2 := Aside0.mk (show w2.heap[gb]? = some (.cells #[.int .u64 a0] 86 (0, 0)) by rw [← hw2]; exact blk_put HBX.out 0 _ rfl)
  have HB2 := Aside0.mk (show Below w.heap.size w w2 by rw [← hw2]; exact below_set HB.out HG.out)
  clear hw2 HBX HB
  go_wp2_with (((with_reducible refine gate_dst (N := 16) rfl ?_); refine Kd.R_make (Kd.int .u8) _ 5 rfl (N := 16) rfl 29 _ _ rfl (n : Int) rfl rfl Try.underlying29 (.int .u8 0) 1 info5 rfl (by decide) (by omega) 0 (ok := fun k => k ≠ gb) (okp := fun _ => False) rfl (fun _ hk => hk.elim) (fun he => absurd (blk_lt HBX2.out) (by rw [← he]; exact Nat.lt_irrefl _)) (by omega) (by simp only [Int.toNat_natCast]; omega) (Below.refl _ _) (Nat.le_refl _) ?_; intro v3 w3 ho hb3 hg3 hnew; clear hnew; simp only [Int.toNat_natCast] at ho; obtain ⟨gs, cs, hv3, hgs, hls, hcs⟩ := Kd.R_form ho (by rw [List.length_replicate]; exact hp); rw [List.length_replicate] at hv3; clear hls hcs; rw [hv3] at ho ⊢; clear hv3; have HO := Aside0.mk (Kd.R_lower ho HB2.out.size); have HBX3 := Aside0.mk (blk_grown HBX2.out hg3 (by simp)); have HB3 := Aside0.mk (below_step HB2.out hb3); have HGS := Aside0.mk (Nat.le_trans HB2.out.size hgs); have HNE := Aside0.mk (show gs ≠ gb from ho.1 gs (by simp [Value.ownBlock])); clear ho hb3 hgs hg3 HBX2 HB2))
  go_loopg [19] n (fun kq v19 wr => ∃ (i : Nat), v19 = .int .i64 i ∧ Aside0 (i + kq = n) ∧ Aside0 (Kd.R (Kd.int .u8) 5 wr w.heap.size (fun k => k ≠ gb) (.slice (some ⟨gs, 0, none⟩) n cs) (List.replicate (n - i) 0 ++ be i a0)) ∧ Aside0 (wr.heap[gb]? = some (.cells #[.int .u64 (a0 / 256 ^ i)] 86 (0, 0))) ∧ Aside0 (Below w.heap.size w wr))
  case atStart => exact ⟨0, rfl, ⟨by omega⟩, ⟨by simpa [be] using HO.out⟩, ⟨by simpa using HBX3.out⟩, HB3⟩
  case round =>
    clear HO HBX3 HB3
    obtain ⟨i, rfl, HI, HO, HBX, HB⟩ := hrel
    cases gk with
    | zero =>
      have hi : i = n := by have := HI.out; omega
      subst hi
      go_wp2
      go_ret
      refine ⟨_, rfl, ?_, HB.out⟩
      have h := HO.out
      rw [Nat.sub_self, List.replicate_zero, List.nil_append] at h
      exact Kd.R_mono h (fun _ _ => trivial)
    | succ k1 =>
      have hlt : i < n := by have := HI.out; omega
      have hi0 : (0 : Int) ≤ (n : Int) - 1 - (i : Int) := by omega
      have hi1 : (n : Int) - 1 - (i : Int) < (n : Int) := by omega
      have hs1 : (0 : Int) ≤ (n : Int) - 1 := by omega
      have hb0 : (0 : Int) ≤ (i : Int) := by omega
      have HA0 := Aside0.mk (show 0 ≤ a0 / 256 ^ i from Int.ediv_nonneg H0.out (by exact Int.pow_nonneg (by decide)))
      go_wp2_with (go_at_call 49; (refine (low_any gb (a0 / 256 ^ i) _ HA0.out HBX.out).mono ?_); rintro e w4 ⟨rfl, hw4⟩; have HBX4 := Aside0.mk (show w4.heap[gb]? = some (.cells #[.int .u64 (a0 / 256 ^ i / 256)] 86 (0, 0)) by rw [← hw4]; exact blk_put HBX.out 0 _ rfl); have HB4 := Aside0.mk (show Below w.heap.size w w4 by rw [← hw4]; exact below_set HB.out HG.out); have HO4 := Aside0.mk (show Kd.R (Kd.int .u8) 5 w4 w.heap.size (fun k => k ≠ gb) (.slice (some ⟨gs, 0, none⟩) n cs) (List.replicate (n - i) 0 ++ be i a0) by rw [← hw4]; exact Kd.R_far HO.out (fun _ hk => hk) _); clear hw4; obtain ⟨hx4, hf4⟩ := Kd.R_celln 0 HO4.out ((n - 1 - i : Nat) : Int) (by omega) (by omega); simp only [Int.toNat_natCast] at hx4 hf4)
      go_roundg k1
      case measure => omega
      case rel =>
        have hp4 := (Kd.R_putg HO4.out ((n - 1 - i : Nat) : Int) (a0 / 256 ^ i % 256)).1
        simp only [Int.toNat_natCast] at hp4
        refine ⟨i + 1, by simp, ⟨by have := HI.out; omega⟩, ⟨?_⟩, ⟨?_⟩, ⟨below_set HB4.out HGS.out⟩⟩
        · rw [show n - i = (n - 1 - i) + 1 by omega, be_set, show n - 1 - i = n - (i + 1) by omega] at hp4
          rw [be_cons, show n - 1 - i = n - (i + 1) by omega]
          exact hp4
        · rw [Int.pow_succ, ← Int.ediv_ediv_of_nonneg (Int.pow_nonneg (by decide))]
          exact blk_far HBX4.out (fun e => HNE.out e.symm) _

/-- wire.number, by hand. -/
def wire_number.f (l : List Int) (a n : Int) : Option (Int × Int × Int) := if l.length ≤ 1000000000000 ∧ 0 ≤ n ∧ n ≤ 8 ∧ ∀ x ∈ l, 0 ≤ x ∧ x ≤ 255 then some (numSpec l a n) else none
theorem number_mid (t e : Nat) {P : Program} (ht : P.underlying t = some (.slice e)) {z : Value} (hinfo : (P.info? e).map (fun i => (i.zero, i.size, i.bytes)) = some (some z, 1, 1)) (A : Option Addr) (c : Nat) (l : List Int) (a : Int) (n : Nat) (h0 : 0 ≤ a) (h1 : a + n ≤ l.length) (hc : l.length ≤ c) (w : World) (hr : Kd.C (Kd.int .u8) w A l.length l) :
    ∃ A1, (∀ W : World, (Instr.slice t (.slice A l.length c) (some (.int .i64 a)) (some (.int .i64 (a + n))) none).run P W = .ok (.slice A1 n (c - a.toNat)) W) ∧ Kd.C (Kd.int .u8) w A1 n ((l.drop a.toNat).take n) := by
  obtain ⟨i0, hi, _, hs, _⟩ := info_parts hinfo
  obtain ⟨A1, hcut, hA, hC⟩ := print_mid_of (P := P) (Value.int .u8) 0 t e .i64 .i64 ht hi hs A c l a (a + n) h0 (by omega) h1 hc
  have hm : (l.take (a + n).toNat).drop a.toNat = (l.drop a.toNat).take n := by rw [List.drop_take, show (a + n).toNat - a.toNat = n by omega]
  have hl : ((l.drop a.toNat).take n).length = n := by rw [List.length_take, List.length_drop]; omega
  rw [hm] at hcut hA
  rw [hl] at hcut hA
  exact ⟨A1, hcut, Kd.C_of_reads (h1 := fun _ => rfl) (hA w (Kd.reads_of_C hr))⟩
set_option maxHeartbeats 2000000 in
set_option maxRecDepth 100000 in
theorem wire_number.drawn (A0 : Option Addr) (c0 : Nat) (l0 : List Int) (a1 : Int) (a2 : Int) (r1 : Int) (r2 : Int) (r3 : Int) (w : World) (hr0 : Kd.C (Kd.int .u8) w A0 l0.length l0) (hc0 : l0.length ≤ c0) (h : wire_number.f l0 a1 a2 = some (r1, r2, r3)) :
    Calls Try.prog 50 #[.slice A0 l0.length c0, .int .i64 a1, .int .i64 a2] w fun e w' => e = .returned (.tuple #[.int .u64 r1, .int .i64 r2, .int .i64 r3]) ∧ Drawn0 w w' := by
  obtain ⟨hl, hn0, hn8, hB, hs⟩ : l0.length ≤ 1000000000000 ∧ 0 ≤ a2 ∧ a2 ≤ 8 ∧ Bytes l0 ∧ numSpec l0 a1 a2 = (r1, r2, r3) := by
    unfold wire_number.f at h
    split at h
    · rename_i hc
      exact ⟨hc.1, hc.2.1, hc.2.2.1, hc.2.2.2, Option.some.inj h⟩
    · exact absurd h (by simp)
  clear h
  have HL := Aside0.mk hl
  have HB := Aside0.mk hB
  clear hl hB
  by_cases c1 : a1 < 0
  · rw [numSpec, if_pos (.inl c1)] at hs
    simp only [Prod.mk.injEq] at hs
    obtain ⟨rfl, rfl, rfl⟩ := hs
    have b1 : decide (a1 < 0) = true := decide_eq_true c1
    clear hn0 hn8
    go_enter Try.func50, Try.ntmps50
    go_wp2
    go_ret3
    exact ⟨rfl, Drawn0.refl _⟩
  have b1 : decide (a1 < 0) = false := decide_eq_false c1
  by_cases c2 : (l0.length : Int) < a1
  · rw [numSpec, if_pos (.inr c2)] at hs
    simp only [Prod.mk.injEq] at hs
    obtain ⟨rfl, rfl, rfl⟩ := hs
    have b2 : decide ((l0.length : Int) < a1) = true := decide_eq_true c2
    clear hn0 hn8 c1
    go_enter Try.func50, Try.ntmps50
    go_wp2
    go_ret3
    exact ⟨rfl, Drawn0.refl _⟩
  have b2 : decide ((l0.length : Int) < a1) = false := decide_eq_false c2
  rw [numSpec, if_neg (by omega)] at hs
  have hll := HL.out
  have d0 : 0 ≤ (l0.length : Int) - a1 := by omega
  have d1 : (l0.length : Int) - a1 ≤ 1000000000000 := by omega
  by_cases c3 : (l0.length : Int) - a1 < a2
  · rw [if_pos c3] at hs
    simp only [Prod.mk.injEq] at hs
    obtain ⟨rfl, rfl, rfl⟩ := hs
    have b3 : decide ((l0.length : Int) - a1 < a2) = true := decide_eq_true c3
    go_enter Try.func50, Try.ntmps50
    go_wp2
    go_ret3
    exact ⟨rfl, Drawn0.refl _⟩
  have b3 : decide ((l0.length : Int) - a1 < a2) = false := decide_eq_false c3
  rw [if_neg c3] at hs
  simp only [Prod.mk.injEq] at hs
  obtain ⟨rfl, rfl, rfl⟩ := hs
  obtain ⟨n, rfl⟩ := Int.eq_ofNat_of_zero_le hn0
  simp only [Int.toNat_natCast]
  obtain ⟨A1, hcut, hC⟩ := number_mid 29 5 Try.underlying29 info5 A0 c0 l0 a1 n (by omega) (by omega) hc0 w hr0
  obtain ⟨m, hm⟩ : ∃ m, m = (l0.drop a1.toNat).take n := ⟨_, rfl⟩
  rw [← hm] at hC ⊢
  have HM := Aside0.mk (show m.length = n ∧ Bytes m by rw [hm]; exact ⟨by rw [List.length_take, List.length_drop]; omega, (HB.out.drop _).take _⟩)
  have HC := Aside0.mk hC
  have s0 : 0 ≤ a1 + (n : Int) := by omega
  have s1 : a1 + (n : Int) ≤ 2000000000000 := by omega
  have s2 : (n : Int) ≤ 8 := by omega
  clear hm hC hr0 hc0 HB hll hn0 c3 c1 c2 HL
  go_enter Try.func50, Try.ntmps50
  go_wp2
  clear d0 d1 b1 b2 b3 hcut
  go_loopg [9, 35] n (fun kq v9 v35 w' => ∃ (i : Nat), v9 = .int .u64 (bev (m.take i)) ∧ v35 = .int .i64 i ∧ Aside0 (i + kq = n) ∧ Drawn0 w w')
  case atStart => exact ⟨0, by simp [bev_nil], by simp, ⟨by omega⟩, Drawn0.refl _⟩
  case round =>
    obtain ⟨i, rfl, rfl, HI, ⟨nd, rfl⟩⟩ := hrel
    cases gk with
    | zero =>
      have hi : i = n := by have := HI.out; omega
      subst hi
      go_wp2
      go_ret3
      refine ⟨?_, by repeat (first | exact Drawn0.refl _ | apply Drawn0.step)⟩
      rw [List.take_of_length_le (by rw [HM.out.1]; exact Nat.le_refl _)]
      rfl
    | succ k1 =>
      have hlt : i < n := by have := HI.out; omega
      obtain ⟨ad, hA, hcell⟩ := Kd.at_int HC.out (i : Int) (by omega) (by omega)
      cases hA
      simp only [Int.toNat_natCast] at hcell
      go_wp2
      go_roundg k1
      case measure => omega
      case rel =>
        have hr := bev_range (m.take i) (HM.out.2.take i)
        have hb := rd_byte m HM.out.2 i
        have hml := HM.out.1
        have hp : (256 : Int) ^ (m.take i).length ≤ 256 ^ 7 := pow256_le _ _ (by rw [List.length_take]; omega)
        have h7 : (256 : Int) ^ 7 = 72057594037927936 := by decide
        refine ⟨i + 1, ?_, by simp, ⟨by have := HI.out; omega⟩, by repeat (first | exact Drawn0.refl _ | apply Drawn0.step)⟩
        rw [or_byte _ _ hr.1 (by omega) hb.1 hb.2, ← take_bev m i (by omega)]
theorem wire_number.calls (A0 : Option Addr) (c0 : Nat) (l0 : List Int) (a1 : Int) (a2 : Int) (r1 : Int) (r2 : Int) (r3 : Int) (w : World) (hr0 : Kd.C (Kd.int .u8) w A0 l0.length l0) (hc0 : l0.length ≤ c0) (h : wire_number.f l0 a1 a2 = some (r1, r2, r3)) :
    Calls Try.prog 50 #[.slice A0 l0.length c0, .int .i64 a1, .int .i64 a2] w fun e w' => e = .returned (.tuple #[.int .u64 r1, .int .i64 r2, .int .i64 r3]) ∧ Below w.heap.size w w' :=
  (wire_number.drawn A0 c0 l0 a1 a2 r1 r2 r3 w hr0 hc0 h).mono fun _ _ ⟨he, hd⟩ => ⟨he, hd.below⟩
end Go.Proofs.Ytjeahmlahkngaaa.P
