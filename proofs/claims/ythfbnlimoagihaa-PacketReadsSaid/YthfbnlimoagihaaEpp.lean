/- packet.Parse, by hand: the walk. -/
import Derived.Test.YthfbnlimoagihaaEpk
namespace Go.Proofs.Ythfbnlimoagihaa.P
set_option linter.unusedSimpArgs false
set_option linter.unusedVariables false
open Go.RowKit Go.Proofs.YthfbnlimoagihaaW.PrintWords Go.Proofs.YthfbnlimoagihaaW.PrintLast Go.Proofs.YthfbnlimoagihaaW.PrintMore
attribute [local go_sem] max2_int min2_int max_two min_two max_three min_three max_four min_four
def packet_Parse.T18 : Bool × List (List Nat × List Nat) := (true, [([], []), ([], []), ([], []), ([1, 2], [1, 2]), ([0, 0], [0]), ([3, 4, 0, 1, 2, 3, 4], [3]), ([5, 0, 1, 2, 3, 4, 5], [])])
def packet_Parse.B18 : List Nat := [0, 0, 0, 6, 1, 31, 63]
theorem packet_Parse.tab18 : rtab .any (opsOf Try.f15 18) = packet_Parse.T18 := by kernel_rfl
theorem packet_Parse.bits18 : waitsOk packet_Parse.T18.2 packet_Parse.B18 = true := by kernel_rfl
set_option maxHeartbeats 8000000 in
set_option maxRecDepth 100000 in
theorem packet_Parse.calls (A0 : Option Addr) (c0 : Nat) (l0 : List Int) (a1 : Int) (r1 r2 r3 r4 : Int) (r5 : ByteArray) (r6 r7 : Int) (w : World) (hr0 : Kd.C (Kd.int .u8) w A0 l0.length l0) (hc0 : l0.length ≤ c0) (h : packet_Parse.f l0 a1 = some (r1, r2, r3, r4, r5, r6, r7)) :
    Calls Try.prog 15 #[.slice A0 l0.length c0, .int .i64 a1] w fun e w' => e = .returned (.tuple #[.agg #[.int .i64 r1, .int .i64 r2, .int .i64 r3, .int .i64 r4, .string r5], .int .i64 r6, .int .i64 r7]) ∧ Below w.heap.size w w' := by
  have hu23 := Try.underlying23
  have hu44 := Try.underlying44
  obtain ⟨hL0, hB0, hP⟩ : l0.length ≤ 1000000000000 ∧ Bytes l0 ∧ pkGo l0 5 (0, 0, 0, 0, 0) a1 = (r1, r2, r3, r4, r5, r6, r7) := by
    unfold packet_Parse.f at h
    split at h
    · rename_i hc
      exact ⟨hc.1, hc.2, Option.some.inj h⟩
    · exact absurd h (by simp)
  have HL := Aside0.mk hL0
  have HY := Aside0.mk hB0
  have HP := Aside0.mk hP
  have HR0 := Aside0.mk hr0
  have HC0 := Aside0.mk hc0
  clear h hL0 hB0 hP hr0 hc0
  have HB := Aside0.mk (Below.refl w.heap.size w)
  go_enter Try.func15, Try.ntmps15
  go_wp2_with (first
    | ((with_reducible refine gate_dst (N := 4) rfl ?_); refine box_event ?hg (N := 4) ?hd (cs := #[.int .i64 0, .int .i64 0, .int .i64 0, .int .i64 0, .string (⟨#[]⟩ : ByteArray)]) (t := 23) ?hr ?_; (case hd => rfl); (case hg => rfl); (case hr => first | (go_simp; done) | (go_simp; rfl)); intro g4 hg w4 hbox hb; have n0_ := Aside0.mk (below_step HB.out hb); have B4 := Aside0.mk hbox; have G4 := Aside0.mk (show w.heap.size ≤ g4 by rw [hg]; exact Nat.le_refl _); clear HB; have HB := n0_; clear n0_ hb hbox hg)
    | ((with_reducible refine gate_dst (N := 7) rfl ?_); refine box_event ?hg (N := 7) ?hd (cs := #[.int .i64 0, .int .i64 0, .int .i64 0, .int .i64 0, .string (⟨#[]⟩ : ByteArray)]) (t := 23) ?hr ?_; (case hd => rfl); (case hg => rfl); (case hr => first | (go_simp; done) | (go_simp; rfl)); intro g7 hg w7 hbox hb; have NE47 := Aside0.mk (show g4 ≠ g7 by rw [hg]; exact Nat.ne_of_lt (blk_lt B4.out)); have n1_ := Aside0.mk (blk_below B4.out hb); have G7 := Aside0.mk (show w.heap.size ≤ g7 by rw [hg]; exact below_size HB.out); have n0_ := Aside0.mk (below_step HB.out hb); have B7 := Aside0.mk hbox; clear HB B4; have HB := n0_; have B4 := n1_; clear n0_ n1_ hb hbox hg; have z0 : w7.cell? ⟨g7, 0, none⟩ = some (.int .i64 0) := (blk_cell B7.out 0).trans rfl; have z1 : w7.cell? ⟨g7, 1, none⟩ = some (.int .i64 0) := (blk_cell B7.out 1).trans rfl; have z2 : w7.cell? ⟨g7, 2, none⟩ = some (.int .i64 0) := (blk_cell B7.out 2).trans rfl; have z3 : w7.cell? ⟨g7, 3, none⟩ = some (.int .i64 0) := (blk_cell B7.out 3).trans rfl; have z4 : w7.cell? ⟨g7, 4, none⟩ = some (.string (⟨#[]⟩ : ByteArray)) := (blk_cell B7.out 4).trans rfl; have y0 := blk_frozen B7.out 0; have y1 := blk_frozen B7.out 1; have y2 := blk_frozen B7.out 2; have y3 := blk_frozen B7.out 3; have y4 := blk_frozen B7.out 4)
    | ((with_reducible refine gate_dst (N := 8) rfl ?_); refine box_event ?hg (N := 8) ?hd (cs := #[.int .i64 0]) (t := 3) ?hr ?_; (case hd => rfl); (case hg => rfl); (case hr => first | (go_simp; done) | (go_simp; rfl)); intro g8 hg w8 hbox hb; have G8 := Aside0.mk (show w.heap.size ≤ g8 by rw [hg]; exact below_size (by repeat (first | exact HB.out | refine below_set ?_ G7.out))); have n0_ := Aside0.mk (below_step (by repeat (first | exact HB.out | refine below_set ?_ G7.out)) hb); have n1_ := Aside0.mk (blk_below (g := g4) (o := .cells #[.int .i64 0, .int .i64 0, .int .i64 0, .int .i64 0, .string (⟨#[]⟩ : ByteArray)] 23 (0, 0)) (by repeat (first | exact B4.out | refine blk_far ?_ NE47.out _)) hb); have n2_ := Aside0.mk (blk_below (g := g7) (o := .cells #[.int .i64 0, .int .i64 0, .int .i64 0, .int .i64 0, .string (⟨#[]⟩ : ByteArray)] 23 (0, 0)) (by refine blk_put (cs := #[.int .i64 0, .int .i64 0, .int .i64 0, .int .i64 0, .string (⟨#[]⟩ : ByteArray)]) ?_ 4 _ rfl; refine blk_put (cs := #[.int .i64 0, .int .i64 0, .int .i64 0, .int .i64 0, .string (⟨#[]⟩ : ByteArray)]) ?_ 3 _ rfl; refine blk_put (cs := #[.int .i64 0, .int .i64 0, .int .i64 0, .int .i64 0, .string (⟨#[]⟩ : ByteArray)]) ?_ 2 _ rfl; refine blk_put (cs := #[.int .i64 0, .int .i64 0, .int .i64 0, .int .i64 0, .string (⟨#[]⟩ : ByteArray)]) ?_ 1 _ rfl; refine blk_put (cs := #[.int .i64 0, .int .i64 0, .int .i64 0, .int .i64 0, .string (⟨#[]⟩ : ByteArray)]) ?_ 0 _ rfl; exact B7.out) hb); have B8 := Aside0.mk hbox; clear HB B4 B7; have HB := n0_; have B4 := n1_; have B7 := n2_; clear n0_ n1_ n2_ hb hbox hg; have NE78 := Aside0.mk (blk_ne B7.out B8.out (by decide)); have NE48 := Aside0.mk (blk_ne B4.out B8.out (by decide)); have x0 : w8.cell? ⟨g8, 0, none⟩ = some (.int .i64 0) := (blk_cell B8.out 0).trans rfl; have xf := blk_frozen B8.out 0)
    | ((with_reducible refine gate_dst (N := 24) rfl ?_); refine lit_event ?hg (N := 24) ?hd (cs := #[.pointer (some ⟨g7, 0, none⟩), .int .i64 1, .pointer (some ⟨g7, 1, none⟩), .int .i64 1, .pointer (some ⟨g7, 2, none⟩), .int .i64 1, .pointer (some ⟨g7, 3, none⟩), .int .i64 2, .pointer (some ⟨g8, 0, none⟩), .int .i64 2]) (t := 44) (n := 5) ?hr ?_; (case hd => rfl); (case hg => rfl); (case hr => first | (go_simp; done) | (go_simp; rfl)); intro ga hg ad had w9 hbox hb; have n0_ := Aside0.mk (below_step (by repeat (first | exact HB.out | refine below_set ?_ G8.out)) hb); have n1_ := Aside0.mk (blk_below (g := g4) (o := .cells #[.int .i64 0, .int .i64 0, .int .i64 0, .int .i64 0, .string (⟨#[]⟩ : ByteArray)] 23 (0, 0)) (by repeat (first | exact B4.out | refine blk_far ?_ NE48.out _)) hb); have n2_ := Aside0.mk (blk_below (g := g7) (o := .cells #[.int .i64 0, .int .i64 0, .int .i64 0, .int .i64 0, .string (⟨#[]⟩ : ByteArray)] 23 (0, 0)) (by repeat (first | exact B7.out | refine blk_far ?_ NE78.out _)) hb); have n3_ := Aside0.mk (blk_below (g := g8) (o := .cells #[.int .i64 0] 3 (0, 0)) (by refine blk_put (cs := #[.int .i64 0]) ?_ 0 _ rfl; exact B8.out) hb); have BA := Aside0.mk hbox; have HAD := Aside0.mk had; clear HB B4 B7 B8; have HB := n0_; have B4 := n1_; have B7 := n2_; have B8 := n3_; clear n0_ n1_ n2_ n3_ hb hbox hg had z0 z1 z2 z3 z4 y0 y1 y2 y3 y4 x0 xf))
  go_loopg [1, 26] 5 (fun kq v1 v26 w' => ∃ (x : X5) (at_ i : Int), v1 = .int .i64 at_ ∧ v26 = .int .i64 i ∧ Aside0 (0 ≤ i ∧ i + kq = 5) ∧ Aside0 (pkGo l0 kq x at_ = (r1, r2, r3, r4, r5, r6, r7)) ∧ Aside0 (0 ≤ x.2.2.2.2 ∧ x.2.2.2.2 ≤ 65535) ∧ Aside0 (kq < 5 → 0 ≤ at_ ∧ at_ ≤ l0.length) ∧ Aside0 (w'.heap[g4]? = some (.cells #[.int .i64 0, .int .i64 0, .int .i64 0, .int .i64 0, .string (⟨#[]⟩ : ByteArray)] 23 (0, 0))) ∧ Aside0 (w'.heap[g7]? = some (.cells (C5 x) 23 (0, 0))) ∧ Aside0 (w'.heap[g8]? = some (.cells #[.int .i64 x.2.2.2.2] 3 (0, 0))) ∧ Aside0 (w'.heap[ga]? = some (.cells (LitC g7 g8) 44 (0, 0))) ∧ Aside0 (Below w.heap.size w w'))
  case atStart => exact ⟨(0, 0, 0, 0, 0), a1, 0, rfl, rfl, ⟨by omega⟩, HP, ⟨by decide⟩, ⟨fun h => absurd h (by omega)⟩, B4, B7, B8, BA, HB⟩
  case round =>
    clear HP B4 B7 B8 BA HB
    obtain ⟨x, at_, i, rfl, rfl, HI, HP, HX, HA, B4, B7, B8, BA, HB⟩ := hrel
    cases gk with
    | zero =>
      obtain ⟨x0, x1, x2, x3, x4⟩ := x
      dsimp only [C5] at HP HX B7 B8
      have hp := HP.out
      simp only [pkGo, pkFin] at hp
      obtain ⟨ha0, ha1⟩ := HA.out (by omega)
      obtain ⟨hx0, hx1⟩ := HX.out
      have hll := HL.out
      obtain rfl : i = 5 := by have := HI.out; omega
      have cc0 := (blk_cell B8.out 0).trans (show (#[Value.int .i64 x4] : Array Value)[0]? = some (Value.int .i64 x4) from rfl)
      have ccf0 := blk_frozen B8.out 0
      have k0 := (blk_cell B4.out 0).trans (show (#[Value.int .i64 0, Value.int .i64 0, Value.int .i64 0, Value.int .i64 0, Value.string (⟨#[]⟩ : ByteArray)] : Array Value)[0]? = some (Value.int .i64 0) from rfl)
      have k1 := (blk_cell B4.out 1).trans (show (#[Value.int .i64 0, Value.int .i64 0, Value.int .i64 0, Value.int .i64 0, Value.string (⟨#[]⟩ : ByteArray)] : Array Value)[1]? = some (Value.int .i64 0) from rfl)
      have k2 := (blk_cell B4.out 2).trans (show (#[Value.int .i64 0, Value.int .i64 0, Value.int .i64 0, Value.int .i64 0, Value.string (⟨#[]⟩ : ByteArray)] : Array Value)[2]? = some (Value.int .i64 0) from rfl)
      have k3 := (blk_cell B4.out 3).trans (show (#[Value.int .i64 0, Value.int .i64 0, Value.int .i64 0, Value.int .i64 0, Value.string (⟨#[]⟩ : ByteArray)] : Array Value)[3]? = some (Value.int .i64 0) from rfl)
      have k4 := (blk_cell B4.out 4).trans (show (#[Value.int .i64 0, Value.int .i64 0, Value.int .i64 0, Value.int .i64 0, Value.string (⟨#[]⟩ : ByteArray)] : Array Value)[4]? = some (Value.string (⟨#[]⟩ : ByteArray)) from rfl)
      have kf0 := blk_frozen B4.out 0
      have kf1 := blk_frozen B4.out 1
      have kf2 := blk_frozen B4.out 2
      have kf3 := blk_frozen B4.out 3
      have kf4 := blk_frozen B4.out 4
      clear HA HX HI HP
      by_cases c1 : 256 < x4
      · rw [if_pos c1] at hp
        have b1 : decide (256 < x4) = true := decide_eq_true c1
        simp only [pkNo, Prod.mk.injEq] at hp
        obtain ⟨rfl, rfl, rfl, rfl, rfl, rfl, rfl⟩ := hp
        clear c1
        go_wp2
        refine bodyPost_ret (results_ctt rfl _ _ g4 23 #[.int .i64 0, .int .i64 0, .int .i64 0, .int .i64 0, .string (⟨#[]⟩ : ByteArray)] (0, 0) _ rfl (by refine blk_put (cs := #[.int .i64 0, .int .i64 0, .int .i64 0, .int .i64 0, .string (⟨#[]⟩ : ByteArray)]) ?_ 4 _ rfl; refine blk_put (cs := #[.int .i64 0, .int .i64 0, .int .i64 0, .int .i64 0, .string (⟨#[]⟩ : ByteArray)]) ?_ 3 _ rfl; refine blk_put (cs := #[.int .i64 0, .int .i64 0, .int .i64 0, .int .i64 0, .string (⟨#[]⟩ : ByteArray)]) ?_ 2 _ rfl; refine blk_put (cs := #[.int .i64 0, .int .i64 0, .int .i64 0, .int .i64 0, .string (⟨#[]⟩ : ByteArray)]) ?_ 1 _ rfl; refine blk_put (cs := #[.int .i64 0, .int .i64 0, .int .i64 0, .int .i64 0, .string (⟨#[]⟩ : ByteArray)]) ?_ 0 _ rfl; exact B4.out) Try.underlying23 rfl (by kernel_rfl)) rfl ?_
        exact ⟨rfl, by repeat (first | exact HB.out | refine below_set ?_ G4.out)⟩
      rw [if_neg c1] at hp
      have b1 : decide (256 < x4) = false := decide_eq_false c1
      have d0 : 0 ≤ (l0.length : Int) - at_ := by omega
      have d1 : (l0.length : Int) - at_ ≤ 1000000000000 := by omega
      by_cases c2 : (l0.length : Int) - at_ < x4
      · rw [if_pos c2] at hp
        have b2 : decide ((l0.length : Int) - at_ < x4) = true := decide_eq_true c2
        simp only [pkNo, Prod.mk.injEq] at hp
        obtain ⟨rfl, rfl, rfl, rfl, rfl, rfl, rfl⟩ := hp
        clear c1 c2
        go_wp2
        refine bodyPost_ret (results_ctt rfl _ _ g4 23 #[.int .i64 0, .int .i64 0, .int .i64 0, .int .i64 0, .string (⟨#[]⟩ : ByteArray)] (0, 0) _ rfl (by refine blk_put (cs := #[.int .i64 0, .int .i64 0, .int .i64 0, .int .i64 0, .string (⟨#[]⟩ : ByteArray)]) ?_ 4 _ rfl; refine blk_put (cs := #[.int .i64 0, .int .i64 0, .int .i64 0, .int .i64 0, .string (⟨#[]⟩ : ByteArray)]) ?_ 3 _ rfl; refine blk_put (cs := #[.int .i64 0, .int .i64 0, .int .i64 0, .int .i64 0, .string (⟨#[]⟩ : ByteArray)]) ?_ 2 _ rfl; refine blk_put (cs := #[.int .i64 0, .int .i64 0, .int .i64 0, .int .i64 0, .string (⟨#[]⟩ : ByteArray)]) ?_ 1 _ rfl; refine blk_put (cs := #[.int .i64 0, .int .i64 0, .int .i64 0, .int .i64 0, .string (⟨#[]⟩ : ByteArray)]) ?_ 0 _ rfl; exact B4.out) Try.underlying23 rfl (by kernel_rfl)) rfl ?_
        exact ⟨rfl, by repeat (first | exact HB.out | refine below_set ?_ G4.out)⟩
      rw [if_neg c2] at hp
      have b2 : decide ((l0.length : Int) - at_ < x4) = false := decide_eq_false c2
      obtain ⟨m, rfl⟩ := Int.eq_ofNat_of_zero_le hx0
      obtain ⟨A1, hcut, hC⟩ := number_mid 24 5 Try.underlying24 info5 A0 c0 l0 at_ m (by omega) (by omega) HC0.out _ (Kd.C_below HR0.out HB.out)
      have hcv := Kd.C_string (P := Try.prog) (A := A1) (c := c0 - at_.toNat) Try.underlying24 Try.underlying5 Try.underlying9 hC
      rw [show pkData l0 at_ (m : Int) = strOfNums ((l0.drop at_.toNat).take m) by unfold pkData; rw [Int.toNat_natCast]] at hp
      obtain ⟨s, hs⟩ : ∃ s, s = strOfNums ((l0.drop at_.toNat).take m) := ⟨_, rfl⟩
      rw [← hs] at hp hcv
      clear hs hC
      have s0 : 0 ≤ at_ + (m : Int) := by omega
      have s1 : at_ + (m : Int) ≤ 2000000000000 := by omega
      have hpc := pc_eq x0 x1 x2 x3 s
      have z0 := (blk_cell B7.out 0).trans (show (#[Value.int .i64 x0, Value.int .i64 x1, Value.int .i64 x2, Value.int .i64 x3, Value.string (⟨#[]⟩ : ByteArray)] : Array Value)[0]? = some (Value.int .i64 x0) from rfl)
      have z1 := (blk_cell B7.out 1).trans (show (#[Value.int .i64 x0, Value.int .i64 x1, Value.int .i64 x2, Value.int .i64 x3, Value.string (⟨#[]⟩ : ByteArray)] : Array Value)[1]? = some (Value.int .i64 x1) from rfl)
      have z2 := (blk_cell B7.out 2).trans (show (#[Value.int .i64 x0, Value.int .i64 x1, Value.int .i64 x2, Value.int .i64 x3, Value.string (⟨#[]⟩ : ByteArray)] : Array Value)[2]? = some (Value.int .i64 x2) from rfl)
      have z3 := (blk_cell B7.out 3).trans (show (#[Value.int .i64 x0, Value.int .i64 x1, Value.int .i64 x2, Value.int .i64 x3, Value.string (⟨#[]⟩ : ByteArray)] : Array Value)[3]? = some (Value.int .i64 x3) from rfl)
      have z4 := (blk_cell B7.out 4).trans (show (#[Value.int .i64 x0, Value.int .i64 x1, Value.int .i64 x2, Value.int .i64 x3, Value.string (⟨#[]⟩ : ByteArray)] : Array Value)[4]? = some (Value.string (⟨#[]⟩ : ByteArray)) from rfl)
      have zf0 := blk_frozen B7.out 0
      have zf1 := blk_frozen B7.out 1
      have zf2 := blk_frozen B7.out 2
      have zf3 := blk_frozen B7.out 3
      have zf4 := blk_frozen B7.out 4
      by_cases c3 : RP x0 x1 x2 x3 s
      · rw [if_pos c3] at hp hpc
        have HPC := Aside0.mk hpc
        simp only [Prod.mk.injEq] at hp
        obtain ⟨rfl, rfl, rfl, rfl, rfl, rfl, rfl⟩ := hp
        clear c1 c2 c3 hpc
        try go_wp2_with (first | ((with_reducible refine gate_callee (f := 13) rfl ?_); refine goesL_ (some 70) rfl rfl Try.func13 (by kernel_rfl) rfl #[.agg #[.int .i64 x0, .int .i64 x1, .int .i64 x2, .int .i64 x3, .string s]] rfl (by (try simp only [List.map_toArray, List.map_cons, List.map_nil]); first | done | rfl) ?_; (with_reducible refine (packet_Check.calls x0 x1 x2 x3 s 0 _ HPC.out).mono ?_); rintro e wk ⟨rfl, hb⟩; refine ⟨_, rfl, ?_⟩; have K4 := Aside0.mk (blk_below (g := g4) (o := .cells #[.int .i64 0, .int .i64 0, .int .i64 0, .int .i64 0, .string (⟨#[]⟩ : ByteArray)] 23 (0, 0)) (by repeat (first | exact B4.out | refine blk_far ?_ NE47.out _)) hb); have K7 := Aside0.mk (blk_below (g := g7) (o := .cells #[.int .i64 x0, .int .i64 x1, .int .i64 x2, .int .i64 x3, .string s] 23 (0, 0)) (by refine blk_put (cs := #[.int .i64 x0, .int .i64 x1, .int .i64 x2, .int .i64 x3, .string (⟨#[]⟩ : ByteArray)]) ?_ 4 _ rfl; exact B7.out) hb); have K8 := Aside0.mk (blk_below (g := g8) (o := .cells #[.int .i64 (m : Int)] 3 (0, 0)) (by repeat (first | exact B8.out | refine blk_far ?_ NE78.out.symm _)) hb); have HK := Aside0.mk (below_step (by repeat (first | exact HB.out | refine below_set ?_ G7.out)) hb); clear hb))
        have n1_ := Aside0.mk (blk_drew K4.out)
        have n2_ := Aside0.mk (blk_drew K7.out)
        have n3_ := Aside0.mk (blk_drew K8.out)
        have n4_ := Aside0.mk (below_drew1 HK.out)
        clear K4 K7 K8 HK
        have K4 := n1_
        have K7 := n2_
        have K8 := n3_
        have HK := n4_
        clear n1_ n2_ n3_ n4_
        refine start_ (n := 7) (S := fun w' => w'.cell? ⟨g7, 0, none⟩ = some (.int .i64 x0) ∧ w'.cell? ⟨g7, 1, none⟩ = some (.int .i64 x1) ∧ w'.cell? ⟨g7, 2, none⟩ = some (.int .i64 x2) ∧ w'.cell? ⟨g7, 3, none⟩ = some (.int .i64 x3) ∧ w'.cell? ⟨g7, 4, none⟩ = some (.string s) ∧ w'.cell? ⟨g8, 0, none⟩ = some (.int .i64 (m : Int))) (ds := []) #[false, false, false, false, false, false, false] (by kernel_rfl) rfl rfl ⟨(blk_cell K7.out 0).trans rfl, (blk_cell K7.out 1).trans rfl, (blk_cell K7.out 2).trans rfl, (blk_cell K7.out 3).trans rfl, (blk_cell K7.out 4).trans rfl, (blk_cell K8.out 0).trans rfl⟩ (fun hHeld => ?_); refine with_tabW packet_Parse.tab18 packet_Parse.bits18 (fun HT_ HW_ => ?_)
        generalize wk.drew = wd at K4 K7 K8 HK hHeld ⊢
        refine pure_ (i := 1) (N := some 74) (v := ?_) (a' := ?_) #[false, true, false, false, false, false, false] rfl rfl (any_of HT_.out (by kernel_rfl)) (fun _ _ _ h => h) (Or.inl ⟨by rfl, ?_⟩) ?_ ?_
        rotate_left
        · intro w'
          go_simp
          with_reducible rfl
        rotate_left
        · simp only [Act.put, List.setIfInBounds_toArray, List.set_cons_zero, List.set_cons_succ, i64_w, i32_w]
          rfl
        refine take_ (i := 0) (N := some 73) (v := ?_) (a' := ?_) #[true, true, false, false, false, false, false] rfl rfl (take_ofW HT_.out HW_.out (by kernel_rfl)) (fun _ _ _ h => h) (Or.inl ⟨by rfl, ?_⟩) hHeld ?_ ?_
        rotate_left
        · rintro w' ⟨s0, s1, s2, s3, s4, s5⟩
          go_simp
          with_reducible rfl
        rotate_left
        · simp only [Act.put, List.setIfInBounds_toArray, List.set_cons_zero, List.set_cons_succ, i64_w, i32_w]
          rfl
        refine take_ (i := 2) (N := some 75) (v := ?_) (a' := ?_) #[true, true, true, false, false, false, false] rfl rfl (take_ofW HT_.out HW_.out (by kernel_rfl)) (fun _ _ _ h => h) (Or.inl ⟨by rfl, ?_⟩) hHeld ?_ ?_
        rotate_left
        · rintro w' ⟨s0, s1, s2, s3, s4, s5⟩
          go_simp
          with_reducible rfl
        rotate_left
        · simp only [Act.put, List.setIfInBounds_toArray, List.set_cons_zero, List.set_cons_succ, i64_w, i32_w]
          rfl
        refine pure_ (i := 3) (N := some 76) (v := ?_) (a' := ?_) #[true, true, true, true, false, false, false] rfl rfl (any_of HT_.out (by kernel_rfl)) (fun _ _ _ h => h) (Or.inl ⟨by rfl, ?_⟩) ?_ ?_
        rotate_left
        · intro w'
          go_simp
          with_reducible rfl
        rotate_left
        · simp only [Act.put, List.setIfInBounds_toArray, List.set_cons_zero, List.set_cons_succ, i64_w, i32_w]
          rfl
        refine one_ (i := 4) (N := none) #[true, true, true, true, true, false, false] rfl rfl (one_of HT_.out (by kernel_rfl)) (by decide) (fun K hK => ?_)
        have o0 := (blk_cell K4.out 0).trans (show (#[Value.int .i64 0, Value.int .i64 0, Value.int .i64 0, Value.int .i64 0, Value.string (⟨#[]⟩ : ByteArray)] : Array Value)[0]? = some (Value.int .i64 0) from rfl)
        have o1 := (blk_cell K4.out 1).trans (show (#[Value.int .i64 0, Value.int .i64 0, Value.int .i64 0, Value.int .i64 0, Value.string (⟨#[]⟩ : ByteArray)] : Array Value)[1]? = some (Value.int .i64 0) from rfl)
        have o2 := (blk_cell K4.out 2).trans (show (#[Value.int .i64 0, Value.int .i64 0, Value.int .i64 0, Value.int .i64 0, Value.string (⟨#[]⟩ : ByteArray)] : Array Value)[2]? = some (Value.int .i64 0) from rfl)
        have o3 := (blk_cell K4.out 3).trans (show (#[Value.int .i64 0, Value.int .i64 0, Value.int .i64 0, Value.int .i64 0, Value.string (⟨#[]⟩ : ByteArray)] : Array Value)[3]? = some (Value.int .i64 0) from rfl)
        have o4 := (blk_cell K4.out 4).trans (show (#[Value.int .i64 0, Value.int .i64 0, Value.int .i64 0, Value.int .i64 0, Value.string (⟨#[]⟩ : ByteArray)] : Array Value)[4]? = some (Value.string (⟨#[]⟩ : ByteArray)) from rfl)
        have of0 := blk_frozen K4.out 0
        have of1 := blk_frozen K4.out 1
        have of2 := blk_frozen K4.out 2
        have of3 := blk_frozen K4.out 3
        have of4 := blk_frozen K4.out 4
        have hn1 : g7 ≠ g4 := NE47.out.symm
        have hn2 : g4 ≠ g7 := NE47.out
        refine skip_ (w1 := ?_) (by rfl) rfl ?_ ?_
        rotate_left
        · go_simp
          rfl
        refine hK.out _ _ ⟨((cell_far (p := ⟨g4, _, none⟩) hn1 _).trans (((cell_far (p := ⟨g4, _, none⟩) hn1 _).trans (((cell_far (p := ⟨g4, _, none⟩) hn1 _).trans (((cell_far (p := ⟨g4, _, none⟩) hn1 _).trans (((cell_far (p := ⟨g4, _, none⟩) hn1 _).trans (hHeld.1)))))))))), ((cell_far (p := ⟨g4, _, none⟩) hn1 _).trans (((cell_far (p := ⟨g4, _, none⟩) hn1 _).trans (((cell_far (p := ⟨g4, _, none⟩) hn1 _).trans (((cell_far (p := ⟨g4, _, none⟩) hn1 _).trans (((cell_far (p := ⟨g4, _, none⟩) hn1 _).trans (hHeld.2.1)))))))))), ((cell_far (p := ⟨g4, _, none⟩) hn1 _).trans (((cell_far (p := ⟨g4, _, none⟩) hn1 _).trans (((cell_far (p := ⟨g4, _, none⟩) hn1 _).trans (((cell_far (p := ⟨g4, _, none⟩) hn1 _).trans (((cell_far (p := ⟨g4, _, none⟩) hn1 _).trans (hHeld.2.2.1)))))))))), ((cell_far (p := ⟨g4, _, none⟩) hn1 _).trans (((cell_far (p := ⟨g4, _, none⟩) hn1 _).trans (((cell_far (p := ⟨g4, _, none⟩) hn1 _).trans (((cell_far (p := ⟨g4, _, none⟩) hn1 _).trans (((cell_far (p := ⟨g4, _, none⟩) hn1 _).trans (hHeld.2.2.2.1)))))))))), ((cell_far (p := ⟨g4, _, none⟩) hn1 _).trans (((cell_far (p := ⟨g4, _, none⟩) hn1 _).trans (((cell_far (p := ⟨g4, _, none⟩) hn1 _).trans (((cell_far (p := ⟨g4, _, none⟩) hn1 _).trans (((cell_far (p := ⟨g4, _, none⟩) hn1 _).trans (hHeld.2.2.2.2.1)))))))))), ((cell_far (p := ⟨g4, _, none⟩) NE48.out.symm _).trans (((cell_far (p := ⟨g4, _, none⟩) NE48.out.symm _).trans (((cell_far (p := ⟨g4, _, none⟩) NE48.out.symm _).trans (((cell_far (p := ⟨g4, _, none⟩) NE48.out.symm _).trans (((cell_far (p := ⟨g4, _, none⟩) NE48.out.symm _).trans (hHeld.2.2.2.2.2))))))))))⟩ (fun hHeld => ?_)
        clear hK K
        refine pure_ (i := 5) (N := some 5) (v := ?_) (a' := ?_) #[true, true, true, true, true, true, false] rfl rfl (any_of HT_.out (by kernel_rfl)) (fun _ _ _ h => h) (Or.inl ⟨by rfl, ?_⟩) ?_ ?_
        rotate_left
        · intro w'
          go_simp
          with_reducible rfl
        rotate_left
        · simp only [Act.put, List.setIfInBounds_toArray, List.set_cons_zero, List.set_cons_succ, i64_w, i32_w]
          rfl
        refine pure_ (i := 6) (N := some 6) (v := ?_) (a' := ?_) #[true, true, true, true, true, true, true] rfl rfl (any_of HT_.out (by kernel_rfl)) (fun _ _ _ h => h) (Or.inl ⟨by rfl, ?_⟩) ?_ ?_
        rotate_left
        · intro w'
          go_simp
          with_reducible rfl
        rotate_left
        · simp only [Act.put, List.setIfInBounds_toArray, List.set_cons_zero, List.set_cons_succ, i64_w, i32_w]
          rfl
        refine done_ (done_of HT_.out (by kernel_rfl)) ?_
        try go_wp2
        refine bodyPost_ret (results_ctt rfl _ _ g4 23 #[.int .i64 x0, .int .i64 x1, .int .i64 x2, .int .i64 x3, .string s] (0, 0) _ rfl (by refine blk_put (cs := #[.int .i64 x0, .int .i64 x1, .int .i64 x2, .int .i64 x3, .string (⟨#[]⟩ : ByteArray)]) ?_ 4 _ rfl; refine blk_put (cs := #[.int .i64 x0, .int .i64 x1, .int .i64 x2, .int .i64 0, .string (⟨#[]⟩ : ByteArray)]) ?_ 3 _ rfl; refine blk_put (cs := #[.int .i64 x0, .int .i64 x1, .int .i64 0, .int .i64 0, .string (⟨#[]⟩ : ByteArray)]) ?_ 2 _ rfl; refine blk_put (cs := #[.int .i64 x0, .int .i64 0, .int .i64 0, .int .i64 0, .string (⟨#[]⟩ : ByteArray)]) ?_ 1 _ rfl; refine blk_put (cs := #[.int .i64 0, .int .i64 0, .int .i64 0, .int .i64 0, .string (⟨#[]⟩ : ByteArray)]) ?_ 0 _ rfl; exact K4.out) Try.underlying23 rfl (by kernel_rfl)) rfl ?_
        exact ⟨by rw [w64 (x := at_ + (m : Int)) (by omega) (by omega)]; rfl, by repeat (first | exact HK.out | refine below_set ?_ G4.out)⟩
      · rw [if_neg c3] at hp hpc
        have HPC := Aside0.mk hpc
        simp only [pkNo, Prod.mk.injEq] at hp
        obtain ⟨rfl, rfl, rfl, rfl, rfl, rfl, rfl⟩ := hp
        clear c1 c2 c3 hpc
        go_wp2_with (first | ((with_reducible refine gate_callee (f := 13) rfl ?_); refine goesL_ (some 70) rfl rfl Try.func13 (by kernel_rfl) rfl #[.agg #[.int .i64 x0, .int .i64 x1, .int .i64 x2, .int .i64 x3, .string s]] rfl (by (try simp only [List.map_toArray, List.map_cons, List.map_nil]); first | done | rfl) ?_; (with_reducible refine (packet_Check.calls x0 x1 x2 x3 s 1 _ HPC.out).mono ?_); rintro e wk ⟨rfl, hb⟩; refine ⟨_, rfl, ?_⟩; have K4 := Aside0.mk (blk_below (g := g4) (o := .cells #[.int .i64 0, .int .i64 0, .int .i64 0, .int .i64 0, .string (⟨#[]⟩ : ByteArray)] 23 (0, 0)) (by repeat (first | exact B4.out | refine blk_far ?_ NE47.out _)) hb); have K7 := Aside0.mk (blk_below (g := g7) (o := .cells #[.int .i64 x0, .int .i64 x1, .int .i64 x2, .int .i64 x3, .string s] 23 (0, 0)) (by refine blk_put (cs := #[.int .i64 x0, .int .i64 x1, .int .i64 x2, .int .i64 x3, .string (⟨#[]⟩ : ByteArray)]) ?_ 4 _ rfl; exact B7.out) hb); have K8 := Aside0.mk (blk_below (g := g8) (o := .cells #[.int .i64 (m : Int)] 3 (0, 0)) (by repeat (first | exact B8.out | refine blk_far ?_ NE78.out.symm _)) hb); have HK := Aside0.mk (below_step (by repeat (first | exact HB.out | refine below_set ?_ G7.out)) hb); clear hb; have o0 := (blk_cell K4.out 0).trans (show (#[Value.int .i64 0, Value.int .i64 0, Value.int .i64 0, Value.int .i64 0, Value.string (⟨#[]⟩ : ByteArray)] : Array Value)[0]? = some (Value.int .i64 0) from rfl); have o1 := (blk_cell K4.out 1).trans (show (#[Value.int .i64 0, Value.int .i64 0, Value.int .i64 0, Value.int .i64 0, Value.string (⟨#[]⟩ : ByteArray)] : Array Value)[1]? = some (Value.int .i64 0) from rfl); have o2 := (blk_cell K4.out 2).trans (show (#[Value.int .i64 0, Value.int .i64 0, Value.int .i64 0, Value.int .i64 0, Value.string (⟨#[]⟩ : ByteArray)] : Array Value)[2]? = some (Value.int .i64 0) from rfl); have o3 := (blk_cell K4.out 3).trans (show (#[Value.int .i64 0, Value.int .i64 0, Value.int .i64 0, Value.int .i64 0, Value.string (⟨#[]⟩ : ByteArray)] : Array Value)[3]? = some (Value.int .i64 0) from rfl); have o4 := (blk_cell K4.out 4).trans (show (#[Value.int .i64 0, Value.int .i64 0, Value.int .i64 0, Value.int .i64 0, Value.string (⟨#[]⟩ : ByteArray)] : Array Value)[4]? = some (Value.string (⟨#[]⟩ : ByteArray)) from rfl); have of0 := blk_frozen K4.out 0; have of1 := blk_frozen K4.out 1; have of2 := blk_frozen K4.out 2; have of3 := blk_frozen K4.out 3; have of4 := blk_frozen K4.out 4))
        refine bodyPost_ret (results_ctt rfl _ _ g4 23 #[.int .i64 0, .int .i64 0, .int .i64 0, .int .i64 0, .string (⟨#[]⟩ : ByteArray)] (0, 0) _ rfl (by refine blk_put (cs := #[.int .i64 0, .int .i64 0, .int .i64 0, .int .i64 0, .string (⟨#[]⟩ : ByteArray)]) ?_ 4 _ rfl; refine blk_put (cs := #[.int .i64 0, .int .i64 0, .int .i64 0, .int .i64 0, .string (⟨#[]⟩ : ByteArray)]) ?_ 3 _ rfl; refine blk_put (cs := #[.int .i64 0, .int .i64 0, .int .i64 0, .int .i64 0, .string (⟨#[]⟩ : ByteArray)]) ?_ 2 _ rfl; refine blk_put (cs := #[.int .i64 0, .int .i64 0, .int .i64 0, .int .i64 0, .string (⟨#[]⟩ : ByteArray)]) ?_ 1 _ rfl; refine blk_put (cs := #[.int .i64 0, .int .i64 0, .int .i64 0, .int .i64 0, .string (⟨#[]⟩ : ByteArray)]) ?_ 0 _ rfl; exact K4.out) Try.underlying23 rfl (by kernel_rfl)) rfl ?_
        exact ⟨rfl, by repeat (first | exact HK.out | refine below_set ?_ G4.out)⟩
    | succ k1 =>
      have hk4 : k1 ≤ 4 := by have := HI.out; omega
      have hi2 : i.toNat * 2 = (4 - k1) * 2 := by have := HI.out; omega
      have hp := HP.out
      simp only [pkGo] at hp
      obtain ⟨t1, t2, t3, hG⟩ : ∃ t1 t2 t3, getSpec l0 at_ (pkSz k1) = (t1, t2, t3) := ⟨_, _, _, rfl⟩
      have hin := get_in l0 HY.out at_ (pkSz k1) (by unfold pkSz; split <;> omega) (by unfold pkSz; split <;> omega)
      rw [hG] at hp hin
      simp only at hp hin
      have HG := Aside0.mk (show wire_Get.f l0 at_ (pkSz k1) = some (t1, t2, t3) by rw [wire_Get_eq _ _ _ HY.out HL.out, hG])
      obtain ⟨p, hpp⟩ : ∃ p, p = pkPtr g7 g8 k1 := ⟨_, rfl⟩
      obtain ⟨cA, cB⟩ := lit_cells BA.out HAD.out hk4 hi2 hpp
      have HPP := Aside0.mk hpp
      clear hi2 hG hpp
      have HK4 := Aside0.mk hk4
      clear hk4
      have hi0 := HI.out.1
      have hi5 : i < 5 := by have := HI.out; omega
      obtain ⟨sz, hsz⟩ : ∃ s, s = pkSz k1 := ⟨_, rfl⟩
      rw [← hsz] at HG cB
      clear hsz
      have p0 : 0 ≤ i := hi0
      have b5 : decide (i < 5) = true := decide_eq_true hi5
      have p0' := eq_true p0
      have q0' := eq_true hi5
      by_cases c : t3 = 0
      · subst c
        rw [if_pos rfl] at hp
        have HQ := Aside0.mk hp
        have HIN := Aside0.mk (hin rfl)
        clear hp hin HP
        go_wp2_with (first
          | ((with_reducible refine gate_dst (N := 10) rfl ?_); refine box_event ?hg (N := 10) ?hd (cs := #[.pointer none, .int .i64 0]) (t := 44) ?hr ?_; (case hd => rfl); (case hg => rfl); (case hr => first | (go_simp; done) | (go_simp; rfl)); intro gf hg wf hbox hb; have HW := Aside0.mk hb; have GF := Aside0.mk (Nat.le_of_eq hg.symm); have BF := Aside0.mk hbox; clear hb hbox hg; have u0 : wf.cell? ⟨gf, 0, none⟩ = some (.pointer none) := (blk_cell BF.out 0).trans rfl; have u1 : wf.cell? ⟨gf, 1, none⟩ = some (.int .i64 0) := (blk_cell BF.out 1).trans rfl; have uf0 := blk_frozen BF.out 0; have uf1 := blk_frozen BF.out 1)
          | ((with_reducible refine gate_callee (f := 20) rfl ?_); refine goesL_ (some 35) rfl rfl Try.func20 (by kernel_rfl) rfl #[.slice A0 l0.length c0, .int .i64 at_, .int .i64 sz] rfl (by (try simp only [List.map_toArray, List.map_cons, List.map_nil]); first | done | rfl) ?_; (with_reducible refine (wire_Get.calls A0 c0 l0 at_ sz t1 t2 0 _ ?side1 ?side2 HG.out).mono ?_); (case side1 => exact Kd.C_below HR0.out (below_step HB.out (by repeat (first | exact HW.out | refine below_set ?_ GF.out)))); (case side2 => exact HC0.out); rintro e w2 ⟨rfl, hb2⟩; refine ⟨_, rfl, ?_⟩; have HW2 := Aside0.mk (below_step (by repeat (first | exact HW.out | refine below_set ?_ GF.out)) hb2); have BF2 := Aside0.mk (blk_below (g := gf) (o := .cells #[.pointer (some p), .int .i64 sz] 44 (0, 0)) (by refine blk_put (cs := #[.pointer (some p), .int .i64 0]) ?_ 1 _ rfl; refine blk_put (cs := #[.pointer none, .int .i64 0]) ?_ 0 _ rfl; exact BF.out) hb2); clear hb2; have v0 : w2.cell? ⟨gf, 0, none⟩ = some (.pointer (some p)) := (blk_cell BF2.out 0).trans rfl; have vf0 := blk_frozen BF2.out 0; have P7 := Aside0.mk (blk_below B7.out HW2.out); have P8 := Aside0.mk (blk_below B8.out HW2.out); obtain ⟨⟨uo, cp⟩, fp⟩ := ptr_old k1 HK4.out P7.out P8.out; rw [← HPP.out] at cp fp))
        go_roundg k1
        case measure => omega
        case rel =>
          have hne := blk_ne P7.out P8.out (by decide)
          have hput := ptr_put k1 HK4.out hne P7.out P8.out t1
          have h47 : g4 ≠ g7 := NE47.out
          have h48 : g4 ≠ g8 := NE48.out
          rw [← HPP.out] at hput
          have hII := HI.out
          refine ⟨pkPut k1 x t1, t2, i + 1, rfl, rfl, ⟨by omega⟩, HQ, ⟨?_⟩, ⟨fun _ => ⟨HIN.out.1, HIN.out.2.1⟩⟩, ⟨?_⟩, ⟨hput.1⟩, ⟨hput.2⟩, ⟨?_⟩, ⟨?_⟩⟩
          · have hx := HX.out
            have ht := HIN.out.2.2
            have hk := HK4.out
            obtain rfl | rfl | rfl | rfl | rfl : k1 = 0 ∨ k1 = 1 ∨ k1 = 2 ∨ k1 = 3 ∨ k1 = 4 := by omega
            · exact ht
            all_goals exact hx
          · rw [HPP.out]
            exact ptr_far k1 h47 h48 (blk_below B4.out HW2.out) _
          · rw [HPP.out]
            have a7 : ga ≠ g7 := blk_ne BA.out B7.out (by decide)
            have a8 : ga ≠ g8 := blk_ne BA.out B8.out (by decide)
            exact ptr_far k1 a7 a8 (blk_below BA.out HW2.out) _
          · rw [HPP.out]
            exact ptr_below k1 G7.out G8.out (below_step HB.out HW2.out) _
      · rw [if_neg c] at hp
        have e1 : (t3 != 0) = true := bne_iff_ne.mpr c
        simp only [pkNo, Prod.mk.injEq] at hp
        obtain ⟨rfl, rfl, rfl, rfl, rfl, rfl, rfl⟩ := hp
        clear hin HP c
        go_wp2_with (first
          | ((with_reducible refine gate_dst (N := 10) rfl ?_); refine box_event ?hg (N := 10) ?hd (cs := #[.pointer none, .int .i64 0]) (t := 44) ?hr ?_; (case hd => rfl); (case hg => rfl); (case hr => first | (go_simp; done) | (go_simp; rfl)); intro gf hg wf hbox hb; have HW := Aside0.mk hb; have GF := Aside0.mk (Nat.le_of_eq hg.symm); have BF := Aside0.mk hbox; clear hb hbox hg; have u0 : wf.cell? ⟨gf, 0, none⟩ = some (.pointer none) := (blk_cell BF.out 0).trans rfl; have u1 : wf.cell? ⟨gf, 1, none⟩ = some (.int .i64 0) := (blk_cell BF.out 1).trans rfl; have uf0 := blk_frozen BF.out 0; have uf1 := blk_frozen BF.out 1)
          | ((with_reducible refine gate_callee (f := 20) rfl ?_); refine goesL_ (some 35) rfl rfl Try.func20 (by kernel_rfl) rfl #[.slice A0 l0.length c0, .int .i64 at_, .int .i64 sz] rfl (by (try simp only [List.map_toArray, List.map_cons, List.map_nil]); first | done | rfl) ?_; (with_reducible refine (wire_Get.calls A0 c0 l0 at_ sz t1 t2 t3 _ ?side1 ?side2 HG.out).mono ?_); (case side1 => exact Kd.C_below HR0.out (below_step HB.out (by repeat (first | exact HW.out | refine below_set ?_ GF.out)))); (case side2 => exact HC0.out); rintro e w2 ⟨rfl, hb2⟩; refine ⟨_, rfl, ?_⟩; have HW2 := Aside0.mk (below_step (by repeat (first | exact HW.out | refine below_set ?_ GF.out)) hb2); have BF2 := Aside0.mk (blk_below (g := gf) (o := .cells #[.pointer (some p), .int .i64 sz] 44 (0, 0)) (by refine blk_put (cs := #[.pointer (some p), .int .i64 0]) ?_ 1 _ rfl; refine blk_put (cs := #[.pointer none, .int .i64 0]) ?_ 0 _ rfl; exact BF.out) hb2); clear hb2; have v0 : w2.cell? ⟨gf, 0, none⟩ = some (.pointer (some p)) := (blk_cell BF2.out 0).trans rfl; have vf0 := blk_frozen BF2.out 0; have P7 := Aside0.mk (blk_below B7.out HW2.out); have P8 := Aside0.mk (blk_below B8.out HW2.out); obtain ⟨⟨uo, cp⟩, fp⟩ := ptr_old k1 HK4.out P7.out P8.out; rw [← HPP.out] at cp fp; have P4 := Aside0.mk (blk_below B4.out HW2.out); have k0 : w2.cell? ⟨g4, 0, none⟩ = some (.int .i64 0) := (blk_cell P4.out 0).trans rfl; have k1 : w2.cell? ⟨g4, 1, none⟩ = some (.int .i64 0) := (blk_cell P4.out 1).trans rfl; have k2 : w2.cell? ⟨g4, 2, none⟩ = some (.int .i64 0) := (blk_cell P4.out 2).trans rfl; have k3 : w2.cell? ⟨g4, 3, none⟩ = some (.int .i64 0) := (blk_cell P4.out 3).trans rfl; have k4 : w2.cell? ⟨g4, 4, none⟩ = some (.string (⟨#[]⟩ : ByteArray)) := (blk_cell P4.out 4).trans rfl; have kf0 := blk_frozen P4.out 0; have kf1 := blk_frozen P4.out 1; have kf2 := blk_frozen P4.out 2; have kf3 := blk_frozen P4.out 3; have kf4 := blk_frozen P4.out 4))
        refine bodyPost_ret (results_ctt rfl _ _ g4 23 #[.int .i64 0, .int .i64 0, .int .i64 0, .int .i64 0, .string (⟨#[]⟩ : ByteArray)] (0, 0) _ rfl (by refine blk_put (cs := #[.int .i64 0, .int .i64 0, .int .i64 0, .int .i64 0, .string (⟨#[]⟩ : ByteArray)]) ?_ 4 _ rfl; refine blk_put (cs := #[.int .i64 0, .int .i64 0, .int .i64 0, .int .i64 0, .string (⟨#[]⟩ : ByteArray)]) ?_ 3 _ rfl; refine blk_put (cs := #[.int .i64 0, .int .i64 0, .int .i64 0, .int .i64 0, .string (⟨#[]⟩ : ByteArray)]) ?_ 2 _ rfl; refine blk_put (cs := #[.int .i64 0, .int .i64 0, .int .i64 0, .int .i64 0, .string (⟨#[]⟩ : ByteArray)]) ?_ 1 _ rfl; refine blk_put (cs := #[.int .i64 0, .int .i64 0, .int .i64 0, .int .i64 0, .string (⟨#[]⟩ : ByteArray)]) ?_ 0 _ rfl; exact P4.out) Try.underlying23 rfl (by kernel_rfl)) rfl ?_
        exact ⟨rfl, by repeat (first | exact (below_step HB.out HW2.out) | refine below_set ?_ G4.out)⟩
end Go.Proofs.Ythfbnlimoagihaa.P
