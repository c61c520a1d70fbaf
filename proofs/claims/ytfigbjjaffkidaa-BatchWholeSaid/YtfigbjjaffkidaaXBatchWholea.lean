/- The statement BatchWhole, proved of the given program; it has no conditions. (Laid together out of many texts: part 1 of 6.) -/
import Derived.Test.YtfigbjjaffkidaaXBatchWholeWWords
import Derived.Test.YtfigbjjaffkidaaXBatchWholeWMore
import Derived.Test.YtfigbjjaffkidaaProg
import Derived.Below
import Derived.Deep.Draws
import Derived.Deep.AppendLies
import Derived.Maps.AppendAt
import Derived.OwnWalk
import Derived.Laws.BytesArg
import Derived.Laws.MakeOwn
import Derived.Laws.OwnMore
import Derived.Deep.OwnRows
import Derived.Tactics
import Derived.Lib.ConvBytes
import Derived.Laws.Slices
import Derived.WalkKit
import Derived.KernelRfl
import Derived.RowKit3
import Derived.Deep.LoopGhost
import Derived.Deep.QuietTactic
import Derived.BigQuiet
import Derived.WideLaws
import Derived.Deep.DeepCutAuto
import Derived.Deep.CutBlock
import Derived.Deep.RegionHeld3
import Derived.Laws.Rows
import Derived.Lib.AppendStr
import Derived.ArgAppend
import Derived.Laws.IdiomCopy
import Derived.OrdersHeld
import Derived.Laws.BitsLemmas
import Derived.RowKit
import Derived.Test.YtfigbjjaffkidaaXBatchWholeWLast
import Derived.Test.YtfigbjjaffkidaaXBatchWholeWTab
import Derived.Test.YtfigbjjaffkidaaXBatchWholeWQPut
import Derived.Test.YtfigbjjaffkidaaXBatchWholeWApart
import Derived.Test.YtfigbjjaffkidaaXBatchWholeWArr
import Derived.Test.YtfigbjjaffkidaaXBatchWholeWZeros
import Derived.Test.YtfigbjjaffkidaaXBatchWholeWFoot
import Derived.Test.YtfigbjjaffkidaaXBatchWholeWKept
import Derived.Test.YtfigbjjaffkidaaXBatchWholeWShare
import Derived.Test.YtfigbjjaffkidaaXBatchWholeWN
import Derived.Test.YtfigbjjaffkidaaXBatchWholeWEqStruct
import Derived.Test.YtfigbjjaffkidaaXBatchWholeWRepsOne
import Derived.Test.YtfigbjjaffkidaaXBatchWholeWInv
import Derived.Test.YtfigbjjaffkidaaXBatchWholeWGuard
import Derived.Test.YtfigbjjaffkidaaXBatchWholeWNEv
import Derived.Laws.BitsAllLaws
import Derived.OpenShut
import Derived.Laws.LoneSync
set_option linter.unusedVariables false
set_option linter.unusedSimpArgs false
namespace Go.Proofs.YtfigbjjaffkidaaW.PrintWords.Kd
open Go.RowKit Go.Proofs.YtfigbjjaffkidaaW.PrintWords
section
variable {P : Program} {ops : Array Oper} {rest : List Oper} {o : Oper} {a : Act} {Q : Exit → Act → World → Prop} {α : Type}
theorem R_make0 (d : Kd α) {w0 W : World} (base e : Nat) (hgd : o.guard = none) {N : Tmp} (_hd : o.dst = some N) (t : TypeId) (x y : Operand) (ho : o.op = .makeSlice t x y) (n : Int) (hx : a.eval x = .int .i64 0) (hy : a.eval y = .int .i64 n)
    (ht : P.underlying t = some (.slice e)) (z : Value) (bytes : Nat) (hinfo : (P.info? e).map (fun i => (i.zero, i.size, i.bytes)) = some (some z, d.sz, bytes)) (hb0 : 0 < bytes)
    {ok : Nat → Prop} (hfresh : ok W.heap.size) (h0 : 0 ≤ n) (hl : n.toNat * bytes ≤ 281474976710656) (HB : Below base w0 W) (hbase : base ≤ W.heap.size)
    (h : ∀ v1 w1, d.R e w1 base ok v1 [] → Below base w0 w1 → W.grownBy w1 none → (∃ b, v1.ownBlock = some b ∧ W.heap.size ≤ b) → wpList P ops Q rest (a.put o.dst v1) w1) : wpList P ops Q (o :: rest) a W := by
  obtain ⟨m, rfl⟩ := Int.eq_ofNat_of_zero_le h0
  simp only [Int.toNat_natCast] at hl
  obtain ⟨i0, hi, hzz⟩ := Option.map_eq_some_iff.1 hinfo
  simp only [Prod.mk.injEq] at hzz
  obtain ⟨hz0, hz1, hz2⟩ := hzz
  have hm : m ≤ 281474976710656 := Nat.le_trans (Nat.le_mul_of_pos_right _ hb0) hl
  obtain ⟨w', hr, hown, hg⟩ := run_make_own (P := P) W base t e i0 z d.sz ht hi hz0 hz1 .i64 .i64 m (by rw [hz2, Nat.mul_comm]; exact hl) (by unfold maxLen; omega) hbase
  refine event_run hgd (v := .slice (some ⟨W.heap.size, 0, none⟩) 0 m) (w1 := w') (by simp [execOp, ho, hx, hy, hr]) (h _ _ ⟨fun k hk => ?_, [], hown, Reps.none _ _⟩ (HB.grown hg hbase (by simp)) hg ⟨W.heap.size, by simp [Value.ownBlock], Nat.le_refl _⟩)
  have : W.heap.size = k := by simpa [Value.ownBlock] using hk
  subst this
  exact hfresh
end
end Go.Proofs.YtfigbjjaffkidaaW.PrintWords.Kd
namespace Go.Proofs.Ytfigbjjaffkidaa.P
open Go.RowKit Go.Proofs.YtfigbjjaffkidaaW.PrintWords Go.Proofs.YtfigbjjaffkidaaW.PrintLast Go.Proofs.YtfigbjjaffkidaaW.PrintMore
attribute [local go_sem] max2_int min2_int max_two min_two max_three min_three max_four min_four   -- for this text's walks alone
def errW : Option Int → Value
  | none => .nilIface
  | some c => .iface 0 (.int .i64 c)
theorem errW_none : errW none = .nilIface := rfl
theorem errW_some (c : Int) : errW (some c) = .iface 0 (.int .i64 c) := rfl
theorem info5 : (Try.prog.info? 5).map (fun i => (i.zero, i.size, i.bytes)) = some (some (.int .u8 0), 1, 1) := by kernel_rfl
theorem info24 : (Try.prog.info? 24).map (fun i => (i.zero, i.size, i.bytes)) = some (some (.agg #[(.int .i64 0), (.slice none 0 0)]), 2, 32) := by kernel_rfl
theorem info45 : (Try.prog.info? 45).map (fun i => (i.zero, i.size, i.bytes)) = some (some (.agg #[(.int .i64 0), (.int .i64 0), (.bool false), (.int .i64 0), (.int .i64 0), (.int .i64 0), (.int .i64 0), (.int .i64 0), (.int .i64 0), (.int .i64 0), (.int .i64 0), (.int .i64 0)]), 12, 96) := by kernel_rfl
theorem info61 : (Try.prog.info? 61).map (fun i => (i.zero, i.size, i.bytes)) = some (some (.int .u16 0), 1, 2) := by kernel_rfl
structure S41 where
  f0 : Bool
  f1 : Int
  f2 : Int
  f3 : Int
  f4 : Int
  f5 : Int
def z41 : S41 := ⟨false, (0 : Int), (0 : Int), (0 : Int), (0 : Int), (0 : Int)⟩
def k41 : Kd S41 := Kd.iso (Kd.pair Kd.bool (Kd.pair (Kd.int .i64) (Kd.pair (Kd.int .i64) (Kd.pair (Kd.int .i64) (Kd.pair (Kd.int .i64) (Kd.int .i64)))))) (fun x : S41 => (x.f0, x.f1, x.f2, x.f3, x.f4, x.f5))
theorem k41_open {w : World} {x : S41} {cs : List Value} (h : k41.K w x cs) : cs = [.bool x.f0, .int .i64 x.f1, .int .i64 x.f2, .int .i64 x.f3, .int .i64 x.f4, .int .i64 x.f5] := by
  obtain ⟨_, _, rfl, rfl, ⟨_, _, rfl, rfl, ⟨_, _, rfl, rfl, ⟨_, _, rfl, rfl, ⟨_, _, rfl, rfl, rfl⟩⟩⟩⟩⟩ := h
  exact rfl
theorem k41_mkM (w : World) (base : Nat) (ok : Nat → Prop) (x : S41)  : k41.M w base ok x [.bool x.f0, .int .i64 x.f1, .int .i64 x.f2, .int .i64 x.f3, .int .i64 x.f4, .int .i64 x.f5] := ⟨[.bool x.f0], [.int .i64 x.f1, .int .i64 x.f2, .int .i64 x.f3, .int .i64 x.f4, .int .i64 x.f5], rfl, rfl, ⟨[.int .i64 x.f1], [.int .i64 x.f2, .int .i64 x.f3, .int .i64 x.f4, .int .i64 x.f5], rfl, rfl, ⟨[.int .i64 x.f2], [.int .i64 x.f3, .int .i64 x.f4, .int .i64 x.f5], rfl, rfl, ⟨[.int .i64 x.f3], [.int .i64 x.f4, .int .i64 x.f5], rfl, rfl, ⟨[.int .i64 x.f4], [.int .i64 x.f5], rfl, rfl, rfl⟩⟩⟩⟩⟩
structure S43 where
  f0 : Int
  f1 : Int
  f2 : Int
def z43 : S43 := ⟨(0 : Int), (0 : Int), (0 : Int)⟩
def k43 : Kd S43 := Kd.iso (Kd.pair (Kd.int .i64) (Kd.pair (Kd.int .i64) (Kd.int .i64))) (fun x : S43 => (x.f0, x.f1, x.f2))
theorem k43_open {w : World} {x : S43} {cs : List Value} (h : k43.K w x cs) : cs = [.int .i64 x.f0, .int .i64 x.f1, .int .i64 x.f2] := by
  obtain ⟨_, _, rfl, rfl, ⟨_, _, rfl, rfl, rfl⟩⟩ := h
  exact rfl
theorem k43_mkM (w : World) (base : Nat) (ok : Nat → Prop) (x : S43)  : k43.M w base ok x [.int .i64 x.f0, .int .i64 x.f1, .int .i64 x.f2] := ⟨[.int .i64 x.f0], [.int .i64 x.f1, .int .i64 x.f2], rfl, rfl, ⟨[.int .i64 x.f1], [.int .i64 x.f2], rfl, rfl, rfl⟩⟩
structure S45 where
  f0 : Int
  f1 : Int
  f2 : S41
  f3 : S43
  f4 : Int
def z45 : S45 := ⟨(0 : Int), (0 : Int), z41, z43, (0 : Int)⟩
def k45 : Kd S45 := Kd.iso (Kd.pair (Kd.int .i64) (Kd.pair (Kd.int .i64) (Kd.pair k41 (Kd.pair k43 (Kd.int .i64))))) (fun x : S45 => (x.f0, x.f1, x.f2, x.f3, x.f4))
theorem k45_open {w : World} {x : S45} {cs : List Value} (h : k45.K w x cs) : cs = [.int .i64 x.f0, .int .i64 x.f1, .bool x.f2.f0, .int .i64 x.f2.f1, .int .i64 x.f2.f2, .int .i64 x.f2.f3, .int .i64 x.f2.f4, .int .i64 x.f2.f5, .int .i64 x.f3.f0, .int .i64 x.f3.f1, .int .i64 x.f3.f2, .int .i64 x.f4] := by
  obtain ⟨_, _, rfl, rfl, ⟨_, _, rfl, rfl, ⟨_, _, rfl, s2, ⟨_, _, rfl, s8, rfl⟩⟩⟩⟩ := h
  obtain rfl := k41_open s2
  obtain rfl := k43_open s8
  exact rfl
theorem k45_mkM (w : World) (base : Nat) (ok : Nat → Prop) (x : S45)  : k45.M w base ok x [.int .i64 x.f0, .int .i64 x.f1, .bool x.f2.f0, .int .i64 x.f2.f1, .int .i64 x.f2.f2, .int .i64 x.f2.f3, .int .i64 x.f2.f4, .int .i64 x.f2.f5, .int .i64 x.f3.f0, .int .i64 x.f3.f1, .int .i64 x.f3.f2, .int .i64 x.f4] := ⟨[.int .i64 x.f0], [.int .i64 x.f1, .bool x.f2.f0, .int .i64 x.f2.f1, .int .i64 x.f2.f2, .int .i64 x.f2.f3, .int .i64 x.f2.f4, .int .i64 x.f2.f5, .int .i64 x.f3.f0, .int .i64 x.f3.f1, .int .i64 x.f3.f2, .int .i64 x.f4], rfl, rfl, ⟨[.int .i64 x.f1], [.bool x.f2.f0, .int .i64 x.f2.f1, .int .i64 x.f2.f2, .int .i64 x.f2.f3, .int .i64 x.f2.f4, .int .i64 x.f2.f5, .int .i64 x.f3.f0, .int .i64 x.f3.f1, .int .i64 x.f3.f2, .int .i64 x.f4], rfl, rfl, ⟨[.bool x.f2.f0, .int .i64 x.f2.f1, .int .i64 x.f2.f2, .int .i64 x.f2.f3, .int .i64 x.f2.f4, .int .i64 x.f2.f5], [.int .i64 x.f3.f0, .int .i64 x.f3.f1, .int .i64 x.f3.f2, .int .i64 x.f4], rfl, (k41_mkM w base ok x.f2 ), ⟨[.int .i64 x.f3.f0, .int .i64 x.f3.f1, .int .i64 x.f3.f2], [.int .i64 x.f4], rfl, (k43_mkM w base ok x.f3 ), rfl⟩⟩⟩⟩
def rd_T45 (xs : List S45) (i : Int) : S45 := xs.getD i.toNat z45
theorem at_T45 {w : World} {A : Option Addr} {n : Nat} {xs : List S45} (h : Kd.C k45 w A n xs) (i : Int) (h0 : 0 ≤ i) (h1 : i < n) : ∃ ad , A = some ad ∧ w.cell? (ad.add (i.toNat * 12)) = some (.int .i64 (rd_T45 xs i).f0) ∧ w.cell? ⟨(ad.add (i.toNat * 12)).block, (ad.add (i.toNat * 12)).off + 1, none⟩ = some (.int .i64 (rd_T45 xs i).f1) ∧ w.cell? ⟨(ad.add (i.toNat * 12)).block, (ad.add (i.toNat * 12)).off + 2, none⟩ = some (.bool (rd_T45 xs i).f2.f0) ∧ w.cell? ⟨(ad.add (i.toNat * 12)).block, (ad.add (i.toNat * 12)).off + 3, none⟩ = some (.int .i64 (rd_T45 xs i).f2.f1) ∧ w.cell? ⟨(ad.add (i.toNat * 12)).block, (ad.add (i.toNat * 12)).off + 4, none⟩ = some (.int .i64 (rd_T45 xs i).f2.f2) ∧ w.cell? ⟨(ad.add (i.toNat * 12)).block, (ad.add (i.toNat * 12)).off + 5, none⟩ = some (.int .i64 (rd_T45 xs i).f2.f3) ∧ w.cell? ⟨(ad.add (i.toNat * 12)).block, (ad.add (i.toNat * 12)).off + 6, none⟩ = some (.int .i64 (rd_T45 xs i).f2.f4) ∧ w.cell? ⟨(ad.add (i.toNat * 12)).block, (ad.add (i.toNat * 12)).off + 7, none⟩ = some (.int .i64 (rd_T45 xs i).f2.f5) ∧ w.cell? ⟨(ad.add (i.toNat * 12)).block, (ad.add (i.toNat * 12)).off + 8, none⟩ = some (.int .i64 (rd_T45 xs i).f3.f0) ∧ w.cell? ⟨(ad.add (i.toNat * 12)).block, (ad.add (i.toNat * 12)).off + 9, none⟩ = some (.int .i64 (rd_T45 xs i).f3.f1) ∧ w.cell? ⟨(ad.add (i.toNat * 12)).block, (ad.add (i.toNat * 12)).off + 10, none⟩ = some (.int .i64 (rd_T45 xs i).f3.f2) ∧ w.cell? ⟨(ad.add (i.toNat * 12)).block, (ad.add (i.toNat * 12)).off + 11, none⟩ = some (.int .i64 (rd_T45 xs i).f4) := by
  obtain ⟨ad, c, e, _, hK, hc0⟩ := Kd.C_get h z45 i h0 h1
  have hc : ∀ j u, c[j]? = some u → w.cell? (ad.add (i.toNat * 12 + j)) = some u := hc0
  obtain rfl := k45_open hK
  exact ⟨ad, e, hc 0 _ rfl, by rw [← add_field _ _ 1 (by omega)]; exact hc 1 _ rfl, by rw [← add_field _ _ 2 (by omega)]; exact hc 2 _ rfl, by rw [← add_field _ _ 3 (by omega)]; exact hc 3 _ rfl, by rw [← add_field _ _ 4 (by omega)]; exact hc 4 _ rfl, by rw [← add_field _ _ 5 (by omega)]; exact hc 5 _ rfl, by rw [← add_field _ _ 6 (by omega)]; exact hc 6 _ rfl, by rw [← add_field _ _ 7 (by omega)]; exact hc 7 _ rfl, by rw [← add_field _ _ 8 (by omega)]; exact hc 8 _ rfl, by rw [← add_field _ _ 9 (by omega)]; exact hc 9 _ rfl, by rw [← add_field _ _ 10 (by omega)]; exact hc 10 _ rfl, by rw [← add_field _ _ 11 (by omega)]; exact hc 11 _ rfl⟩
def rd_L7 (xs : List (List Int)) (i : Int) : (List Int) := xs.getD i.toNat ([] : List Int)
theorem at_L7 {w : World} {A : Option Addr} {n : Nat} {xs : List (List Int)} (h : Kd.C (Kd.slice 5 (Kd.int .u8)) w A n xs) (i : Int) (h0 : 0 ≤ i) (h1 : i < n) : ∃ ad A0 c0, A = some ad ∧ w.cell? (ad.add i.toNat) = some (.slice A0 (rd_L7 xs i).length c0) ∧ (rd_L7 xs i).length ≤ c0 ∧ (Kd.int .u8).C w A0 (rd_L7 xs i).length (rd_L7 xs i) := by
  obtain ⟨ad, c, e, _, hK, hc0⟩ := Kd.C_get h ([] : List Int) i h0 h1
  have hc : ∀ j u, c[j]? = some u → w.cell? (ad.add (i.toNat * 1 + j)) = some u := hc0
  obtain ⟨A0, c0, rfl, l0, g0⟩ := hK
  exact ⟨ad, A0, c0, e, by have hq := hc 0 _ rfl; rwa [Nat.mul_one, Nat.add_zero] at hq, l0, g0⟩
structure S24 where
  f0 : Int
  f1 : (List S45)
def z24 : S24 := ⟨(0 : Int), ([] : List S45)⟩
def k24 : Kd S24 := Kd.iso (Kd.pair (Kd.int .i64) (Kd.slice 45 k45)) (fun x : S24 => (x.f0, x.f1))
theorem k24_open {w : World} {x : S24} {cs : List Value} (h : k24.K w x cs) : ∃ A1 c1, cs = [.int .i64 x.f0, .slice A1 x.f1.length c1] ∧ x.f1.length ≤ c1 ∧ k45.C w A1 x.f1.length x.f1 := by
  obtain ⟨_, _, rfl, rfl, ⟨A1, c1, rfl, l1, g1⟩⟩ := h
  exact ⟨A1, c1, rfl, l1, g1⟩
theorem k24_openM {w : World} {base : Nat} {ok : Nat → Prop} {x : S24} {cs : List Value} (h : k24.M w base ok x cs) : ∃ v1, cs = [.int .i64 x.f0, v1] ∧ k45.R 45 w base ok v1 x.f1 := by
  obtain ⟨_, _, rfl, rfl, ⟨v1, rfl, g1⟩⟩ := h
  exact ⟨v1, rfl, g1⟩
theorem k24_mkM (w : World) (base : Nat) (ok : Nat → Prop) (x : S24) {v1 : Value} (g1 : k45.R 45 w base ok v1 x.f1) : k24.M w base ok x [.int .i64 x.f0, v1] := ⟨[.int .i64 x.f0], [v1], rfl, rfl, ⟨v1, rfl, g1⟩⟩
def rd_T24 (xs : List S24) (i : Int) : S24 := xs.getD i.toNat z24
theorem at_T24 {w : World} {A : Option Addr} {n : Nat} {xs : List S24} (h : Kd.C k24 w A n xs) (i : Int) (h0 : 0 ≤ i) (h1 : i < n) : ∃ ad A1 c1, A = some ad ∧ w.cell? (ad.add (i.toNat * 2)) = some (.int .i64 (rd_T24 xs i).f0) ∧ w.cell? ⟨(ad.add (i.toNat * 2)).block, (ad.add (i.toNat * 2)).off + 1, none⟩ = some (.slice A1 (rd_T24 xs i).f1.length c1) ∧ (rd_T24 xs i).f1.length ≤ c1 ∧ k45.C w A1 (rd_T24 xs i).f1.length (rd_T24 xs i).f1 := by
  obtain ⟨ad, c, e, _, hK, hc0⟩ := Kd.C_get h z24 i h0 h1
  have hc : ∀ j u, c[j]? = some u → w.cell? (ad.add (i.toNat * 2 + j)) = some u := hc0
  obtain ⟨A1, c1, rfl, l1, g1⟩ := k24_open hK
  exact ⟨ad, A1, c1, e, hc 0 _ rfl, by rw [← add_field _ _ 1 (by omega)]; exact hc 1 _ rfl, l1, g1⟩
end Go.Proofs.Ytfigbjjaffkidaa.P
namespace Go.Proofs.Ytfigbjjaffkidaa.P
open Go.RowKit Go.Proofs.YtfigbjjaffkidaaW.PrintWords Go.Proofs.YtfigbjjaffkidaaW.PrintLast Go.Proofs.YtfigbjjaffkidaaW.PrintMore
attribute [local go_sem] max2_int min2_int max_two min_two max_three min_three max_four min_four   -- for this text's walks alone
theorem eqA41 (d : Nat) (w : World) (x0 y0 : Bool) (x1 y1 : Int) (x2 y2 : Int) (x3 y3 : Int) (x4 y4 : Int) (x5 y5 : Int) :
    (Op.equalIn (d + 2) 41 (.agg #[.bool x0, .int .i64 x1, .int .i64 x2, .int .i64 x3, .int .i64 x4, .int .i64 x5]) (.agg #[.bool y0, .int .i64 y1, .int .i64 y2, .int .i64 y3, .int .i64 y4, .int .i64 y5])).run Try.prog w = .ok (x0 == y0 && (x1 == y1 && (x2 == y2 && (x3 == y3 && (x4 == y4 && (x5 == y5)))))) w := by
  refine eqA_of Try.underlying41 (by kernel_rfl) ?_
  refine eqf_cons (by rfl) (by go_simp; rfl) (by go_simp; rfl) (by go_simp) ?_
  refine eqf_cons (by rfl) (by go_simp; rfl) (by go_simp; rfl) (by go_simp) ?_
  refine eqf_cons (by rfl) (by go_simp; rfl) (by go_simp; rfl) (by go_simp) ?_
  refine eqf_cons (by rfl) (by go_simp; rfl) (by go_simp; rfl) (by go_simp) ?_
  refine eqf_cons (by rfl) (by go_simp; rfl) (by go_simp; rfl) (by go_simp) ?_
  exact eqf_last (by rfl) (by go_simp; rfl) (by go_simp; rfl) (by go_simp)
end Go.Proofs.Ytfigbjjaffkidaa.P
namespace Go.Proofs.Ytfigbjjaffkidaa.P
open Go.RowKit Go.Proofs.YtfigbjjaffkidaaW.PrintWords Go.Proofs.YtfigbjjaffkidaaW.PrintLast Go.Proofs.YtfigbjjaffkidaaW.PrintMore
attribute [local go_sem] max2_int min2_int max_two min_two max_three min_three max_four min_four   -- for this text's walks alone
theorem eqA43 (d : Nat) (w : World) (x0 y0 : Int) (x1 y1 : Int) (x2 y2 : Int) :
    (Op.equalIn (d + 2) 43 (.agg #[.int .i64 x0, .int .i64 x1, .int .i64 x2]) (.agg #[.int .i64 y0, .int .i64 y1, .int .i64 y2])).run Try.prog w = .ok (x0 == y0 && (x1 == y1 && (x2 == y2))) w := by
  refine eqA_of Try.underlying43 (by kernel_rfl) ?_
  refine eqf_cons (by rfl) (by go_simp; rfl) (by go_simp; rfl) (by go_simp) ?_
  refine eqf_cons (by rfl) (by go_simp; rfl) (by go_simp; rfl) (by go_simp) ?_
  exact eqf_last (by rfl) (by go_simp; rfl) (by go_simp; rfl) (by go_simp)
end Go.Proofs.Ytfigbjjaffkidaa.P
namespace Go.Proofs.Ytfigbjjaffkidaa.P
open Go.RowKit Go.Proofs.YtfigbjjaffkidaaW.PrintWords Go.Proofs.YtfigbjjaffkidaaW.PrintLast Go.Proofs.YtfigbjjaffkidaaW.PrintMore
attribute [local go_sem] max2_int min2_int max_two min_two max_three min_three max_four min_four   -- for this text's walks alone
theorem eqA45 (d : Nat) (w : World) (x0 y0 : Int) (x1 y1 : Int) (x2 y2 : Bool) (x3 y3 : Int) (x4 y4 : Int) (x5 y5 : Int) (x6 y6 : Int) (x7 y7 : Int) (x8 y8 : Int) (x9 y9 : Int) (x10 y10 : Int) (x11 y11 : Int) :
    (Op.equalIn (d + 3) 45 (.agg #[.int .i64 x0, .int .i64 x1, .bool x2, .int .i64 x3, .int .i64 x4, .int .i64 x5, .int .i64 x6, .int .i64 x7, .int .i64 x8, .int .i64 x9, .int .i64 x10, .int .i64 x11]) (.agg #[.int .i64 y0, .int .i64 y1, .bool y2, .int .i64 y3, .int .i64 y4, .int .i64 y5, .int .i64 y6, .int .i64 y7, .int .i64 y8, .int .i64 y9, .int .i64 y10, .int .i64 y11])).run Try.prog w = .ok (x0 == y0 && (x1 == y1 && ((x2 == y2 && (x3 == y3 && (x4 == y4 && (x5 == y5 && (x6 == y6 && (x7 == y7)))))) && ((x8 == y8 && (x9 == y9 && (x10 == y10))) && (x11 == y11))))) w := by
  refine eqA_of Try.underlying45 (by kernel_rfl) ?_
  refine eqf_cons (by rfl) (by go_simp; rfl) (by go_simp; rfl) (by go_simp) ?_
  refine eqf_cons (by rfl) (by go_simp; rfl) (by go_simp; rfl) (by go_simp) ?_
  refine eqf_cons (by rfl) (by go_simp) (by go_simp) (eqA41 (d + 0) w _ _ _ _ _ _ _ _ _ _ _ _) ?_
  refine eqf_cons (by rfl) (by go_simp) (by go_simp) (eqA43 (d + 0) w _ _ _ _ _ _) ?_
  exact eqf_last (by rfl) (by go_simp; rfl) (by go_simp; rfl) (by go_simp)
end Go.Proofs.Ytfigbjjaffkidaa.P
namespace Go.Proofs.Ytfigbjjaffkidaa.P
open Go.RowKit Go.Proofs.YtfigbjjaffkidaaW.PrintWords Go.Proofs.YtfigbjjaffkidaaW.PrintLast Go.Proofs.YtfigbjjaffkidaaW.PrintMore
open Go.Proofs.YtfigbjjaffkidaaW.PrintWords renaming below_alloc → YA, pw_below_drewN → YB, below_drew1 → YC, blk_drewN → YD, blk_drew → YE, blk_alloc → YF, blk_cell → YG, blk_frozen → YH
open Go.Proofs.YtfigbjjaffkidaaW.PrintWords.Aside0 renaming mk → YI
attribute [local go_sem] max2_int min2_int max_two min_two max_three min_three max_four min_four   -- for this text's walks alone
def thalwegref04_Own.f (l0 : List (S45)) : Option ((List (S45))) := if ([] : List (S45)).length + l0.length < 1466015503701 then (some (([] : List (S45)) ++ l0)) else (none)
set_option maxHeartbeats 8000000 in
set_option maxRecDepth 100000 in
theorem thalwegref04_Own.calls (A0 : Option Addr) (c0 : Nat) (l0 : List (S45)) (r : List (S45)) (w : World) (hr0 : Kd.C k45 w A0 l0.length l0) (hc0 : l0.length ≤ c0) (h : thalwegref04_Own.f l0 = some r) :
    Calls Try.prog 8 #[.slice A0 l0.length c0] w fun e w' => ∃ v0_ : Value, e = .returned (v0_) ∧ Kd.R k45 45 w' w.heap.size (fun _ => True) v0_ r ∧ Below w.heap.size w w' := by
  have HR0 := YI hr0; have HC0 := YI hc0; clear hr0 hc0
  have HB := YI (Below.refl w.heap.size w)
  have H : (if ([] : List (S45)).length + l0.length < 1466015503701 then (some (([] : List (S45)) ++ l0)) else (none)) = some r := h
  clear h
  by_cases c2 : ([] : List (S45)).length + l0.length < 1466015503701
  rotate_left
  · rw [if_neg c2] at H
    exact absurd H (by simp)
  rw [if_pos c2] at H; have LMc2 := YI c2; clear c2
  obtain ⟨y101, hy101⟩ : ∃ y_ : List (S45), y_ = (([] : List (S45)) ++ l0) := ⟨_, rfl⟩
  replace H : (some y101) = some r := by first | (rw [hy101]; with_reducible exact H) | (have H2_ := (Option.bind_some _ _).symm.trans H; rw [hy101]; with_reducible exact H2_) | (have H2_ := (Option.bind_some _ _).symm.trans H; with_reducible exact H2_) | with_reducible exact H | (rw [hy101]; exact H) | exact H
  have Ny101 := YI hy101; clear hy101
  obtain rfl := Option.some.inj H
  go_enter Try.func8, Try.ntmps8
  go_wp2_with (first | ((with_reducible refine gate_builtin (b := .append) (xs := #[.tmp 4, .tmp 5]) rfl ?_); at_builtin; refine Kd.R_append_rows k45 (w0 := w) w.heap.size rfl (.tmp 4) (.tmp 5) 22 45 (.agg #[(.int .i64 0), (.int .i64 0), (.bool false), (.int .i64 0), (.int .i64 0), (.int .i64 0), (.int .i64 0), (.int .i64 0), (.int .i64 0), (.int .i64 0), (.int .i64 0), (.int .i64 0)]) 96 rfl Try.underlying22 info45 rfl (by decide) (by omega) (.slice none 0 0) ([] : List (S45)) l0 _ _ _ (fun _ => True) (fun _ => False) rfl rfl ?aO ?aR (fun _ _ h => h) (fun _ h => h.elim) ?aF ?aB ?aS ?aL ?_; (case aR => repeat (first | exact HR0.out | (with_reducible refine Kd.C_alloc ?_ _) | (with_reducible refine Kd.C_drewN ?_ _) | (with_reducible refine Kd.C_drew ?_))); (case aB => exact (by repeat (first | (with_reducible first | exact HB.out | apply YA | apply YB | apply YC) | exact HB.out))); (case aF => exact (fun _ _ => trivial)); (case aO => exact ((Kd.R_nil _ _ _ _ (fun _ => True)))); (case aS => exact (below_size (by repeat (first | (with_reducible first | exact HB.out | apply YA | apply YB | apply YC) | exact HB.out)))); (case aL => have := LMc2.out; omega); intro v102 w3 ho hb hg hat; rw [← Ny101.out] at ho; have n0_ := YI (hb); have n1_ := YI (ho); clear HB; have HB := n0_; have HO103 := n1_; clear n0_ n1_; clear ho hb hg hat))
  go_ret
  exact ⟨_, by first | rfl | (simp [errW_none, errW_some] <;> rfl) | (simp [*, errW_none, errW_some] <;> rfl), by (with_reducible repeat (first | apply Kd.R_alloc | apply Kd.R_drewN | apply Kd.R_drew)); exact HO103.out, by repeat (first | (with_reducible first | exact HB.out | apply YA | apply YB | apply YC) | exact HB.out)⟩
def height_Null.f (a0 : Int) : Option (Bool × Int × Int × Int × Int × Int) := some (true, 0, 0, 0, 0, a0)
set_option maxHeartbeats 8000000 in
set_option maxRecDepth 100000 in
theorem height_Null.calls (a0 : Int) (r1 : Bool) (r2 : Int) (r3 : Int) (r4 : Int) (r5 : Int) (r6 : Int) (w : World) (h : height_Null.f a0 = some (r1, r2, r3, r4, r5, r6)) :
    Calls Try.prog 51 #[.int .i64 a0] w fun e w' => e = .returned (.agg #[.bool r1, .int .i64 r2, .int .i64 r3, .int .i64 r4, .int .i64 r5, .int .i64 r6]) ∧ Below w.heap.size w w' := by
  have hu41 := Try.underlying41
  have HB := YI (Below.refl w.heap.size w)
  have H : (some (true, 0, 0, 0, 0, a0)) = some (r1, r2, r3, r4, r5, r6) := h
  clear h
  simp only [Option.some.injEq, Prod.mk.injEq] at H
  obtain ⟨rfl, rfl, rfl, rfl, rfl, rfl⟩ := H
  go_enter Try.func51, Try.ntmps51
  go_wp2_with (first | ((with_reducible refine gate_dst (N := 2) rfl ?_); refine box_event ?hg (N := 2) ?hd (cs := #[.bool false, .int .i64 0, .int .i64 0, .int .i64 0, .int .i64 0, .int .i64 0]) (t := 41) ?hr ?_; (case hd => rfl); (case hg => rfl); (case hr => first | (go_simp; done) | (go_simp; rfl)); intro gb104 hg w2 hbox hb; have n0_ := YI (below_step (by repeat (first | (with_reducible first | exact HB.out | apply YA | apply YB | apply YC) | exact HB.out)) hb); have n1_ := YI (hbox); have n2_ := YI ((by rw [hg]; exact (below_size (by repeat (first | (with_reducible first | exact HB.out | apply YA | apply YB | apply YC) | exact HB.out))) : w.heap.size ≤ gb104)); have n3_ := YI ((by rw [hg]; exact (below_size (by repeat (first | (with_reducible first | exact HB.out | apply YA | apply YB | apply YC) | exact HB.out))) : w.heap.size ≤ gb104)); clear HB; have HB := n0_; have BK104 := n1_; have GW104 := n2_; have GE104 := n3_; clear n0_ n1_ n2_ n3_; clear hb hbox hg; have hcz3_0 : w2.cell? ⟨gb104, 0, none⟩ = some (.bool false) := (YG BK104.out 0).trans rfl; have hcz3_1 : w2.cell? ⟨gb104, 1, none⟩ = some (.int .i64 0) := (YG BK104.out 1).trans rfl; have hcz3_2 : w2.cell? ⟨gb104, 2, none⟩ = some (.int .i64 0) := (YG BK104.out 2).trans rfl; have hcz3_3 : w2.cell? ⟨gb104, 3, none⟩ = some (.int .i64 0) := (YG BK104.out 3).trans rfl; have hcz3_4 : w2.cell? ⟨gb104, 4, none⟩ = some (.int .i64 0) := (YG BK104.out 4).trans rfl; have hcz3_5 : w2.cell? ⟨gb104, 5, none⟩ = some (.int .i64 0) := (YG BK104.out 5).trans rfl; have hfz3_0 := YH BK104.out 0; have hfz3_1 := YH BK104.out 1; have hfz3_2 := YH BK104.out 2; have hfz3_3 := YH BK104.out 3; have hfz3_4 := YH BK104.out 4; have hfz3_5 := YH BK104.out 5))
  refine bodyPost_ret (results_cell_row rfl _ _ gb104 41 #[.bool true, .int .i64 0, .int .i64 0, .int .i64 0, .int .i64 0, .int .i64 a0] (0, 0) _ rfl (by (with_reducible repeat (first | refine YD ?_ _ | refine YE ?_ | refine YF ?_ _)); refine blk_put (cs := #[.bool true, .int .i64 0, .int .i64 0, .int .i64 0, .int .i64 0, .int .i64 0]) ?_ 5 _ rfl; (with_reducible repeat (first | refine YD ?_ _ | refine YE ?_ | refine YF ?_ _)); refine blk_put (cs := #[.bool true, .int .i64 0, .int .i64 0, .int .i64 0, .int .i64 0, .int .i64 0]) ?_ 4 _ rfl; (with_reducible repeat (first | refine YD ?_ _ | refine YE ?_ | refine YF ?_ _)); refine blk_put (cs := #[.bool true, .int .i64 0, .int .i64 0, .int .i64 0, .int .i64 0, .int .i64 0]) ?_ 3 _ rfl; (with_reducible repeat (first | refine YD ?_ _ | refine YE ?_ | refine YF ?_ _)); refine blk_put (cs := #[.bool true, .int .i64 0, .int .i64 0, .int .i64 0, .int .i64 0, .int .i64 0]) ?_ 2 _ rfl; (with_reducible repeat (first | refine YD ?_ _ | refine YE ?_ | refine YF ?_ _)); refine blk_put (cs := #[.bool true, .int .i64 0, .int .i64 0, .int .i64 0, .int .i64 0, .int .i64 0]) ?_ 1 _ rfl; (with_reducible repeat (first | refine YD ?_ _ | refine YE ?_ | refine YF ?_ _)); refine blk_put (cs := #[.bool false, .int .i64 0, .int .i64 0, .int .i64 0, .int .i64 0, .int .i64 0]) ?_ 0 _ rfl; (with_reducible repeat (first | refine YD ?_ _ | refine YE ?_ | refine YF ?_ _)); exact BK104.out) Try.underlying41 rfl (by kernel_rfl)) rfl ?_
  exact ⟨by first | rfl | (simp [errW_none, errW_some] <;> rfl) | (simp [*, errW_none, errW_some] <;> rfl), by repeat (first | (with_reducible first | exact HB.out | apply YA | apply YB | apply YC | refine below_set ?_ GE104.out) | exact HB.out)⟩
end Go.Proofs.Ytfigbjjaffkidaa.P
namespace Go.Proofs.Ytfigbjjaffkidaa.P
open Go.RowKit Go.Proofs.YtfigbjjaffkidaaW.PrintWords Go.Proofs.YtfigbjjaffkidaaW.PrintLast Go.Proofs.YtfigbjjaffkidaaW.PrintMore
open Go.Proofs.YtfigbjjaffkidaaW.PrintWords renaming below_alloc → YA, pw_below_drewN → YB, below_drew1 → YC, blk_drewN → YD, blk_drew → YE, blk_alloc → YF, blk_cell → YG, blk_frozen → YH
open Go.Proofs.YtfigbjjaffkidaaW.PrintWords.Aside0 renaming mk → YI
open List renaming setIfInBounds_toArray → YJ, set_cons_zero → YK, set_cons_succ → YL
attribute [local go_sem] max2_int min2_int max_two min_two max_three min_three max_four min_four   -- for this text's walks alone
attribute [local go_sem high] eqA41
def height_Check.j0 : Nat → Bool → Bool → Int → Int → Int → Int → Int → Option (Int)
  | 0, _, _, _, _, _, _, _ => none
  | k + 1, x3, x106000, x106001, x106002, x106003, x106004, x106005 => if x106000 = true then (if x3 = true then ((height_Null.f x106005).bind fun bt106 => (if ((bt106.1 && (x106001 == bt106.2.1 && (x106002 == bt106.2.2.1 && (x106003 == bt106.2.2.2.1 && (x106004 == bt106.2.2.2.2.1 && (x106005 == bt106.2.2.2.2.2)))))) = true) then (some 0) else (some 1))) else (some 1)) else (if x3 = true then (if x106001 ≥ 0 then (if x106001 ≤ 4611686018427387903 then (if x106002 ≥ 0 then (if x106002 < 64 then (if (x106003 / 2) = 0 then (if x106004 ≥ (-1099511627776) then (if x106004 ≤ 1099511627776 then (some 0) else (some 1)) else (some 1)) else (some 1)) else (some 1)) else (some 1)) else (some 1)) else (some 1)) else (some 1))
def height_Check.f (k : Nat) (a0_0 : Bool) (a0_1 : Int) (a0_2 : Int) (a0_3 : Int) (a0_4 : Int) (a0_5 : Int) : Option (Int) := if a0_5 ≥ 0 then (height_Check.j0 k (decide (a0_5 < 64)) a0_0 a0_1 a0_2 a0_3 a0_4 a0_5) else (height_Check.j0 k false a0_0 a0_1 a0_2 a0_3 a0_4 a0_5)
theorem height_Check.mono_l : ∀ k, (∀ y0 y1 y2 y3 y4 y5 y6, LeO (height_Check.j0 k y0 y1 y2 y3 y4 y5 y6) (height_Check.j0 (k + 1) y0 y1 y2 y3 y4 y5 y6))
  | 0 => fun _ _ _ _ _ _ _ r h => by simp [height_Check.j0] at h
  | k + 1 => by
    have ih0 := height_Check.mono_l k
    · intro y0 y1 y2 y3 y4 y5 y6
      unfold height_Check.j0
      repeat' first
      | (with_reducible exact ih0 _ _ _ _ _ _ _)
      | (with_reducible exact LeO.refl _)
      | (with_reducible exact LeO.none _)
      | (with_reducible refine LeO.ite ?_ ?_)
      | (with_reducible refine LeO.bind ?_ (fun _ => ?_))
      | exact ih0 _ _ _ _ _ _ _
      | exact LeO.none _
      | refine LeO.ite ?_ ?_
      | refine LeO.bind ?_ (fun _ => ?_)
theorem height_Check.mono : ∀ a0 a1 a2 a3 a4 a5 k, LeO (height_Check.f k a0 a1 a2 a3 a4 a5) (height_Check.f (k + 1) a0 a1 a2 a3 a4 a5) := by
  intro a0 a1 a2 a3 a4 a5 k
  have ih0 := height_Check.mono_l k
  unfold height_Check.f
  repeat' first
      | (with_reducible exact ih0 _ _ _ _ _ _ _)
      | (with_reducible exact LeO.refl _)
      | (with_reducible exact LeO.none _)
      | (with_reducible refine LeO.ite ?_ ?_)
      | (with_reducible refine LeO.bind ?_ (fun _ => ?_))
      | exact ih0 _ _ _ _ _ _ _
      | exact LeO.none _
      | refine LeO.ite ?_ ?_
      | refine LeO.bind ?_ (fun _ => ?_)
def height_Check.T3 : Bool × List (List Nat × List Nat) := (true, [([], []), ([0], [0]), ([1], [1]), ([1], [1]), ([3, 1], [1, 3]), ([4, 1, 1], [1, 4]), ([2, 5, 1], [1, 2, 5]), ([1, 6], [1, 6]), ([7, 5, 0, 1, 2, 3, 4, 5, 6, 7], [0, 7])])
def height_Check.B3 : List Nat := [0, 1, 3, 3, 11, 27, 63, 127, 255]
theorem height_Check.tab3 : rtab .any (opsOf Try.f44 3) = height_Check.T3 := by kernel_rfl
theorem height_Check.bits3 : waitsOk height_Check.T3.2 height_Check.B3 = true := by kernel_rfl
set_option maxHeartbeats 8000000 in
set_option maxRecDepth 100000 in
theorem height_Check.calls (k : Nat) (a0_0 : Bool) (a0_1 : Int) (a0_2 : Int) (a0_3 : Int) (a0_4 : Int) (a0_5 : Int) (r : Int) (w : World) (h : height_Check.f k a0_0 a0_1 a0_2 a0_3 a0_4 a0_5 = some r) :
    Calls Try.prog 44 #[.agg #[.bool a0_0, .int .i64 a0_1, .int .i64 a0_2, .int .i64 a0_3, .int .i64 a0_4, .int .i64 a0_5]] w fun e w' => e = .returned (.int .i64 r) ∧ Below w.heap.size w w' := by
  have hu41 := Try.underlying41
  have HB := YI (Below.refl w.heap.size w)
  have H : (if a0_5 ≥ 0 then (height_Check.j0 k (decide (a0_5 < 64)) a0_0 a0_1 a0_2 a0_3 a0_4 a0_5) else (height_Check.j0 k false a0_0 a0_1 a0_2 a0_3 a0_4 a0_5)) = some r := h
  clear h; have HC2 := YI H; clear H
  go_enter Try.func44, Try.ntmps44
  go_upto_region 1 with (first | ((with_reducible refine gate_dst (N := 1) rfl ?_); refine box_event ?hg (N := 1) ?hd (cs := #[.bool a0_0, .int .i64 a0_1, .int .i64 a0_2, .int .i64 a0_3, .int .i64 a0_4, .int .i64 a0_5]) (t := 41) ?hr ?_; (case hd => rfl); (case hg => rfl); (case hr => first | (go_simp; done) | (go_simp; rfl)); intro gb105 hg w3 hbox hb; have n0_ := YI (below_step (by repeat (first | (with_reducible first | exact HB.out | apply YA | apply YB | apply YC) | exact HB.out)) hb); have n1_ := YI (hbox); have n2_ := YI ((by rw [hg]; exact (below_size (by repeat (first | (with_reducible first | exact HB.out | apply YA | apply YB | apply YC) | exact HB.out))) : w.heap.size ≤ gb105)); have n3_ := YI ((by rw [hg]; exact (below_size (by repeat (first | (with_reducible first | exact HB.out | apply YA | apply YB | apply YC) | exact HB.out))) : w.heap.size ≤ gb105)); clear HB; have HB := n0_; have BK105 := n1_; have GW105 := n2_; have GE105 := n3_; clear n0_ n1_ n2_ n3_; clear hb hbox hg))
  (try simp only [Act.put, YJ, YK, YL])
  go_cut [3] (fun v3 wc => ∃ (kq : Nat) (x3_1 : Bool), v3 = .bool x3_1 ∧ Aside0 (height_Check.j0 kq x3_1 a0_0 a0_1 a0_2 a0_3 a0_4 a0_5 = some r) ∧ Aside0 (kq ≤ k) ∧ Aside0 (wc.heap[gb105]? = some (.cells #[.bool a0_0, .int .i64 a0_1, .int .i64 a0_2, .int .i64 a0_3, .int .i64 a0_4, .int .i64 a0_5] 41 (0, 0))) ∧ Aside0 (Below w.heap.size w wc))
  case first =>
    have H := HC2.out
    clear HC2
    by_cases c4 : a0_5 ≥ 0
    · rw [if_pos c4] at H
      have c4b0 : decide (0 ≤ a0_5) = true := decide_eq_true c4; clear c4
      (first | rw [c4b0] | (simp only [i64_w, i32_w]; rw [c4b0]) | skip)
      have H' := YI H
      clear H
      have hcz5_0 : w3.cell? ⟨gb105, 0, none⟩ = some (.bool a0_0) := (YG BK105.out 0).trans rfl
      have hcz5_1 : w3.cell? ⟨gb105, 1, none⟩ = some (.int .i64 a0_1) := (YG BK105.out 1).trans rfl
      have hcz5_2 : w3.cell? ⟨gb105, 2, none⟩ = some (.int .i64 a0_2) := (YG BK105.out 2).trans rfl
      have hcz5_3 : w3.cell? ⟨gb105, 3, none⟩ = some (.int .i64 a0_3) := (YG BK105.out 3).trans rfl
      have hcz5_4 : w3.cell? ⟨gb105, 4, none⟩ = some (.int .i64 a0_4) := (YG BK105.out 4).trans rfl
      have hcz5_5 : w3.cell? ⟨gb105, 5, none⟩ = some (.int .i64 a0_5) := (YG BK105.out 5).trans rfl
      have hfz5_0 := YH BK105.out 0
      have hfz5_1 := YH BK105.out 1
      have hfz5_2 := YH BK105.out 2
      have hfz5_3 := YH BK105.out 3
      have hfz5_4 := YH BK105.out 4
      have hfz5_5 := YH BK105.out 5
      go_wp2
      go_meet
      case rel => exact ⟨_, (decide (a0_5 < 64)), (by first | rfl | (simp; done) | (simp [*]; done)), H', ⟨by first | omega | exact Nat.le_refl _⟩, ⟨by (with_reducible repeat (first | refine YD ?_ _ | refine YE ?_ | refine YF ?_ _)); exact BK105.out⟩, ⟨by repeat (first | (with_reducible first | exact HB.out | apply YA | apply YB | apply YC | refine below_set ?_ GE105.out) | exact HB.out)⟩⟩
    rw [if_neg c4] at H; have c4b0 : decide (0 ≤ a0_5) = false := decide_eq_false c4; clear c4
    (first | rw [c4b0] | (simp only [i64_w, i32_w]; rw [c4b0]) | skip)
    have H' := YI H
    clear H
    have hcz6_0 : w3.cell? ⟨gb105, 0, none⟩ = some (.bool a0_0) := (YG BK105.out 0).trans rfl
    have hcz6_1 : w3.cell? ⟨gb105, 1, none⟩ = some (.int .i64 a0_1) := (YG BK105.out 1).trans rfl
    have hcz6_2 : w3.cell? ⟨gb105, 2, none⟩ = some (.int .i64 a0_2) := (YG BK105.out 2).trans rfl
    have hcz6_3 : w3.cell? ⟨gb105, 3, none⟩ = some (.int .i64 a0_3) := (YG BK105.out 3).trans rfl
    have hcz6_4 : w3.cell? ⟨gb105, 4, none⟩ = some (.int .i64 a0_4) := (YG BK105.out 4).trans rfl
    have hcz6_5 : w3.cell? ⟨gb105, 5, none⟩ = some (.int .i64 a0_5) := (YG BK105.out 5).trans rfl
    have hfz6_0 := YH BK105.out 0
    have hfz6_1 := YH BK105.out 1
    have hfz6_2 := YH BK105.out 2
    have hfz6_3 := YH BK105.out 3
    have hfz6_4 := YH BK105.out 4
    have hfz6_5 := YH BK105.out 5
    go_wp2
    go_meet
    case rel => exact ⟨_, (false), (by first | rfl | (simp; done) | (simp [*]; done)), H', ⟨by first | omega | exact Nat.le_refl _⟩, ⟨by (with_reducible repeat (first | refine YD ?_ _ | refine YE ?_ | refine YF ?_ _)); exact BK105.out⟩, ⟨by repeat (first | (with_reducible first | exact HB.out | apply YA | apply YB | apply YC | refine below_set ?_ GE105.out) | exact HB.out)⟩⟩
  case rest =>
    clear HC2
    try clear p2
    try clear c4
    try clear c4b0
    try clear hcz5_0
    try clear hcz5_1
    try clear hcz5_2
    try clear hcz5_3
    try clear hcz5_4
    try clear hcz5_5
    try clear hcz6_0
    try clear hcz6_1
    try clear hcz6_2
    try clear hcz6_3
    try clear hcz6_4
    try clear hcz6_5
    try clear hfz5_0
    try clear hfz5_1
    try clear hfz5_2
    try clear hfz5_3
    try clear hfz5_4
    try clear hfz5_5
    try clear hfz6_0
    try clear hfz6_1
    try clear hfz6_2
    try clear hfz6_3
    try clear hfz6_4
    try clear hfz6_5
    obtain ⟨kq, x3_1, rfl, HA, HJ1, BK105, HB⟩ := hcut
    cases kq with
    | zero => exact absurd HA.out (by simp [height_Check.j0])
    | succ kj1 =>
      have H := HA.out
      clear HA
      simp only [height_Check.j0] at H
      by_cases c7 : a0_0 = true
      · subst c7
        have H1 : (if x3_1 = true then ((height_Null.f a0_5).bind fun bt106 => (if ((bt106.1 && (a0_1 == bt106.2.1 && (a0_2 == bt106.2.2.1 && (a0_3 == bt106.2.2.2.1 && (a0_4 == bt106.2.2.2.2.1 && (a0_5 == bt106.2.2.2.2.2)))))) = true) then (some 0) else (some 1))) else (some 1)) = some r := by rw [if_pos rfl] at H; exact H
        clear H
        have H := H1
        clear H1
        by_cases c8 : x3_1 = true
        · subst c8
          have H1 : ((height_Null.f a0_5).bind fun bt106 => (if ((bt106.1 && (a0_1 == bt106.2.1 && (a0_2 == bt106.2.2.1 && (a0_3 == bt106.2.2.2.1 && (a0_4 == bt106.2.2.2.2.1 && (a0_5 == bt106.2.2.2.2.2)))))) = true) then (some 0) else (some 1))) = some r := by rw [if_pos rfl] at H; exact H
          clear H
          have H := H1
          clear H1; replace H := Option.bind_eq_some_iff.mp H
          obtain ⟨⟨t106, t107, t108, t109, t110, t111⟩, A90, H⟩ := H
          replace H : (if ((t106 && (a0_1 == t107 && (a0_2 == t108 && (a0_3 == t109 && (a0_4 == t110 && (a0_5 == t111)))))) = true) then (some 0) else (some 1)) = some r := H
          have A9 := YI A90; clear A90
          by_cases c10 : ((t106 && (a0_1 == t107 && (a0_2 == t108 && (a0_3 == t109 && (a0_4 == t110 && (a0_5 == t111)))))) = true)
          · rw [if_pos c10] at H
            have c10b0 : (t106 && (a0_1 == t107 && (a0_2 == t108 && (a0_3 == t109 && (a0_4 == t110 && (a0_5 == t111)))))) = true := c10
            clear c10
            obtain rfl := Option.some.inj H
            have hcz11_0 : wc.cell? ⟨gb105, 0, none⟩ = some (.bool true) := (YG BK105.out 0).trans rfl
            have hcz11_1 : wc.cell? ⟨gb105, 1, none⟩ = some (.int .i64 a0_1) := (YG BK105.out 1).trans rfl
            have hcz11_2 : wc.cell? ⟨gb105, 2, none⟩ = some (.int .i64 a0_2) := (YG BK105.out 2).trans rfl
            have hcz11_3 : wc.cell? ⟨gb105, 3, none⟩ = some (.int .i64 a0_3) := (YG BK105.out 3).trans rfl
            have hcz11_4 : wc.cell? ⟨gb105, 4, none⟩ = some (.int .i64 a0_4) := (YG BK105.out 4).trans rfl
            have hcz11_5 : wc.cell? ⟨gb105, 5, none⟩ = some (.int .i64 a0_5) := (YG BK105.out 5).trans rfl
            have hfz11_0 := YH BK105.out 0
            have hfz11_1 := YH BK105.out 1
            have hfz11_2 := YH BK105.out 2
            have hfz11_3 := YH BK105.out 3
            have hfz11_4 := YH BK105.out 4
            have hfz11_5 := YH BK105.out 5
            try go_wp2
            have n0_ := YI (YE BK105.out)
            have n1_ := YI (YC HB.out)
            clear BK105; clear HB; have BK105 := n0_; have HB := n1_; clear n0_ n1_
            refine start_ (n := 9) (S := fun w' => w'.cell? ⟨gb105, 0, none⟩ = some (.bool true) ∧ w'.cell? ⟨gb105, 1, none⟩ = some (.int .i64 a0_1) ∧ w'.cell? ⟨gb105, 2, none⟩ = some (.int .i64 a0_2) ∧ w'.cell? ⟨gb105, 3, none⟩ = some (.int .i64 a0_3) ∧ w'.cell? ⟨gb105, 4, none⟩ = some (.int .i64 a0_4) ∧ w'.cell? ⟨gb105, 5, none⟩ = some (.int .i64 a0_5)) (ds := []) #[false, false, false, false, false, false, false, false, false] (by kernel_rfl) rfl rfl ⟨(YG BK105.out 0).trans rfl, (YG BK105.out 1).trans rfl, (YG BK105.out 2).trans rfl, (YG BK105.out 3).trans rfl, (YG BK105.out 4).trans rfl, (YG BK105.out 5).trans rfl⟩ (fun hHeld => ?_); refine with_tabW height_Check.tab3 height_Check.bits3 (fun HT_ HW_ => ?_)
            generalize wc.drew = w12 at BK105 HB hHeld ⊢
            refine pure_ (i := 0) (N := some 14) (v := ?_) (a' := ?_) #[true, false, false, false, false, false, false, false, false] rfl rfl (any_of HT_.out (by kernel_rfl)) (fun _ _ _ h => h) (Or.inl ⟨by rfl, ?_⟩) ?_ ?_
            rotate_left
            · intro w'
              go_simp; with_reducible rfl
            rotate_left
            · simp only [Act.put, YJ, YK, YL, i64_w, i32_w]
              rfl
            refine pure_ (i := 1) (N := some 15) (v := ?_) (a' := ?_) #[true, true, false, false, false, false, false, false, false] rfl rfl (any_of HT_.out (by kernel_rfl)) (fun _ _ _ h => h) (Or.inl ⟨by rfl, ?_⟩) ?_ ?_
            rotate_left
            · intro w'
              go_simp; with_reducible rfl
            rotate_left
            · simp only [Act.put, YJ, YK, YL, i64_w, i32_w]
              rfl
            refine pure_ (i := 3) (N := some 17) (v := ?_) (a' := ?_) #[true, true, false, true, false, false, false, false, false] rfl rfl (any_of HT_.out (by kernel_rfl)) (fun _ _ _ h => h) (Or.inl ⟨by rfl, ?_⟩) ?_ ?_
            rotate_left
            · intro w'
              go_simp; with_reducible rfl
            rotate_left
            · simp only [Act.put, YJ, YK, YL, i64_w, i32_w]
              rfl
            refine take_ (i := 2) (N := some 16) (v := ?_) (a' := ?_) #[true, true, true, true, false, false, false, false, false] rfl rfl (take_ofW HT_.out HW_.out (by kernel_rfl)) (fun _ _ _ h => h) (Or.inl ⟨by rfl, ?_⟩) hHeld ?_ ?_
            rotate_left
            · rintro w' ⟨s0, s1, s2, s3, s4, s5⟩
              go_simp; with_reducible rfl
            rotate_left
            · simp only [Act.put, YJ, YK, YL, i64_w, i32_w]
              rfl
            refine take_ (i := 4) (N := some 18) (v := ?_) (a' := ?_) #[true, true, true, true, true, false, false, false, false] rfl rfl (take_ofW HT_.out HW_.out (by kernel_rfl)) (fun _ _ _ h => h) (Or.inl ⟨by rfl, ?_⟩) hHeld ?_ ?_
            rotate_left
            · rintro w' ⟨s0, s1, s2, s3, s4, s5⟩
              go_simp; with_reducible rfl
            rotate_left
            · simp only [Act.put, YJ, YK, YL, i64_w, i32_w]
              rfl
            refine one_ (i := 5) (N := some 19) #[true, true, true, true, true, true, false, false, false] rfl rfl (one_of HT_.out (by kernel_rfl)) (by decide) (fun K hK => ?_)
            refine goes_ Try.func51 (by kernel_rfl) rfl #[.int .i64 a0_5] (by rfl) rfl rfl (by (try simp only [List.map_toArray, List.map_cons, List.map_nil]); first | done | rfl | (simp only [List.length_drop, List.length_take]; rfl)) ?_
            with_reducible refine (height_Null.calls a0_5 t106 t107 t108 t109 t110 t111 _ A9.out).mono ?_
            rintro e w13 ⟨rfl, hb⟩
            refine ⟨_, rfl, ?_⟩
            have n0_ := YI (blk_below (g := gb105) (o := .cells #[.bool true, .int .i64 a0_1, .int .i64 a0_2, .int .i64 a0_3, .int .i64 a0_4, .int .i64 a0_5] 41 (0, 0)) (by (with_reducible repeat (first | refine YD ?_ _ | refine YE ?_ | refine YF ?_ _)); exact BK105.out) hb)
            have n1_ := YI (below_step (by repeat (first | (with_reducible first | exact HB.out | apply YA | apply YB | apply YC | refine below_set ?_ GE105.out) | exact HB.out)) hb)
            clear BK105; clear HB; have BK105 := n0_; have HB := n1_; clear n0_ n1_; (try clear hb); (try clear hb2); (try clear hk); (try clear hi)
            refine hK.out _ _ ⟨(YG BK105.out 0).trans rfl, (YG BK105.out 1).trans rfl, (YG BK105.out 2).trans rfl, (YG BK105.out 3).trans rfl, (YG BK105.out 4).trans rfl, (YG BK105.out 5).trans rfl⟩ (fun hHeld => ?_)
            clear hK K
            refine norm_ (a' := ?_) ?_ ?_
            rotate_left
            · show Act.put _ (some 19) _ = _
              simp only [Act.put, YJ, YK, YL, i64_w, i32_w]
              rfl
            refine pure_ (i := 6) (N := some 20) (v := ?_) (a' := ?_) #[true, true, true, true, true, true, true, false, false] rfl rfl (any_of HT_.out (by kernel_rfl)) (fun _ _ _ h => h) (Or.inl ⟨by rfl, ?_⟩) ?_ ?_
            rotate_left
            · intro w'
              go_simp; with_reducible rfl
            rotate_left
            · simp only [Act.put, YJ, YK, YL, i64_w, i32_w]
              rfl
            refine pure_ (i := 7) (N := some 21) (v := ?_) (a' := ?_) #[true, true, true, true, true, true, true, true, false] rfl rfl (any_of HT_.out (by kernel_rfl)) (fun _ _ _ h => h) (Or.inl ⟨by rfl, ?_⟩) ?_ ?_
            rotate_left
            · intro w'
              go_simp; with_reducible rfl
            rotate_left
            · simp only [Act.put, YJ, YK, YL, i64_w, i32_w]
              rfl
            refine pure_ (i := 8) (N := some 3) (v := ?_) (a' := ?_) #[true, true, true, true, true, true, true, true, true] rfl rfl (any_of HT_.out (by kernel_rfl)) (fun _ _ _ h => h) (Or.inl ⟨by rfl, ?_⟩) ?_ ?_
            rotate_left
            · intro w'
              go_simp; with_reducible rfl
            rotate_left
            · simp only [Act.put, YJ, YK, YL, i64_w, i32_w]
              rfl
            refine done_ (done_of HT_.out (by kernel_rfl)) ?_
            try go_wp2
            go_ret
            exact ⟨by first | rfl | (simp [errW_none, errW_some] <;> rfl) | (simp [*, errW_none, errW_some] <;> rfl), by repeat (first | (with_reducible first | exact HB.out | apply YA | apply YB | apply YC | refine below_set ?_ GE105.out) | exact HB.out)⟩
          rw [if_neg c10] at H
          have c10b0 : (t106 && (a0_1 == t107 && (a0_2 == t108 && (a0_3 == t109 && (a0_4 == t110 && (a0_5 == t111)))))) = false := by simpa using c10
          clear c10
          obtain rfl := Option.some.inj H
          have hcz14_0 : wc.cell? ⟨gb105, 0, none⟩ = some (.bool true) := (YG BK105.out 0).trans rfl
          have hcz14_1 : wc.cell? ⟨gb105, 1, none⟩ = some (.int .i64 a0_1) := (YG BK105.out 1).trans rfl
          have hcz14_2 : wc.cell? ⟨gb105, 2, none⟩ = some (.int .i64 a0_2) := (YG BK105.out 2).trans rfl
          have hcz14_3 : wc.cell? ⟨gb105, 3, none⟩ = some (.int .i64 a0_3) := (YG BK105.out 3).trans rfl
          have hcz14_4 : wc.cell? ⟨gb105, 4, none⟩ = some (.int .i64 a0_4) := (YG BK105.out 4).trans rfl
          have hcz14_5 : wc.cell? ⟨gb105, 5, none⟩ = some (.int .i64 a0_5) := (YG BK105.out 5).trans rfl
          have hfz14_0 := YH BK105.out 0
          have hfz14_1 := YH BK105.out 1
          have hfz14_2 := YH BK105.out 2
          have hfz14_3 := YH BK105.out 3
          have hfz14_4 := YH BK105.out 4
          have hfz14_5 := YH BK105.out 5
          try go_wp2
          have n0_ := YI (YE BK105.out)
          have n1_ := YI (YC HB.out)
          clear BK105; clear HB; have BK105 := n0_; have HB := n1_; clear n0_ n1_
          refine start_ (n := 9) (S := fun w' => w'.cell? ⟨gb105, 0, none⟩ = some (.bool true) ∧ w'.cell? ⟨gb105, 1, none⟩ = some (.int .i64 a0_1) ∧ w'.cell? ⟨gb105, 2, none⟩ = some (.int .i64 a0_2) ∧ w'.cell? ⟨gb105, 3, none⟩ = some (.int .i64 a0_3) ∧ w'.cell? ⟨gb105, 4, none⟩ = some (.int .i64 a0_4) ∧ w'.cell? ⟨gb105, 5, none⟩ = some (.int .i64 a0_5)) (ds := []) #[false, false, false, false, false, false, false, false, false] (by kernel_rfl) rfl rfl ⟨(YG BK105.out 0).trans rfl, (YG BK105.out 1).trans rfl, (YG BK105.out 2).trans rfl, (YG BK105.out 3).trans rfl, (YG BK105.out 4).trans rfl, (YG BK105.out 5).trans rfl⟩ (fun hHeld => ?_); refine with_tabW height_Check.tab3 height_Check.bits3 (fun HT_ HW_ => ?_)
          generalize wc.drew = w15 at BK105 HB hHeld ⊢
          refine pure_ (i := 0) (N := some 14) (v := ?_) (a' := ?_) #[true, false, false, false, false, false, false, false, false] rfl rfl (any_of HT_.out (by kernel_rfl)) (fun _ _ _ h => h) (Or.inl ⟨by rfl, ?_⟩) ?_ ?_
          rotate_left
          · intro w'
            go_simp; with_reducible rfl
          rotate_left
          · simp only [Act.put, YJ, YK, YL, i64_w, i32_w]
            rfl
          refine pure_ (i := 1) (N := some 15) (v := ?_) (a' := ?_) #[true, true, false, false, false, false, false, false, false] rfl rfl (any_of HT_.out (by kernel_rfl)) (fun _ _ _ h => h) (Or.inl ⟨by rfl, ?_⟩) ?_ ?_
          rotate_left
          · intro w'
            go_simp; with_reducible rfl
          rotate_left
          · simp only [Act.put, YJ, YK, YL, i64_w, i32_w]
            rfl
          refine pure_ (i := 3) (N := some 17) (v := ?_) (a' := ?_) #[true, true, false, true, false, false, false, false, false] rfl rfl (any_of HT_.out (by kernel_rfl)) (fun _ _ _ h => h) (Or.inl ⟨by rfl, ?_⟩) ?_ ?_
          rotate_left
          · intro w'
            go_simp; with_reducible rfl
          rotate_left
          · simp only [Act.put, YJ, YK, YL, i64_w, i32_w]
            rfl
          refine take_ (i := 2) (N := some 16) (v := ?_) (a' := ?_) #[true, true, true, true, false, false, false, false, false] rfl rfl (take_ofW HT_.out HW_.out (by kernel_rfl)) (fun _ _ _ h => h) (Or.inl ⟨by rfl, ?_⟩) hHeld ?_ ?_
          rotate_left
          · rintro w' ⟨s0, s1, s2, s3, s4, s5⟩
            go_simp; with_reducible rfl
          rotate_left
          · simp only [Act.put, YJ, YK, YL, i64_w, i32_w]
            rfl
          refine take_ (i := 4) (N := some 18) (v := ?_) (a' := ?_) #[true, true, true, true, true, false, false, false, false] rfl rfl (take_ofW HT_.out HW_.out (by kernel_rfl)) (fun _ _ _ h => h) (Or.inl ⟨by rfl, ?_⟩) hHeld ?_ ?_
          rotate_left
          · rintro w' ⟨s0, s1, s2, s3, s4, s5⟩
            go_simp; with_reducible rfl
          rotate_left
          · simp only [Act.put, YJ, YK, YL, i64_w, i32_w]
            rfl
          refine one_ (i := 5) (N := some 19) #[true, true, true, true, true, true, false, false, false] rfl rfl (one_of HT_.out (by kernel_rfl)) (by decide) (fun K hK => ?_)
          refine goes_ Try.func51 (by kernel_rfl) rfl #[.int .i64 a0_5] (by rfl) rfl rfl (by (try simp only [List.map_toArray, List.map_cons, List.map_nil]); first | done | rfl | (simp only [List.length_drop, List.length_take]; rfl)) ?_
          with_reducible refine (height_Null.calls a0_5 t106 t107 t108 t109 t110 t111 _ A9.out).mono ?_
          rintro e w16 ⟨rfl, hb⟩
          refine ⟨_, rfl, ?_⟩
          have n0_ := YI (blk_below (g := gb105) (o := .cells #[.bool true, .int .i64 a0_1, .int .i64 a0_2, .int .i64 a0_3, .int .i64 a0_4, .int .i64 a0_5] 41 (0, 0)) (by (with_reducible repeat (first | refine YD ?_ _ | refine YE ?_ | refine YF ?_ _)); exact BK105.out) hb)
          have n1_ := YI (below_step (by repeat (first | (with_reducible first | exact HB.out | apply YA | apply YB | apply YC | refine below_set ?_ GE105.out) | exact HB.out)) hb)
          clear BK105; clear HB; have BK105 := n0_; have HB := n1_; clear n0_ n1_; (try clear hb); (try clear hb2); (try clear hk); (try clear hi)
          refine hK.out _ _ ⟨(YG BK105.out 0).trans rfl, (YG BK105.out 1).trans rfl, (YG BK105.out 2).trans rfl, (YG BK105.out 3).trans rfl, (YG BK105.out 4).trans rfl, (YG BK105.out 5).trans rfl⟩ (fun hHeld => ?_)
          clear hK K
          refine norm_ (a' := ?_) ?_ ?_
          rotate_left
          · show Act.put _ (some 19) _ = _
            simp only [Act.put, YJ, YK, YL, i64_w, i32_w]
            rfl
          refine pure_ (i := 6) (N := some 20) (v := ?_) (a' := ?_) #[true, true, true, true, true, true, true, false, false] rfl rfl (any_of HT_.out (by kernel_rfl)) (fun _ _ _ h => h) (Or.inl ⟨by rfl, ?_⟩) ?_ ?_
          rotate_left
          · intro w'
            go_simp; with_reducible rfl
          rotate_left
          · simp only [Act.put, YJ, YK, YL, i64_w, i32_w]
            rfl
          refine pure_ (i := 7) (N := some 21) (v := ?_) (a' := ?_) #[true, true, true, true, true, true, true, true, false] rfl rfl (any_of HT_.out (by kernel_rfl)) (fun _ _ _ h => h) (Or.inl ⟨by rfl, ?_⟩) ?_ ?_
          rotate_left
          · intro w'
            go_simp; with_reducible rfl
          rotate_left
          · simp only [Act.put, YJ, YK, YL, i64_w, i32_w]
            rfl
          refine pure_ (i := 8) (N := some 3) (v := ?_) (a' := ?_) #[true, true, true, true, true, true, true, true, true] rfl rfl (any_of HT_.out (by kernel_rfl)) (fun _ _ _ h => h) (Or.inl ⟨by rfl, ?_⟩) ?_ ?_
          rotate_left
          · intro w'
            go_simp; with_reducible rfl
          rotate_left
          · simp only [Act.put, YJ, YK, YL, i64_w, i32_w]
            rfl
          refine done_ (done_of HT_.out (by kernel_rfl)) ?_
          try go_wp2
          go_ret
          exact ⟨by first | rfl | (simp [errW_none, errW_some] <;> rfl) | (simp [*, errW_none, errW_some] <;> rfl), by repeat (first | (with_reducible first | exact HB.out | apply YA | apply YB | apply YC | refine below_set ?_ GE105.out) | exact HB.out)⟩
        replace c8 := Bool.eq_false_iff.mpr c8
        subst c8
        have H1 : (some 1) = some r := by rw [if_neg (show ¬ (false = true) by decide)] at H; exact H
        clear H
        have H := H1
        clear H1
        obtain rfl := Option.some.inj H
        have hcz17_0 : wc.cell? ⟨gb105, 0, none⟩ = some (.bool true) := (YG BK105.out 0).trans rfl
        have hcz17_1 : wc.cell? ⟨gb105, 1, none⟩ = some (.int .i64 a0_1) := (YG BK105.out 1).trans rfl
        have hcz17_2 : wc.cell? ⟨gb105, 2, none⟩ = some (.int .i64 a0_2) := (YG BK105.out 2).trans rfl
        have hcz17_3 : wc.cell? ⟨gb105, 3, none⟩ = some (.int .i64 a0_3) := (YG BK105.out 3).trans rfl
        have hcz17_4 : wc.cell? ⟨gb105, 4, none⟩ = some (.int .i64 a0_4) := (YG BK105.out 4).trans rfl
        have hcz17_5 : wc.cell? ⟨gb105, 5, none⟩ = some (.int .i64 a0_5) := (YG BK105.out 5).trans rfl
        have hfz17_0 := YH BK105.out 0
        have hfz17_1 := YH BK105.out 1
        have hfz17_2 := YH BK105.out 2
        have hfz17_3 := YH BK105.out 3
        have hfz17_4 := YH BK105.out 4
        have hfz17_5 := YH BK105.out 5
        try go_wp2
        have n0_ := YI (YE BK105.out)
        have n1_ := YI (YC HB.out)
        clear BK105; clear HB; have BK105 := n0_; have HB := n1_; clear n0_ n1_
        refine start_ (n := 9) (S := fun w' => True) (ds := []) #[false, false, false, false, false, false, false, false, false] (by kernel_rfl) rfl rfl trivial (fun hHeld => ?_); refine with_tabW height_Check.tab3 height_Check.bits3 (fun HT_ HW_ => ?_)
        generalize wc.drew = w18 at BK105 HB hHeld ⊢
        refine pure_ (i := 0) (N := some 14) (v := ?_) (a' := ?_) #[true, false, false, false, false, false, false, false, false] rfl rfl (any_of HT_.out (by kernel_rfl)) (fun _ _ _ h => h) (Or.inl ⟨by rfl, ?_⟩) ?_ ?_
        rotate_left
        · intro w'
          go_simp; with_reducible rfl
        rotate_left
        · simp only [Act.put, YJ, YK, YL, i64_w, i32_w]
          rfl
        refine pure_ (i := 1) (N := some 15) (v := ?_) (a' := ?_) #[true, true, false, false, false, false, false, false, false] rfl rfl (any_of HT_.out (by kernel_rfl)) (fun _ _ _ h => h) (Or.inl ⟨by rfl, ?_⟩) ?_ ?_
        rotate_left
        · intro w'
          go_simp; with_reducible rfl
        rotate_left
        · simp only [Act.put, YJ, YK, YL, i64_w, i32_w]
          rfl
        refine pure_ (i := 2) (N := some 16) (v := undef) (a' := ?_) #[true, true, true, false, false, false, false, false, false] rfl rfl (any_of HT_.out (by kernel_rfl)) (fun _ _ _ h => h) (Or.inr ⟨by rfl, rfl⟩) ?_ ?_
        rotate_left
        · simp only [Act.put, YJ, YK, YL, i64_w, i32_w]
          rfl
        refine pure_ (i := 3) (N := some 17) (v := undef) (a' := ?_) #[true, true, true, true, false, false, false, false, false] rfl rfl (any_of HT_.out (by kernel_rfl)) (fun _ _ _ h => h) (Or.inr ⟨by rfl, rfl⟩) ?_ ?_
        rotate_left
        · simp only [Act.put, YJ, YK, YL, i64_w, i32_w]
          rfl
        refine pure_ (i := 4) (N := some 18) (v := undef) (a' := ?_) #[true, true, true, true, true, false, false, false, false] rfl rfl (any_of HT_.out (by kernel_rfl)) (fun _ _ _ h => h) (Or.inr ⟨by rfl, rfl⟩) ?_ ?_
        rotate_left
        · simp only [Act.put, YJ, YK, YL, i64_w, i32_w]
          rfl
        refine pure_ (i := 5) (N := some 19) (v := undef) (a' := ?_) #[true, true, true, true, true, true, false, false, false] rfl rfl (any_of HT_.out (by kernel_rfl)) (fun _ _ _ h => h) (Or.inr ⟨by rfl, rfl⟩) ?_ ?_
        rotate_left
        · simp only [Act.put, YJ, YK, YL, i64_w, i32_w]
          rfl
        refine pure_ (i := 6) (N := some 20) (v := undef) (a' := ?_) #[true, true, true, true, true, true, true, false, false] rfl rfl (any_of HT_.out (by kernel_rfl)) (fun _ _ _ h => h) (Or.inr ⟨by rfl, rfl⟩) ?_ ?_
        rotate_left
        · simp only [Act.put, YJ, YK, YL, i64_w, i32_w]
          rfl
        refine pure_ (i := 7) (N := some 21) (v := ?_) (a' := ?_) #[true, true, true, true, true, true, true, true, false] rfl rfl (any_of HT_.out (by kernel_rfl)) (fun _ _ _ h => h) (Or.inl ⟨by rfl, ?_⟩) ?_ ?_
        rotate_left
        · intro w'
          go_simp; with_reducible rfl
        rotate_left
        · simp only [Act.put, YJ, YK, YL, i64_w, i32_w]
          rfl
        refine pure_ (i := 8) (N := some 3) (v := ?_) (a' := ?_) #[true, true, true, true, true, true, true, true, true] rfl rfl (any_of HT_.out (by kernel_rfl)) (fun _ _ _ h => h) (Or.inl ⟨by rfl, ?_⟩) ?_ ?_
        rotate_left
        · intro w'
          go_simp; with_reducible rfl
        rotate_left
        · simp only [Act.put, YJ, YK, YL, i64_w, i32_w]
          rfl
        refine done_ (done_of HT_.out (by kernel_rfl)) ?_
        try go_wp2
        go_ret
        exact ⟨by first | rfl | (simp [errW_none, errW_some] <;> rfl) | (simp [*, errW_none, errW_some] <;> rfl), by repeat (first | (with_reducible first | exact HB.out | apply YA | apply YB | apply YC | refine below_set ?_ GE105.out) | exact HB.out)⟩
      replace c7 := Bool.eq_false_iff.mpr c7
      subst c7
      have H1 : (if x3_1 = true then (if a0_1 ≥ 0 then (if a0_1 ≤ 4611686018427387903 then (if a0_2 ≥ 0 then (if a0_2 < 64 then (if (a0_3 / 2) = 0 then (if a0_4 ≥ (-1099511627776) then (if a0_4 ≤ 1099511627776 then (some 0) else (some 1)) else (some 1)) else (some 1)) else (some 1)) else (some 1)) else (some 1)) else (some 1)) else (some 1)) = some r := by rw [if_neg (show ¬ (false = true) by decide)] at H; exact H
      clear H
      have H := H1
      clear H1
      by_cases c19 : x3_1 = true
      · subst c19
        have H1 : (if a0_1 ≥ 0 then (if a0_1 ≤ 4611686018427387903 then (if a0_2 ≥ 0 then (if a0_2 < 64 then (if (a0_3 / 2) = 0 then (if a0_4 ≥ (-1099511627776) then (if a0_4 ≤ 1099511627776 then (some 0) else (some 1)) else (some 1)) else (some 1)) else (some 1)) else (some 1)) else (some 1)) else (some 1)) = some r := by rw [if_pos rfl] at H; exact H
        clear H
        have H := H1
        clear H1
        by_cases c20 : a0_1 ≥ 0
        · rw [if_pos c20] at H
          have c20b0 : decide (0 ≤ a0_1) = true := decide_eq_true c20; clear c20
          by_cases c21 : a0_1 ≤ 4611686018427387903
          · rw [if_pos c21] at H
            have c21b0 : decide (a0_1 ≤ 4611686018427387903) = true := decide_eq_true c21; clear c21
            by_cases c22 : a0_2 ≥ 0
            · rw [if_pos c22] at H
              have c22b0 : decide (0 ≤ a0_2) = true := decide_eq_true c22; clear c22
              by_cases c23 : a0_2 < 64
              · rw [if_pos c23] at H
                have c23b0 : decide (a0_2 < 64) = true := decide_eq_true c23; clear c23
                by_cases c24 : (a0_3 / 2) = 0
                · rw [if_pos c24] at H
                  have c24b0 : ((a0_3 / 2) == 0) = true := beq_iff_eq.mpr c24
                  have c24b1 : ((a0_3 / 2) != 0) = false := bne_eq_false_iff_eq.mpr c24
                  clear c24
                  by_cases c25 : a0_4 ≥ (-1099511627776)
                  · rw [if_pos c25] at H
                    have c25b0 : decide ((-1099511627776) ≤ a0_4) = true := decide_eq_true c25; clear c25
                    by_cases c26 : a0_4 ≤ 1099511627776
                    · rw [if_pos c26] at H
                      have c26b0 : decide (a0_4 ≤ 1099511627776) = true := decide_eq_true c26; clear c26
                      obtain rfl := Option.some.inj H
                      have hcz27_0 : wc.cell? ⟨gb105, 0, none⟩ = some (.bool false) := (YG BK105.out 0).trans rfl
                      have hcz27_1 : wc.cell? ⟨gb105, 1, none⟩ = some (.int .i64 a0_1) := (YG BK105.out 1).trans rfl
                      have hcz27_2 : wc.cell? ⟨gb105, 2, none⟩ = some (.int .i64 a0_2) := (YG BK105.out 2).trans rfl
                      have hcz27_3 : wc.cell? ⟨gb105, 3, none⟩ = some (.int .i64 a0_3) := (YG BK105.out 3).trans rfl
                      have hcz27_4 : wc.cell? ⟨gb105, 4, none⟩ = some (.int .i64 a0_4) := (YG BK105.out 4).trans rfl
                      have hcz27_5 : wc.cell? ⟨gb105, 5, none⟩ = some (.int .i64 a0_5) := (YG BK105.out 5).trans rfl
                      have hfz27_0 := YH BK105.out 0
                      have hfz27_1 := YH BK105.out 1
                      have hfz27_2 := YH BK105.out 2
                      have hfz27_3 := YH BK105.out 3
                      have hfz27_4 := YH BK105.out 4
                      have hfz27_5 := YH BK105.out 5
                      go_wp2
                      go_ret
                      exact ⟨by first | rfl | (simp [errW_none, errW_some] <;> rfl) | (simp [*, errW_none, errW_some] <;> rfl), by repeat (first | (with_reducible first | exact HB.out | apply YA | apply YB | apply YC | refine below_set ?_ GE105.out) | exact HB.out)⟩
                    rw [if_neg c26] at H; have c26b0 : decide (a0_4 ≤ 1099511627776) = false := decide_eq_false c26; clear c26
                    obtain rfl := Option.some.inj H
                    have hcz28_0 : wc.cell? ⟨gb105, 0, none⟩ = some (.bool false) := (YG BK105.out 0).trans rfl
                    have hcz28_1 : wc.cell? ⟨gb105, 1, none⟩ = some (.int .i64 a0_1) := (YG BK105.out 1).trans rfl
                    have hcz28_2 : wc.cell? ⟨gb105, 2, none⟩ = some (.int .i64 a0_2) := (YG BK105.out 2).trans rfl
                    have hcz28_3 : wc.cell? ⟨gb105, 3, none⟩ = some (.int .i64 a0_3) := (YG BK105.out 3).trans rfl
                    have hcz28_4 : wc.cell? ⟨gb105, 4, none⟩ = some (.int .i64 a0_4) := (YG BK105.out 4).trans rfl
                    have hcz28_5 : wc.cell? ⟨gb105, 5, none⟩ = some (.int .i64 a0_5) := (YG BK105.out 5).trans rfl
                    have hfz28_0 := YH BK105.out 0
                    have hfz28_1 := YH BK105.out 1
                    have hfz28_2 := YH BK105.out 2
                    have hfz28_3 := YH BK105.out 3
                    have hfz28_4 := YH BK105.out 4
                    have hfz28_5 := YH BK105.out 5
                    go_wp2
                    go_ret
                    exact ⟨by first | rfl | (simp [errW_none, errW_some] <;> rfl) | (simp [*, errW_none, errW_some] <;> rfl), by repeat (first | (with_reducible first | exact HB.out | apply YA | apply YB | apply YC | refine below_set ?_ GE105.out) | exact HB.out)⟩
                  rw [if_neg c25] at H; have c25b0 : decide ((-1099511627776) ≤ a0_4) = false := decide_eq_false c25; clear c25
                  obtain rfl := Option.some.inj H
                  have hcz29_0 : wc.cell? ⟨gb105, 0, none⟩ = some (.bool false) := (YG BK105.out 0).trans rfl
                  have hcz29_1 : wc.cell? ⟨gb105, 1, none⟩ = some (.int .i64 a0_1) := (YG BK105.out 1).trans rfl
                  have hcz29_2 : wc.cell? ⟨gb105, 2, none⟩ = some (.int .i64 a0_2) := (YG BK105.out 2).trans rfl
                  have hcz29_3 : wc.cell? ⟨gb105, 3, none⟩ = some (.int .i64 a0_3) := (YG BK105.out 3).trans rfl
                  have hcz29_4 : wc.cell? ⟨gb105, 4, none⟩ = some (.int .i64 a0_4) := (YG BK105.out 4).trans rfl
                  have hcz29_5 : wc.cell? ⟨gb105, 5, none⟩ = some (.int .i64 a0_5) := (YG BK105.out 5).trans rfl
                  have hfz29_0 := YH BK105.out 0
                  have hfz29_1 := YH BK105.out 1
                  have hfz29_2 := YH BK105.out 2
                  have hfz29_3 := YH BK105.out 3
                  have hfz29_4 := YH BK105.out 4
                  have hfz29_5 := YH BK105.out 5
                  go_wp2
                  go_ret
                  exact ⟨by first | rfl | (simp [errW_none, errW_some] <;> rfl) | (simp [*, errW_none, errW_some] <;> rfl), by repeat (first | (with_reducible first | exact HB.out | apply YA | apply YB | apply YC | refine below_set ?_ GE105.out) | exact HB.out)⟩
                rw [if_neg c24] at H
                have c24b0 : ((a0_3 / 2) == 0) = false := beq_eq_false_iff_ne.mpr c24
                have c24b1 : ((a0_3 / 2) != 0) = true := bne_iff_ne.mpr c24
                obtain rfl := Option.some.inj H
                have hcz30_0 : wc.cell? ⟨gb105, 0, none⟩ = some (.bool false) := (YG BK105.out 0).trans rfl
                have hcz30_1 : wc.cell? ⟨gb105, 1, none⟩ = some (.int .i64 a0_1) := (YG BK105.out 1).trans rfl
                have hcz30_2 : wc.cell? ⟨gb105, 2, none⟩ = some (.int .i64 a0_2) := (YG BK105.out 2).trans rfl
                have hcz30_3 : wc.cell? ⟨gb105, 3, none⟩ = some (.int .i64 a0_3) := (YG BK105.out 3).trans rfl
                have hcz30_4 : wc.cell? ⟨gb105, 4, none⟩ = some (.int .i64 a0_4) := (YG BK105.out 4).trans rfl
                have hcz30_5 : wc.cell? ⟨gb105, 5, none⟩ = some (.int .i64 a0_5) := (YG BK105.out 5).trans rfl
                have hfz30_0 := YH BK105.out 0
                have hfz30_1 := YH BK105.out 1
                have hfz30_2 := YH BK105.out 2
                have hfz30_3 := YH BK105.out 3
                have hfz30_4 := YH BK105.out 4
                have hfz30_5 := YH BK105.out 5
                go_wp2
                go_ret
                exact ⟨by first | rfl | (simp [errW_none, errW_some] <;> rfl) | (simp [*, errW_none, errW_some] <;> rfl), by repeat (first | (with_reducible first | exact HB.out | apply YA | apply YB | apply YC | refine below_set ?_ GE105.out) | exact HB.out)⟩
              rw [if_neg c23] at H; have c23b0 : decide (a0_2 < 64) = false := decide_eq_false c23; clear c23
              obtain rfl := Option.some.inj H
              have hcz31_0 : wc.cell? ⟨gb105, 0, none⟩ = some (.bool false) := (YG BK105.out 0).trans rfl
              have hcz31_1 : wc.cell? ⟨gb105, 1, none⟩ = some (.int .i64 a0_1) := (YG BK105.out 1).trans rfl
              have hcz31_2 : wc.cell? ⟨gb105, 2, none⟩ = some (.int .i64 a0_2) := (YG BK105.out 2).trans rfl
              have hcz31_3 : wc.cell? ⟨gb105, 3, none⟩ = some (.int .i64 a0_3) := (YG BK105.out 3).trans rfl
              have hcz31_4 : wc.cell? ⟨gb105, 4, none⟩ = some (.int .i64 a0_4) := (YG BK105.out 4).trans rfl
              have hcz31_5 : wc.cell? ⟨gb105, 5, none⟩ = some (.int .i64 a0_5) := (YG BK105.out 5).trans rfl
              have hfz31_0 := YH BK105.out 0
              have hfz31_1 := YH BK105.out 1
              have hfz31_2 := YH BK105.out 2
              have hfz31_3 := YH BK105.out 3
              have hfz31_4 := YH BK105.out 4
              have hfz31_5 := YH BK105.out 5
              go_wp2
              go_ret
              exact ⟨by first | rfl | (simp [errW_none, errW_some] <;> rfl) | (simp [*, errW_none, errW_some] <;> rfl), by repeat (first | (with_reducible first | exact HB.out | apply YA | apply YB | apply YC | refine below_set ?_ GE105.out) | exact HB.out)⟩
            rw [if_neg c22] at H; have c22b0 : decide (0 ≤ a0_2) = false := decide_eq_false c22; clear c22
            obtain rfl := Option.some.inj H
            have hcz32_0 : wc.cell? ⟨gb105, 0, none⟩ = some (.bool false) := (YG BK105.out 0).trans rfl
            have hcz32_1 : wc.cell? ⟨gb105, 1, none⟩ = some (.int .i64 a0_1) := (YG BK105.out 1).trans rfl
            have hcz32_2 : wc.cell? ⟨gb105, 2, none⟩ = some (.int .i64 a0_2) := (YG BK105.out 2).trans rfl
            have hcz32_3 : wc.cell? ⟨gb105, 3, none⟩ = some (.int .i64 a0_3) := (YG BK105.out 3).trans rfl
            have hcz32_4 : wc.cell? ⟨gb105, 4, none⟩ = some (.int .i64 a0_4) := (YG BK105.out 4).trans rfl
            have hcz32_5 : wc.cell? ⟨gb105, 5, none⟩ = some (.int .i64 a0_5) := (YG BK105.out 5).trans rfl
            have hfz32_0 := YH BK105.out 0
            have hfz32_1 := YH BK105.out 1
            have hfz32_2 := YH BK105.out 2
            have hfz32_3 := YH BK105.out 3
            have hfz32_4 := YH BK105.out 4
            have hfz32_5 := YH BK105.out 5
            go_wp2
            go_ret
            exact ⟨by first | rfl | (simp [errW_none, errW_some] <;> rfl) | (simp [*, errW_none, errW_some] <;> rfl), by repeat (first | (with_reducible first | exact HB.out | apply YA | apply YB | apply YC | refine below_set ?_ GE105.out) | exact HB.out)⟩
          rw [if_neg c21] at H; have c21b0 : decide (a0_1 ≤ 4611686018427387903) = false := decide_eq_false c21; clear c21
          obtain rfl := Option.some.inj H
          have hcz33_0 : wc.cell? ⟨gb105, 0, none⟩ = some (.bool false) := (YG BK105.out 0).trans rfl
          have hcz33_1 : wc.cell? ⟨gb105, 1, none⟩ = some (.int .i64 a0_1) := (YG BK105.out 1).trans rfl
          have hcz33_2 : wc.cell? ⟨gb105, 2, none⟩ = some (.int .i64 a0_2) := (YG BK105.out 2).trans rfl
          have hcz33_3 : wc.cell? ⟨gb105, 3, none⟩ = some (.int .i64 a0_3) := (YG BK105.out 3).trans rfl
          have hcz33_4 : wc.cell? ⟨gb105, 4, none⟩ = some (.int .i64 a0_4) := (YG BK105.out 4).trans rfl
          have hcz33_5 : wc.cell? ⟨gb105, 5, none⟩ = some (.int .i64 a0_5) := (YG BK105.out 5).trans rfl
          have hfz33_0 := YH BK105.out 0
          have hfz33_1 := YH BK105.out 1
          have hfz33_2 := YH BK105.out 2
          have hfz33_3 := YH BK105.out 3
          have hfz33_4 := YH BK105.out 4
          have hfz33_5 := YH BK105.out 5
          go_wp2
          go_ret
          exact ⟨by first | rfl | (simp [errW_none, errW_some] <;> rfl) | (simp [*, errW_none, errW_some] <;> rfl), by repeat (first | (with_reducible first | exact HB.out | apply YA | apply YB | apply YC | refine below_set ?_ GE105.out) | exact HB.out)⟩
        rw [if_neg c20] at H; have c20b0 : decide (0 ≤ a0_1) = false := decide_eq_false c20; clear c20
        obtain rfl := Option.some.inj H
        have hcz34_0 : wc.cell? ⟨gb105, 0, none⟩ = some (.bool false) := (YG BK105.out 0).trans rfl
        have hcz34_1 : wc.cell? ⟨gb105, 1, none⟩ = some (.int .i64 a0_1) := (YG BK105.out 1).trans rfl
        have hcz34_2 : wc.cell? ⟨gb105, 2, none⟩ = some (.int .i64 a0_2) := (YG BK105.out 2).trans rfl
        have hcz34_3 : wc.cell? ⟨gb105, 3, none⟩ = some (.int .i64 a0_3) := (YG BK105.out 3).trans rfl
        have hcz34_4 : wc.cell? ⟨gb105, 4, none⟩ = some (.int .i64 a0_4) := (YG BK105.out 4).trans rfl
        have hcz34_5 : wc.cell? ⟨gb105, 5, none⟩ = some (.int .i64 a0_5) := (YG BK105.out 5).trans rfl
        have hfz34_0 := YH BK105.out 0
        have hfz34_1 := YH BK105.out 1
        have hfz34_2 := YH BK105.out 2
        have hfz34_3 := YH BK105.out 3
        have hfz34_4 := YH BK105.out 4
        have hfz34_5 := YH BK105.out 5
        go_wp2
        go_ret
        exact ⟨by first | rfl | (simp [errW_none, errW_some] <;> rfl) | (simp [*, errW_none, errW_some] <;> rfl), by repeat (first | (with_reducible first | exact HB.out | apply YA | apply YB | apply YC | refine below_set ?_ GE105.out) | exact HB.out)⟩
      replace c19 := Bool.eq_false_iff.mpr c19
      subst c19
      have H1 : (some 1) = some r := by rw [if_neg (show ¬ (false = true) by decide)] at H; exact H
      clear H
      have H := H1
      clear H1
      obtain rfl := Option.some.inj H
      have hcz35_0 : wc.cell? ⟨gb105, 0, none⟩ = some (.bool false) := (YG BK105.out 0).trans rfl
      have hcz35_1 : wc.cell? ⟨gb105, 1, none⟩ = some (.int .i64 a0_1) := (YG BK105.out 1).trans rfl
      have hcz35_2 : wc.cell? ⟨gb105, 2, none⟩ = some (.int .i64 a0_2) := (YG BK105.out 2).trans rfl
      have hcz35_3 : wc.cell? ⟨gb105, 3, none⟩ = some (.int .i64 a0_3) := (YG BK105.out 3).trans rfl
      have hcz35_4 : wc.cell? ⟨gb105, 4, none⟩ = some (.int .i64 a0_4) := (YG BK105.out 4).trans rfl
      have hcz35_5 : wc.cell? ⟨gb105, 5, none⟩ = some (.int .i64 a0_5) := (YG BK105.out 5).trans rfl
      have hfz35_0 := YH BK105.out 0
      have hfz35_1 := YH BK105.out 1
      have hfz35_2 := YH BK105.out 2
      have hfz35_3 := YH BK105.out 3
      have hfz35_4 := YH BK105.out 4
      have hfz35_5 := YH BK105.out 5
      go_wp2
      go_ret
      exact ⟨by first | rfl | (simp [errW_none, errW_some] <;> rfl) | (simp [*, errW_none, errW_some] <;> rfl), by repeat (first | (with_reducible first | exact HB.out | apply YA | apply YB | apply YC | refine below_set ?_ GE105.out) | exact HB.out)⟩
end Go.Proofs.Ytfigbjjaffkidaa.P
namespace Go.Proofs.Ytfigbjjaffkidaa.P
open Go.RowKit Go.Proofs.YtfigbjjaffkidaaW.PrintWords Go.Proofs.YtfigbjjaffkidaaW.PrintLast Go.Proofs.YtfigbjjaffkidaaW.PrintMore
open Go.Proofs.YtfigbjjaffkidaaW.PrintWords renaming below_alloc → YA, pw_below_drewN → YB, below_drew1 → YC, below_step → YD, below_size → YE, blk_drewN → YF, blk_drew → YG, blk_alloc → YH, blk_cell → YI, blk_frozen → YJ, blk_below → YK
open Go.Proofs.YtfigbjjaffkidaaW.PrintWords.Aside0 renaming mk → YL
attribute [local go_sem] max2_int min2_int max_two min_two max_three min_three max_four min_four   -- for this text's walks alone
def height_At.f (k : Nat) (a0_0 : Int) (a0_1 : Int) (a0_2 : Int) (a1 : Int) (a2 : Int) : Option (Bool × Int × Int × Int × Int × Int × Int) := (height_Check.f k false a0_0 a0_1 a0_2 a1 a2).bind fun t115 => (if t115 = 0 then (some (false, a0_0, a0_1, a0_2, a1, a2, 0)) else (some (false, 0, 0, 0, 0, 0, t115)))
theorem height_At.mono : ∀ a0 a1 a2 a3 a4 k, LeO (height_At.f k a0 a1 a2 a3 a4) (height_At.f (k + 1) a0 a1 a2 a3 a4) := by
  intro a0 a1 a2 a3 a4 k
  unfold height_At.f
  repeat' first
      | (with_reducible exact height_Check.mono _ _ _ _ _ _ _)
      | (with_reducible exact LeO.refl _)
      | (with_reducible exact LeO.none _)
      | (with_reducible refine LeO.ite ?_ ?_)
      | (with_reducible refine LeO.bind ?_ (fun _ => ?_))
      | exact height_Check.mono _ _ _ _ _ _ _
      | exact LeO.none _
      | refine LeO.ite ?_ ?_
      | refine LeO.bind ?_ (fun _ => ?_)
set_option maxHeartbeats 8000000 in
set_option maxRecDepth 100000 in
theorem height_At.calls (k : Nat) (a0_0 : Int) (a0_1 : Int) (a0_2 : Int) (a1 : Int) (a2 : Int) (r1 : Bool) (r2 : Int) (r3 : Int) (r4 : Int) (r5 : Int) (r6 : Int) (r7 : Int) (w : World) (h : height_At.f k a0_0 a0_1 a0_2 a1 a2 = some (r1, r2, r3, r4, r5, r6, r7)) :
    Calls Try.prog 45 #[.agg #[.int .i64 a0_0, .int .i64 a0_1, .int .i64 a0_2], .int .i64 a1, .int .i64 a2] w fun e w' => e = .returned (.tuple #[.agg #[.bool r1, .int .i64 r2, .int .i64 r3, .int .i64 r4, .int .i64 r5, .int .i64 r6], .int .i64 r7]) ∧ Below w.heap.size w w' := by
  have hu43 := Try.underlying43
  have hu41 := Try.underlying41
  have HB := YL (Below.refl w.heap.size w)
  have H : ((height_Check.f k false a0_0 a0_1 a0_2 a1 a2).bind fun t115 => (if t115 = 0 then (some (false, a0_0, a0_1, a0_2, a1, a2, 0)) else (some (false, 0, 0, 0, 0, 0, t115)))) = some (r1, r2, r3, r4, r5, r6, r7) := h
  clear h; replace H := Option.bind_eq_some_iff.mp H; obtain ⟨t115, A40, H⟩ := H
  replace H : (if t115 = 0 then (some (false, a0_0, a0_1, a0_2, a1, a2, 0)) else (some (false, 0, 0, 0, 0, 0, t115))) = some (r1, r2, r3, r4, r5, r6, r7) := H
  have A4 := YL A40; clear A40
  by_cases c5 : t115 = 0
  · rw [if_pos c5] at H
    have c5b0 : (t115 == 0) = true := beq_iff_eq.mpr c5
    have c5b1 : (t115 != 0) = false := bne_eq_false_iff_eq.mpr c5
    clear c5
    simp only [Option.some.injEq, Prod.mk.injEq] at H
    obtain ⟨rfl, rfl, rfl, rfl, rfl, rfl, rfl⟩ := H
    go_enter Try.func45, Try.ntmps45
    go_wp2_with (first | ((with_reducible refine gate_dst (N := 3) rfl ?_); refine box_event ?hg (N := 3) ?hd (cs := #[.int .i64 a0_0, .int .i64 a0_1, .int .i64 a0_2]) (t := 43) ?hr ?_; (case hd => rfl); (case hg => rfl); (case hr => first | (go_simp; done) | (go_simp; rfl)); intro gb112 hg w6 hbox hb; have n0_ := YL (YD (by repeat (first | (with_reducible first | exact HB.out | apply YA | apply YB | apply YC) | exact HB.out)) hb); have n1_ := YL (hbox); have n2_ := YL ((by rw [hg]; exact (YE (by repeat (first | (with_reducible first | exact HB.out | apply YA | apply YB | apply YC) | exact HB.out))) : w.heap.size ≤ gb112)); have n3_ := YL ((by rw [hg]; exact (YE (by repeat (first | (with_reducible first | exact HB.out | apply YA | apply YB | apply YC) | exact HB.out))) : w.heap.size ≤ gb112)); clear HB; have HB := n0_; have BK112 := n1_; have GW112 := n2_; have GE112 := n3_; clear n0_ n1_ n2_ n3_; clear hb hbox hg) | ((with_reducible refine gate_dst (N := 6) rfl ?_); refine box_event ?hg (N := 6) ?hd (cs := #[.bool false, .int .i64 0, .int .i64 0, .int .i64 0, .int .i64 0, .int .i64 0]) (t := 41) ?hr ?_; (case hd => rfl); (case hg => rfl); (case hr => first | (go_simp; done) | (go_simp; rfl)); intro gb113 hg w7 hbox hb; have n0_ := YL (YK (g := gb112) (o := .cells #[.int .i64 a0_0, .int .i64 a0_1, .int .i64 a0_2] 43 (0, 0)) (by (with_reducible repeat (first | refine YF ?_ _ | refine YG ?_ | refine YH ?_ _)); exact BK112.out) hb); have n1_ := YL (YD (by repeat (first | (with_reducible first | exact HB.out | apply YA | apply YB | apply YC | refine below_set ?_ GE112.out) | exact HB.out)) hb); have n2_ := YL (hbox); have n3_ := YL ((by rw [hg]; exact (YE (by repeat (first | (with_reducible first | exact HB.out | apply YA | apply YB | apply YC | refine below_set ?_ GE112.out) | exact HB.out))) : w.heap.size ≤ gb113)); have n4_ := YL ((by rw [hg]; exact (YE (by repeat (first | (with_reducible first | exact HB.out | apply YA | apply YB | apply YC | refine below_set ?_ GE112.out) | exact HB.out))) : w.heap.size ≤ gb113)); have n5_ := YL ((by rw [hg]; exact Nat.ne_of_lt (blk_lt (g := gb112) (o := .cells #[.int .i64 a0_0, .int .i64 a0_1, .int .i64 a0_2] 43 (0, 0)) (by (with_reducible repeat (first | refine YF ?_ _ | refine YG ?_ | refine YH ?_ _)); exact BK112.out)) : gb112 ≠ gb113)); have n6_ := YL ((by rw [hg]; exact Nat.ne_of_gt (blk_lt (g := gb112) (o := .cells #[.int .i64 a0_0, .int .i64 a0_1, .int .i64 a0_2] 43 (0, 0)) (by (with_reducible repeat (first | refine YF ?_ _ | refine YG ?_ | refine YH ?_ _)); exact BK112.out)) : gb113 ≠ gb112)); clear BK112; clear HB; have BK112 := n0_; have HB := n1_; have BK113 := n2_; have GW113 := n3_; have GE113 := n4_; have NB112_113 := n5_; have NB113_112 := n6_; clear n0_ n1_ n2_ n3_ n4_ n5_ n6_; clear hb hbox hg; have hnb8 := NB112_113.out; have hnc8 := NB113_112.out; have hcz9_0 : w7.cell? ⟨gb112, 0, none⟩ = some (.int .i64 a0_0) := (YI BK112.out 0).trans rfl; have hcz9_1 : w7.cell? ⟨gb112, 1, none⟩ = some (.int .i64 a0_1) := (YI BK112.out 1).trans rfl; have hcz9_2 : w7.cell? ⟨gb112, 2, none⟩ = some (.int .i64 a0_2) := (YI BK112.out 2).trans rfl; have hfz9_0 := YJ BK112.out 0; have hfz9_1 := YJ BK112.out 1; have hfz9_2 := YJ BK112.out 2) | ((with_reducible refine gate_dst (N := 8) rfl ?_); refine box_event ?hg (N := 8) ?hd (cs := #[.bool false, .int .i64 0, .int .i64 0, .int .i64 0, .int .i64 0, .int .i64 0]) (t := 41) ?hr ?_; (case hd => rfl); (case hg => rfl); (case hr => first | (go_simp; done) | (go_simp; rfl)); intro gb114 hg w10 hbox hb; have n0_ := YL (YK (g := gb112) (o := .cells #[.int .i64 a0_0, .int .i64 a0_1, .int .i64 a0_2] 43 (0, 0)) (by (with_reducible repeat (first | refine YF ?_ _ | refine YG ?_ | refine YH ?_ _)); exact BK112.out) hb); have n1_ := YL (YK (g := gb113) (o := .cells #[.bool false, .int .i64 0, .int .i64 0, .int .i64 0, .int .i64 0, .int .i64 0] 41 (0, 0)) (by (with_reducible repeat (first | refine YF ?_ _ | refine YG ?_ | refine YH ?_ _)); exact BK113.out) hb); have n2_ := YL (YD (by repeat (first | (with_reducible first | exact HB.out | apply YA | apply YB | apply YC | refine below_set ?_ GE112.out | refine below_set ?_ GE113.out) | exact HB.out)) hb); have n3_ := YL (hbox); have n4_ := YL ((by rw [hg]; exact (YE (by repeat (first | (with_reducible first | exact HB.out | apply YA | apply YB | apply YC | refine below_set ?_ GE112.out | refine below_set ?_ GE113.out) | exact HB.out))) : w.heap.size ≤ gb114)); have n5_ := YL ((by rw [hg]; exact (YE (by repeat (first | (with_reducible first | exact HB.out | apply YA | apply YB | apply YC | refine below_set ?_ GE112.out | refine below_set ?_ GE113.out) | exact HB.out))) : w.heap.size ≤ gb114)); have n6_ := YL ((by rw [hg]; exact Nat.ne_of_lt (blk_lt (g := gb112) (o := .cells #[.int .i64 a0_0, .int .i64 a0_1, .int .i64 a0_2] 43 (0, 0)) (by (with_reducible repeat (first | refine YF ?_ _ | refine YG ?_ | refine YH ?_ _)); exact BK112.out)) : gb112 ≠ gb114)); have n7_ := YL ((by rw [hg]; exact Nat.ne_of_gt (blk_lt (g := gb112) (o := .cells #[.int .i64 a0_0, .int .i64 a0_1, .int .i64 a0_2] 43 (0, 0)) (by (with_reducible repeat (first | refine YF ?_ _ | refine YG ?_ | refine YH ?_ _)); exact BK112.out)) : gb114 ≠ gb112)); have n8_ := YL ((by rw [hg]; exact Nat.ne_of_lt (blk_lt (g := gb113) (o := .cells #[.bool false, .int .i64 0, .int .i64 0, .int .i64 0, .int .i64 0, .int .i64 0] 41 (0, 0)) (by (with_reducible repeat (first | refine YF ?_ _ | refine YG ?_ | refine YH ?_ _)); exact BK113.out)) : gb113 ≠ gb114)); have n9_ := YL ((by rw [hg]; exact Nat.ne_of_gt (blk_lt (g := gb113) (o := .cells #[.bool false, .int .i64 0, .int .i64 0, .int .i64 0, .int .i64 0, .int .i64 0] 41 (0, 0)) (by (with_reducible repeat (first | refine YF ?_ _ | refine YG ?_ | refine YH ?_ _)); exact BK113.out)) : gb114 ≠ gb113)); clear BK112; clear BK113; clear HB; have BK112 := n0_; have BK113 := n1_; have HB := n2_; have BK114 := n3_; have GW114 := n4_; have GE114 := n5_; have NB112_114 := n6_; have NB114_112 := n7_; have NB113_114 := n8_; have NB114_113 := n9_; clear n0_ n1_ n2_ n3_ n4_ n5_ n6_ n7_ n8_ n9_; clear hb hbox hg; have hnb11 := NB114_112.out; have hnc11 := NB112_114.out; have hnb12 := NB114_113.out; have hnc12 := NB113_114.out; have hcz13_0 : w10.cell? ⟨gb114, 0, none⟩ = some (.bool false) := (YI BK114.out 0).trans rfl; have hcz13_1 : w10.cell? ⟨gb114, 1, none⟩ = some (.int .i64 0) := (YI BK114.out 1).trans rfl; have hcz13_2 : w10.cell? ⟨gb114, 2, none⟩ = some (.int .i64 0) := (YI BK114.out 2).trans rfl; have hcz13_3 : w10.cell? ⟨gb114, 3, none⟩ = some (.int .i64 0) := (YI BK114.out 3).trans rfl; have hcz13_4 : w10.cell? ⟨gb114, 4, none⟩ = some (.int .i64 0) := (YI BK114.out 4).trans rfl; have hcz13_5 : w10.cell? ⟨gb114, 5, none⟩ = some (.int .i64 0) := (YI BK114.out 5).trans rfl; have hfz13_0 := YJ BK114.out 0; have hfz13_1 := YJ BK114.out 1; have hfz13_2 := YJ BK114.out 2; have hfz13_3 := YJ BK114.out 3; have hfz13_4 := YJ BK114.out 4; have hfz13_5 := YJ BK114.out 5) | ((with_reducible refine gate_callee (f := 44) rfl ?_); refine goesL_ (some 20) rfl rfl Try.func44 (by kernel_rfl) rfl #[.agg #[.bool false, .int .i64 a0_0, .int .i64 a0_1, .int .i64 a0_2, .int .i64 a1, .int .i64 a2]] rfl (by (try simp only [List.map_toArray, List.map_cons, List.map_nil]); first | done | rfl | (simp only [List.length_drop, List.length_take]; rfl)) ?_; (with_reducible refine (height_Check.calls k false a0_0 a0_1 a0_2 a1 a2 t115 _ A4.out).mono ?_); rintro e w14 ⟨rfl, hb⟩; refine ⟨_, rfl, ?_⟩; have n0_ := YL (YK (g := gb112) (o := .cells #[.int .i64 a0_0, .int .i64 a0_1, .int .i64 a0_2] 43 (0, 0)) (by (with_reducible repeat (first | refine YF ?_ _ | refine YG ?_ | refine YH ?_ _)); refine blk_far ?_ NB112_114.out _; (with_reducible repeat (first | refine YF ?_ _ | refine YG ?_ | refine YH ?_ _)); refine blk_far ?_ NB112_114.out _; (with_reducible repeat (first | refine YF ?_ _ | refine YG ?_ | refine YH ?_ _)); refine blk_far ?_ NB112_114.out _; (with_reducible repeat (first | refine YF ?_ _ | refine YG ?_ | refine YH ?_ _)); refine blk_far ?_ NB112_114.out _; (with_reducible repeat (first | refine YF ?_ _ | refine YG ?_ | refine YH ?_ _)); refine blk_far ?_ NB112_114.out _; (with_reducible repeat (first | refine YF ?_ _ | refine YG ?_ | refine YH ?_ _)); refine blk_far ?_ NB112_114.out _; (with_reducible repeat (first | refine YF ?_ _ | refine YG ?_ | refine YH ?_ _)); exact BK112.out) hb); have n1_ := YL (YK (g := gb113) (o := .cells #[.bool false, .int .i64 0, .int .i64 0, .int .i64 0, .int .i64 0, .int .i64 0] 41 (0, 0)) (by (with_reducible repeat (first | refine YF ?_ _ | refine YG ?_ | refine YH ?_ _)); refine blk_far ?_ NB113_114.out _; (with_reducible repeat (first | refine YF ?_ _ | refine YG ?_ | refine YH ?_ _)); refine blk_far ?_ NB113_114.out _; (with_reducible repeat (first | refine YF ?_ _ | refine YG ?_ | refine YH ?_ _)); refine blk_far ?_ NB113_114.out _; (with_reducible repeat (first | refine YF ?_ _ | refine YG ?_ | refine YH ?_ _)); refine blk_far ?_ NB113_114.out _; (with_reducible repeat (first | refine YF ?_ _ | refine YG ?_ | refine YH ?_ _)); refine blk_far ?_ NB113_114.out _; (with_reducible repeat (first | refine YF ?_ _ | refine YG ?_ | refine YH ?_ _)); refine blk_far ?_ NB113_114.out _; (with_reducible repeat (first | refine YF ?_ _ | refine YG ?_ | refine YH ?_ _)); exact BK113.out) hb); have n2_ := YL (YK (g := gb114) (o := .cells #[.bool false, .int .i64 a0_0, .int .i64 a0_1, .int .i64 a0_2, .int .i64 a1, .int .i64 a2] 41 (0, 0)) (by (with_reducible repeat (first | refine YF ?_ _ | refine YG ?_ | refine YH ?_ _)); refine blk_put (cs := #[.bool false, .int .i64 a0_0, .int .i64 a0_1, .int .i64 a0_2, .int .i64 a1, .int .i64 0]) ?_ 5 _ rfl; (with_reducible repeat (first | refine YF ?_ _ | refine YG ?_ | refine YH ?_ _)); refine blk_put (cs := #[.bool false, .int .i64 a0_0, .int .i64 a0_1, .int .i64 a0_2, .int .i64 0, .int .i64 0]) ?_ 4 _ rfl; (with_reducible repeat (first | refine YF ?_ _ | refine YG ?_ | refine YH ?_ _)); refine blk_put (cs := #[.bool false, .int .i64 a0_0, .int .i64 a0_1, .int .i64 0, .int .i64 0, .int .i64 0]) ?_ 3 _ rfl; (with_reducible repeat (first | refine YF ?_ _ | refine YG ?_ | refine YH ?_ _)); refine blk_put (cs := #[.bool false, .int .i64 a0_0, .int .i64 0, .int .i64 0, .int .i64 0, .int .i64 0]) ?_ 2 _ rfl; (with_reducible repeat (first | refine YF ?_ _ | refine YG ?_ | refine YH ?_ _)); refine blk_put (cs := #[.bool false, .int .i64 0, .int .i64 0, .int .i64 0, .int .i64 0, .int .i64 0]) ?_ 1 _ rfl; (with_reducible repeat (first | refine YF ?_ _ | refine YG ?_ | refine YH ?_ _)); refine blk_put (cs := #[.bool false, .int .i64 0, .int .i64 0, .int .i64 0, .int .i64 0, .int .i64 0]) ?_ 0 _ rfl; (with_reducible repeat (first | refine YF ?_ _ | refine YG ?_ | refine YH ?_ _)); exact BK114.out) hb); have n3_ := YL (YD (by repeat (first | (with_reducible first | exact HB.out | apply YA | apply YB | apply YC | refine below_set ?_ GE112.out | refine below_set ?_ GE113.out | refine below_set ?_ GE114.out) | exact HB.out)) hb); clear BK112; clear BK113; clear BK114; clear HB; have BK112 := n0_; have BK113 := n1_; have BK114 := n2_; have HB := n3_; clear n0_ n1_ n2_ n3_; (try clear hb); (try clear hb2); (try clear hk); (try clear hi); have hcz15_0 : w14.cell? ⟨gb114, 0, none⟩ = some (.bool false) := (YI BK114.out 0).trans rfl; have hcz15_1 : w14.cell? ⟨gb114, 1, none⟩ = some (.int .i64 a0_0) := (YI BK114.out 1).trans rfl; have hcz15_2 : w14.cell? ⟨gb114, 2, none⟩ = some (.int .i64 a0_1) := (YI BK114.out 2).trans rfl; have hcz15_3 : w14.cell? ⟨gb114, 3, none⟩ = some (.int .i64 a0_2) := (YI BK114.out 3).trans rfl; have hcz15_4 : w14.cell? ⟨gb114, 4, none⟩ = some (.int .i64 a1) := (YI BK114.out 4).trans rfl; have hcz15_5 : w14.cell? ⟨gb114, 5, none⟩ = some (.int .i64 a2) := (YI BK114.out 5).trans rfl; have hfz15_0 := YJ BK114.out 0; have hfz15_1 := YJ BK114.out 1; have hfz15_2 := YJ BK114.out 2; have hfz15_3 := YJ BK114.out 3; have hfz15_4 := YJ BK114.out 4; have hfz15_5 := YJ BK114.out 5; have hcz16_0 : w14.cell? ⟨gb113, 0, none⟩ = some (.bool false) := (YI BK113.out 0).trans rfl; have hcz16_1 : w14.cell? ⟨gb113, 1, none⟩ = some (.int .i64 0) := (YI BK113.out 1).trans rfl; have hcz16_2 : w14.cell? ⟨gb113, 2, none⟩ = some (.int .i64 0) := (YI BK113.out 2).trans rfl; have hcz16_3 : w14.cell? ⟨gb113, 3, none⟩ = some (.int .i64 0) := (YI BK113.out 3).trans rfl; have hcz16_4 : w14.cell? ⟨gb113, 4, none⟩ = some (.int .i64 0) := (YI BK113.out 4).trans rfl; have hcz16_5 : w14.cell? ⟨gb113, 5, none⟩ = some (.int .i64 0) := (YI BK113.out 5).trans rfl; have hfz16_0 := YJ BK113.out 0; have hfz16_1 := YJ BK113.out 1; have hfz16_2 := YJ BK113.out 2; have hfz16_3 := YJ BK113.out 3; have hfz16_4 := YJ BK113.out 4; have hfz16_5 := YJ BK113.out 5))
    refine bodyPost_ret (results_ct rfl _ _ gb113 41 #[.bool false, .int .i64 a0_0, .int .i64 a0_1, .int .i64 a0_2, .int .i64 a1, .int .i64 a2] (0, 0) _ rfl (by (with_reducible repeat (first | refine YF ?_ _ | refine YG ?_ | refine YH ?_ _)); refine blk_put (cs := #[.bool false, .int .i64 a0_0, .int .i64 a0_1, .int .i64 a0_2, .int .i64 a1, .int .i64 0]) ?_ 5 _ rfl; (with_reducible repeat (first | refine YF ?_ _ | refine YG ?_ | refine YH ?_ _)); refine blk_put (cs := #[.bool false, .int .i64 a0_0, .int .i64 a0_1, .int .i64 a0_2, .int .i64 0, .int .i64 0]) ?_ 4 _ rfl; (with_reducible repeat (first | refine YF ?_ _ | refine YG ?_ | refine YH ?_ _)); refine blk_put (cs := #[.bool false, .int .i64 a0_0, .int .i64 a0_1, .int .i64 0, .int .i64 0, .int .i64 0]) ?_ 3 _ rfl; (with_reducible repeat (first | refine YF ?_ _ | refine YG ?_ | refine YH ?_ _)); refine blk_put (cs := #[.bool false, .int .i64 a0_0, .int .i64 0, .int .i64 0, .int .i64 0, .int .i64 0]) ?_ 2 _ rfl; (with_reducible repeat (first | refine YF ?_ _ | refine YG ?_ | refine YH ?_ _)); refine blk_put (cs := #[.bool false, .int .i64 0, .int .i64 0, .int .i64 0, .int .i64 0, .int .i64 0]) ?_ 1 _ rfl; (with_reducible repeat (first | refine YF ?_ _ | refine YG ?_ | refine YH ?_ _)); refine blk_put (cs := #[.bool false, .int .i64 0, .int .i64 0, .int .i64 0, .int .i64 0, .int .i64 0]) ?_ 0 _ rfl; (with_reducible repeat (first | refine YF ?_ _ | refine YG ?_ | refine YH ?_ _)); exact BK113.out) Try.underlying41 rfl (by kernel_rfl)) rfl ?_
    exact ⟨by first | rfl | (simp [errW_none, errW_some] <;> rfl) | (simp [*, errW_none, errW_some] <;> rfl), by repeat (first | (with_reducible first | exact HB.out | apply YA | apply YB | apply YC | refine below_set ?_ GE112.out | refine below_set ?_ GE113.out | refine below_set ?_ GE114.out) | exact HB.out)⟩
  rw [if_neg c5] at H
  have c5b0 : (t115 == 0) = false := beq_eq_false_iff_ne.mpr c5
  have c5b1 : (t115 != 0) = true := bne_iff_ne.mpr c5
  simp only [Option.some.injEq, Prod.mk.injEq] at H
  obtain ⟨rfl, rfl, rfl, rfl, rfl, rfl, rfl⟩ := H
  go_enter Try.func45, Try.ntmps45
  go_wp2_with (first | ((with_reducible refine gate_dst (N := 3) rfl ?_); refine box_event ?hg (N := 3) ?hd (cs := #[.int .i64 a0_0, .int .i64 a0_1, .int .i64 a0_2]) (t := 43) ?hr ?_; (case hd => rfl); (case hg => rfl); (case hr => first | (go_simp; done) | (go_simp; rfl)); intro gb112 hg w17 hbox hb; have n0_ := YL (YD (by repeat (first | (with_reducible first | exact HB.out | apply YA | apply YB | apply YC) | exact HB.out)) hb); have n1_ := YL (hbox); have n2_ := YL ((by rw [hg]; exact (YE (by repeat (first | (with_reducible first | exact HB.out | apply YA | apply YB | apply YC) | exact HB.out))) : w.heap.size ≤ gb112)); have n3_ := YL ((by rw [hg]; exact (YE (by repeat (first | (with_reducible first | exact HB.out | apply YA | apply YB | apply YC) | exact HB.out))) : w.heap.size ≤ gb112)); clear HB; have HB := n0_; have BK112 := n1_; have GW112 := n2_; have GE112 := n3_; clear n0_ n1_ n2_ n3_; clear hb hbox hg) | ((with_reducible refine gate_dst (N := 6) rfl ?_); refine box_event ?hg (N := 6) ?hd (cs := #[.bool false, .int .i64 0, .int .i64 0, .int .i64 0, .int .i64 0, .int .i64 0]) (t := 41) ?hr ?_; (case hd => rfl); (case hg => rfl); (case hr => first | (go_simp; done) | (go_simp; rfl)); intro gb113 hg w18 hbox hb; have n0_ := YL (YK (g := gb112) (o := .cells #[.int .i64 a0_0, .int .i64 a0_1, .int .i64 a0_2] 43 (0, 0)) (by (with_reducible repeat (first | refine YF ?_ _ | refine YG ?_ | refine YH ?_ _)); exact BK112.out) hb); have n1_ := YL (YD (by repeat (first | (with_reducible first | exact HB.out | apply YA | apply YB | apply YC | refine below_set ?_ GE112.out) | exact HB.out)) hb); have n2_ := YL (hbox); have n3_ := YL ((by rw [hg]; exact (YE (by repeat (first | (with_reducible first | exact HB.out | apply YA | apply YB | apply YC | refine below_set ?_ GE112.out) | exact HB.out))) : w.heap.size ≤ gb113)); have n4_ := YL ((by rw [hg]; exact (YE (by repeat (first | (with_reducible first | exact HB.out | apply YA | apply YB | apply YC | refine below_set ?_ GE112.out) | exact HB.out))) : w.heap.size ≤ gb113)); have n5_ := YL ((by rw [hg]; exact Nat.ne_of_lt (blk_lt (g := gb112) (o := .cells #[.int .i64 a0_0, .int .i64 a0_1, .int .i64 a0_2] 43 (0, 0)) (by (with_reducible repeat (first | refine YF ?_ _ | refine YG ?_ | refine YH ?_ _)); exact BK112.out)) : gb112 ≠ gb113)); have n6_ := YL ((by rw [hg]; exact Nat.ne_of_gt (blk_lt (g := gb112) (o := .cells #[.int .i64 a0_0, .int .i64 a0_1, .int .i64 a0_2] 43 (0, 0)) (by (with_reducible repeat (first | refine YF ?_ _ | refine YG ?_ | refine YH ?_ _)); exact BK112.out)) : gb113 ≠ gb112)); clear BK112; clear HB; have BK112 := n0_; have HB := n1_; have BK113 := n2_; have GW113 := n3_; have GE113 := n4_; have NB112_113 := n5_; have NB113_112 := n6_; clear n0_ n1_ n2_ n3_ n4_ n5_ n6_; clear hb hbox hg; have hnb19 := NB112_113.out; have hnc19 := NB113_112.out; have hcz20_0 : w18.cell? ⟨gb112, 0, none⟩ = some (.int .i64 a0_0) := (YI BK112.out 0).trans rfl; have hcz20_1 : w18.cell? ⟨gb112, 1, none⟩ = some (.int .i64 a0_1) := (YI BK112.out 1).trans rfl; have hcz20_2 : w18.cell? ⟨gb112, 2, none⟩ = some (.int .i64 a0_2) := (YI BK112.out 2).trans rfl; have hfz20_0 := YJ BK112.out 0; have hfz20_1 := YJ BK112.out 1; have hfz20_2 := YJ BK112.out 2) | ((with_reducible refine gate_dst (N := 8) rfl ?_); refine box_event ?hg (N := 8) ?hd (cs := #[.bool false, .int .i64 0, .int .i64 0, .int .i64 0, .int .i64 0, .int .i64 0]) (t := 41) ?hr ?_; (case hd => rfl); (case hg => rfl); (case hr => first | (go_simp; done) | (go_simp; rfl)); intro gb114 hg w21 hbox hb; have n0_ := YL (YK (g := gb112) (o := .cells #[.int .i64 a0_0, .int .i64 a0_1, .int .i64 a0_2] 43 (0, 0)) (by (with_reducible repeat (first | refine YF ?_ _ | refine YG ?_ | refine YH ?_ _)); exact BK112.out) hb); have n1_ := YL (YK (g := gb113) (o := .cells #[.bool false, .int .i64 0, .int .i64 0, .int .i64 0, .int .i64 0, .int .i64 0] 41 (0, 0)) (by (with_reducible repeat (first | refine YF ?_ _ | refine YG ?_ | refine YH ?_ _)); exact BK113.out) hb); have n2_ := YL (YD (by repeat (first | (with_reducible first | exact HB.out | apply YA | apply YB | apply YC | refine below_set ?_ GE112.out | refine below_set ?_ GE113.out) | exact HB.out)) hb); have n3_ := YL (hbox); have n4_ := YL ((by rw [hg]; exact (YE (by repeat (first | (with_reducible first | exact HB.out | apply YA | apply YB | apply YC | refine below_set ?_ GE112.out | refine below_set ?_ GE113.out) | exact HB.out))) : w.heap.size ≤ gb114)); have n5_ := YL ((by rw [hg]; exact (YE (by repeat (first | (with_reducible first | exact HB.out | apply YA | apply YB | apply YC | refine below_set ?_ GE112.out | refine below_set ?_ GE113.out) | exact HB.out))) : w.heap.size ≤ gb114)); have n6_ := YL ((by rw [hg]; exact Nat.ne_of_lt (blk_lt (g := gb112) (o := .cells #[.int .i64 a0_0, .int .i64 a0_1, .int .i64 a0_2] 43 (0, 0)) (by (with_reducible repeat (first | refine YF ?_ _ | refine YG ?_ | refine YH ?_ _)); exact BK112.out)) : gb112 ≠ gb114)); have n7_ := YL ((by rw [hg]; exact Nat.ne_of_gt (blk_lt (g := gb112) (o := .cells #[.int .i64 a0_0, .int .i64 a0_1, .int .i64 a0_2] 43 (0, 0)) (by (with_reducible repeat (first | refine YF ?_ _ | refine YG ?_ | refine YH ?_ _)); exact BK112.out)) : gb114 ≠ gb112)); have n8_ := YL ((by rw [hg]; exact Nat.ne_of_lt (blk_lt (g := gb113) (o := .cells #[.bool false, .int .i64 0, .int .i64 0, .int .i64 0, .int .i64 0, .int .i64 0] 41 (0, 0)) (by (with_reducible repeat (first | refine YF ?_ _ | refine YG ?_ | refine YH ?_ _)); exact BK113.out)) : gb113 ≠ gb114)); have n9_ := YL ((by rw [hg]; exact Nat.ne_of_gt (blk_lt (g := gb113) (o := .cells #[.bool false, .int .i64 0, .int .i64 0, .int .i64 0, .int .i64 0, .int .i64 0] 41 (0, 0)) (by (with_reducible repeat (first | refine YF ?_ _ | refine YG ?_ | refine YH ?_ _)); exact BK113.out)) : gb114 ≠ gb113)); clear BK112; clear BK113; clear HB; have BK112 := n0_; have BK113 := n1_; have HB := n2_; have BK114 := n3_; have GW114 := n4_; have GE114 := n5_; have NB112_114 := n6_; have NB114_112 := n7_; have NB113_114 := n8_; have NB114_113 := n9_; clear n0_ n1_ n2_ n3_ n4_ n5_ n6_ n7_ n8_ n9_; clear hb hbox hg; have hnb22 := NB114_112.out; have hnc22 := NB112_114.out; have hnb23 := NB114_113.out; have hnc23 := NB113_114.out; have hcz24_0 : w21.cell? ⟨gb114, 0, none⟩ = some (.bool false) := (YI BK114.out 0).trans rfl; have hcz24_1 : w21.cell? ⟨gb114, 1, none⟩ = some (.int .i64 0) := (YI BK114.out 1).trans rfl; have hcz24_2 : w21.cell? ⟨gb114, 2, none⟩ = some (.int .i64 0) := (YI BK114.out 2).trans rfl; have hcz24_3 : w21.cell? ⟨gb114, 3, none⟩ = some (.int .i64 0) := (YI BK114.out 3).trans rfl; have hcz24_4 : w21.cell? ⟨gb114, 4, none⟩ = some (.int .i64 0) := (YI BK114.out 4).trans rfl; have hcz24_5 : w21.cell? ⟨gb114, 5, none⟩ = some (.int .i64 0) := (YI BK114.out 5).trans rfl; have hfz24_0 := YJ BK114.out 0; have hfz24_1 := YJ BK114.out 1; have hfz24_2 := YJ BK114.out 2; have hfz24_3 := YJ BK114.out 3; have hfz24_4 := YJ BK114.out 4; have hfz24_5 := YJ BK114.out 5) | ((with_reducible refine gate_callee (f := 44) rfl ?_); refine goesL_ (some 20) rfl rfl Try.func44 (by kernel_rfl) rfl #[.agg #[.bool false, .int .i64 a0_0, .int .i64 a0_1, .int .i64 a0_2, .int .i64 a1, .int .i64 a2]] rfl (by (try simp only [List.map_toArray, List.map_cons, List.map_nil]); first | done | rfl | (simp only [List.length_drop, List.length_take]; rfl)) ?_; (with_reducible refine (height_Check.calls k false a0_0 a0_1 a0_2 a1 a2 t115 _ A4.out).mono ?_); rintro e w25 ⟨rfl, hb⟩; refine ⟨_, rfl, ?_⟩; have n0_ := YL (YK (g := gb112) (o := .cells #[.int .i64 a0_0, .int .i64 a0_1, .int .i64 a0_2] 43 (0, 0)) (by (with_reducible repeat (first | refine YF ?_ _ | refine YG ?_ | refine YH ?_ _)); refine blk_far ?_ NB112_114.out _; (with_reducible repeat (first | refine YF ?_ _ | refine YG ?_ | refine YH ?_ _)); refine blk_far ?_ NB112_114.out _; (with_reducible repeat (first | refine YF ?_ _ | refine YG ?_ | refine YH ?_ _)); refine blk_far ?_ NB112_114.out _; (with_reducible repeat (first | refine YF ?_ _ | refine YG ?_ | refine YH ?_ _)); refine blk_far ?_ NB112_114.out _; (with_reducible repeat (first | refine YF ?_ _ | refine YG ?_ | refine YH ?_ _)); refine blk_far ?_ NB112_114.out _; (with_reducible repeat (first | refine YF ?_ _ | refine YG ?_ | refine YH ?_ _)); refine blk_far ?_ NB112_114.out _; (with_reducible repeat (first | refine YF ?_ _ | refine YG ?_ | refine YH ?_ _)); exact BK112.out) hb); have n1_ := YL (YK (g := gb113) (o := .cells #[.bool false, .int .i64 0, .int .i64 0, .int .i64 0, .int .i64 0, .int .i64 0] 41 (0, 0)) (by (with_reducible repeat (first | refine YF ?_ _ | refine YG ?_ | refine YH ?_ _)); refine blk_far ?_ NB113_114.out _; (with_reducible repeat (first | refine YF ?_ _ | refine YG ?_ | refine YH ?_ _)); refine blk_far ?_ NB113_114.out _; (with_reducible repeat (first | refine YF ?_ _ | refine YG ?_ | refine YH ?_ _)); refine blk_far ?_ NB113_114.out _; (with_reducible repeat (first | refine YF ?_ _ | refine YG ?_ | refine YH ?_ _)); refine blk_far ?_ NB113_114.out _; (with_reducible repeat (first | refine YF ?_ _ | refine YG ?_ | refine YH ?_ _)); refine blk_far ?_ NB113_114.out _; (with_reducible repeat (first | refine YF ?_ _ | refine YG ?_ | refine YH ?_ _)); refine blk_far ?_ NB113_114.out _; (with_reducible repeat (first | refine YF ?_ _ | refine YG ?_ | refine YH ?_ _)); exact BK113.out) hb); have n2_ := YL (YK (g := gb114) (o := .cells #[.bool false, .int .i64 a0_0, .int .i64 a0_1, .int .i64 a0_2, .int .i64 a1, .int .i64 a2] 41 (0, 0)) (by (with_reducible repeat (first | refine YF ?_ _ | refine YG ?_ | refine YH ?_ _)); refine blk_put (cs := #[.bool false, .int .i64 a0_0, .int .i64 a0_1, .int .i64 a0_2, .int .i64 a1, .int .i64 0]) ?_ 5 _ rfl; (with_reducible repeat (first | refine YF ?_ _ | refine YG ?_ | refine YH ?_ _)); refine blk_put (cs := #[.bool false, .int .i64 a0_0, .int .i64 a0_1, .int .i64 a0_2, .int .i64 0, .int .i64 0]) ?_ 4 _ rfl; (with_reducible repeat (first | refine YF ?_ _ | refine YG ?_ | refine YH ?_ _)); refine blk_put (cs := #[.bool false, .int .i64 a0_0, .int .i64 a0_1, .int .i64 0, .int .i64 0, .int .i64 0]) ?_ 3 _ rfl; (with_reducible repeat (first | refine YF ?_ _ | refine YG ?_ | refine YH ?_ _)); refine blk_put (cs := #[.bool false, .int .i64 a0_0, .int .i64 0, .int .i64 0, .int .i64 0, .int .i64 0]) ?_ 2 _ rfl; (with_reducible repeat (first | refine YF ?_ _ | refine YG ?_ | refine YH ?_ _)); refine blk_put (cs := #[.bool false, .int .i64 0, .int .i64 0, .int .i64 0, .int .i64 0, .int .i64 0]) ?_ 1 _ rfl; (with_reducible repeat (first | refine YF ?_ _ | refine YG ?_ | refine YH ?_ _)); refine blk_put (cs := #[.bool false, .int .i64 0, .int .i64 0, .int .i64 0, .int .i64 0, .int .i64 0]) ?_ 0 _ rfl; (with_reducible repeat (first | refine YF ?_ _ | refine YG ?_ | refine YH ?_ _)); exact BK114.out) hb); have n3_ := YL (YD (by repeat (first | (with_reducible first | exact HB.out | apply YA | apply YB | apply YC | refine below_set ?_ GE112.out | refine below_set ?_ GE113.out | refine below_set ?_ GE114.out) | exact HB.out)) hb); clear BK112; clear BK113; clear BK114; clear HB; have BK112 := n0_; have BK113 := n1_; have BK114 := n2_; have HB := n3_; clear n0_ n1_ n2_ n3_; (try clear hb); (try clear hb2); (try clear hk); (try clear hi); have hcz26_0 : w25.cell? ⟨gb113, 0, none⟩ = some (.bool false) := (YI BK113.out 0).trans rfl; have hcz26_1 : w25.cell? ⟨gb113, 1, none⟩ = some (.int .i64 0) := (YI BK113.out 1).trans rfl; have hcz26_2 : w25.cell? ⟨gb113, 2, none⟩ = some (.int .i64 0) := (YI BK113.out 2).trans rfl; have hcz26_3 : w25.cell? ⟨gb113, 3, none⟩ = some (.int .i64 0) := (YI BK113.out 3).trans rfl; have hcz26_4 : w25.cell? ⟨gb113, 4, none⟩ = some (.int .i64 0) := (YI BK113.out 4).trans rfl; have hcz26_5 : w25.cell? ⟨gb113, 5, none⟩ = some (.int .i64 0) := (YI BK113.out 5).trans rfl; have hfz26_0 := YJ BK113.out 0; have hfz26_1 := YJ BK113.out 1; have hfz26_2 := YJ BK113.out 2; have hfz26_3 := YJ BK113.out 3; have hfz26_4 := YJ BK113.out 4; have hfz26_5 := YJ BK113.out 5))
  refine bodyPost_ret (results_ct rfl _ _ gb113 41 #[.bool false, .int .i64 0, .int .i64 0, .int .i64 0, .int .i64 0, .int .i64 0] (0, 0) _ rfl (by (with_reducible repeat (first | refine YF ?_ _ | refine YG ?_ | refine YH ?_ _)); refine blk_put (cs := #[.bool false, .int .i64 0, .int .i64 0, .int .i64 0, .int .i64 0, .int .i64 0]) ?_ 5 _ rfl; (with_reducible repeat (first | refine YF ?_ _ | refine YG ?_ | refine YH ?_ _)); refine blk_put (cs := #[.bool false, .int .i64 0, .int .i64 0, .int .i64 0, .int .i64 0, .int .i64 0]) ?_ 4 _ rfl; (with_reducible repeat (first | refine YF ?_ _ | refine YG ?_ | refine YH ?_ _)); refine blk_put (cs := #[.bool false, .int .i64 0, .int .i64 0, .int .i64 0, .int .i64 0, .int .i64 0]) ?_ 3 _ rfl; (with_reducible repeat (first | refine YF ?_ _ | refine YG ?_ | refine YH ?_ _)); refine blk_put (cs := #[.bool false, .int .i64 0, .int .i64 0, .int .i64 0, .int .i64 0, .int .i64 0]) ?_ 2 _ rfl; (with_reducible repeat (first | refine YF ?_ _ | refine YG ?_ | refine YH ?_ _)); refine blk_put (cs := #[.bool false, .int .i64 0, .int .i64 0, .int .i64 0, .int .i64 0, .int .i64 0]) ?_ 1 _ rfl; (with_reducible repeat (first | refine YF ?_ _ | refine YG ?_ | refine YH ?_ _)); refine blk_put (cs := #[.bool false, .int .i64 0, .int .i64 0, .int .i64 0, .int .i64 0, .int .i64 0]) ?_ 0 _ rfl; (with_reducible repeat (first | refine YF ?_ _ | refine YG ?_ | refine YH ?_ _)); exact BK113.out) Try.underlying41 rfl (by kernel_rfl)) rfl ?_
  exact ⟨by first | rfl | (simp [errW_none, errW_some] <;> rfl) | (simp [*, errW_none, errW_some] <;> rfl), by repeat (first | (with_reducible first | exact HB.out | apply YA | apply YB | apply YC | refine below_set ?_ GE112.out | refine below_set ?_ GE113.out | refine below_set ?_ GE114.out) | exact HB.out)⟩
end Go.Proofs.Ytfigbjjaffkidaa.P
namespace Go.Proofs.Ytfigbjjaffkidaa.P
open Go.RowKit Go.Proofs.YtfigbjjaffkidaaW.PrintWords Go.Proofs.YtfigbjjaffkidaaW.PrintLast Go.Proofs.YtfigbjjaffkidaaW.PrintMore
open Go.Proofs.YtfigbjjaffkidaaW.PrintWords renaming below_alloc → YA, pw_below_drewN → YB, below_drew1 → YC, below_step → YD, below_size → YE, blk_drewN → YF, blk_drew → YG, blk_alloc → YH, blk_cell → YI, blk_frozen → YJ, blk_below → YK
open Go.Proofs.YtfigbjjaffkidaaW.PrintWords.Aside0 renaming mk → YL
open List renaming map_toArray → YM, length_take → YN, length_drop → YO
attribute [local go_sem] max2_int min2_int max_two min_two max_three min_three max_four min_four   -- for this text's walks alone
attribute [local go_sem high] eqA45
mutual
def object_Check.j0 : Nat → Bool → Int → Int → Bool → Int → Int → Int → Int → Int → Int → Int → Int → Int → Int → Int → Bool → Int → Int → Int → Int → Int → Int → Int → Int → Int → Option (Int)
  | 0, _, _, _, _, _, _, _, _, _, _, _, _, _, _, _, _, _, _, _, _, _, _, _, _, _ => none
  | k + 1, x4, x117000, x117001, x117002, x117003, x117004, x117005, x117006, x117007, x117008, x117009, x117010, x117011, x118000, x118001, x118002, x118003, x118004, x118005, x118006, x118007, x118008, x118009, x118010, x118011 => if x117000 = 1 then (if x4 = true then (if (!(x118000 == 0) || (!(x118001 == 0) || ((x118002 || (!(x118003 == 0) || (!(x118004 == 0) || (!(x118005 == 0) || (!(x118006 == 0) || (!(x118007 == 0))))))) || ((!(x118008 == 0) || (!(x118009 == 0) || (!(x118010 == 0)))) || (!(x118011 == 0)))))) = true then (some 1) else (some 0)) else (some 1)) else (if x117000 = 4 then (if x4 = true then (if x117002 = true then (object_Check.j1 k false x117000 x117001 true x117003 x117004 x117005 x117006 x117007 x117008 x117009 x117010 x117011 x118000 x118001 x118002 x118003 x118004 x118005 x118006 x118007 x118008 x118009 x118010 0) else (if x117011 ≥ 0 then (object_Check.j1 k (decide (x117011 ≤ 65535)) x117000 x117001 false x117003 x117004 x117005 x117006 x117007 x117008 x117009 x117010 x117011 x118000 x118001 x118002 x118003 x118004 x118005 x118006 x118007 x118008 x118009 x118010 0) else (object_Check.j1 k false x117000 x117001 false x117003 x117004 x117005 x117006 x117007 x117008 x117009 x117010 x117011 x118000 x118001 x118002 x118003 x118004 x118005 x118006 x118007 x118008 x118009 x118010 0))) else (object_Check.j1 k false x117000 x117001 x117002 x117003 x117004 x117005 x117006 x117007 x117008 x117009 x117010 x117011 x118000 x118001 x118002 x118003 x118004 x118005 x118006 x118007 x118008 x118009 x118010 0)) else (if x117000 = 2 then (object_Check.j1 k x4 x117000 x117001 x117002 x117003 x117004 x117005 x117006 x117007 x117008 x117009 x117010 x117011 x118000 x118001 x118002 x118003 x118004 x118005 x118006 x118007 x118008 x118009 x118010 x118011) else (if x117000 = 3 then ((height_At.f k x117008 x117009 x117010 0 0).bind fun bt118 => (if x4 = true then (if bt118.2.2.2.2.2.2 = 0 then (if (!(x118000 == 0) || (!(x118001 == 0) || ((x118002 || (!(x118003 == 0) || (!(x118004 == 0) || (!(x118005 == 0) || (!(x118006 == 0) || (!(x118007 == 0))))))) || (!(x118011 == 0))))) = true then (some 1) else (some 0)) else (some 1)) else (some 1))) else (some 1))))
def object_Check.j1 : Nat → Bool → Int → Int → Bool → Int → Int → Int → Int → Int → Int → Int → Int → Int → Int → Int → Bool → Int → Int → Int → Int → Int → Int → Int → Int → Int → Option (Int)
  | 0, _, _, _, _, _, _, _, _, _, _, _, _, _, _, _, _, _, _, _, _, _, _, _, _, _ => none
  | k + 1, x4, x117000, x117001, x117002, x117003, x117004, x117005, x117006, x117007, x117008, x117009, x117010, x117011, x118000, x118001, x118002, x118003, x118004, x118005, x118006, x118007, x118008, x118009, x118010, x118011 => if x4 = true then ((height_Check.f k x117002 x117003 x117004 x117005 x117006 x117007).bind fun t126 => (if t126 = 0 then (if (!(x118000 == 0) || (!(x118001 == 0) || ((!(x118008 == 0) || (!(x118009 == 0) || (!(x118010 == 0)))) || (!(x118011 == 0))))) = true then (some 1) else (some 0)) else (some 1))) else (some 1)
end
def object_Check.f (k : Nat) (a0_0 : Int) (a0_1 : Int) (a0_2 : Bool) (a0_3 : Int) (a0_4 : Int) (a0_5 : Int) (a0_6 : Int) (a0_7 : Int) (a0_8 : Int) (a0_9 : Int) (a0_10 : Int) (a0_11 : Int) : Option (Int) := if a0_1 ≥ 0 then (object_Check.j0 k (decide (a0_1 < 64)) a0_0 a0_1 a0_2 a0_3 a0_4 a0_5 a0_6 a0_7 a0_8 a0_9 a0_10 a0_11 0 0 a0_2 a0_3 a0_4 a0_5 a0_6 a0_7 a0_8 a0_9 a0_10 a0_11) else (object_Check.j0 k false a0_0 a0_1 a0_2 a0_3 a0_4 a0_5 a0_6 a0_7 a0_8 a0_9 a0_10 a0_11 0 0 a0_2 a0_3 a0_4 a0_5 a0_6 a0_7 a0_8 a0_9 a0_10 a0_11)
theorem object_Check.mono_l : ∀ k, (∀ y0 y1 y2 y3 y4 y5 y6 y7 y8 y9 y10 y11 y12 y13 y14 y15 y16 y17 y18 y19 y20 y21 y22 y23 y24, LeO (object_Check.j0 k y0 y1 y2 y3 y4 y5 y6 y7 y8 y9 y10 y11 y12 y13 y14 y15 y16 y17 y18 y19 y20 y21 y22 y23 y24) (object_Check.j0 (k + 1) y0 y1 y2 y3 y4 y5 y6 y7 y8 y9 y10 y11 y12 y13 y14 y15 y16 y17 y18 y19 y20 y21 y22 y23 y24)) ∧ (∀ y0 y1 y2 y3 y4 y5 y6 y7 y8 y9 y10 y11 y12 y13 y14 y15 y16 y17 y18 y19 y20 y21 y22 y23 y24, LeO (object_Check.j1 k y0 y1 y2 y3 y4 y5 y6 y7 y8 y9 y10 y11 y12 y13 y14 y15 y16 y17 y18 y19 y20 y21 y22 y23 y24) (object_Check.j1 (k + 1) y0 y1 y2 y3 y4 y5 y6 y7 y8 y9 y10 y11 y12 y13 y14 y15 y16 y17 y18 y19 y20 y21 y22 y23 y24))
  | 0 => ⟨fun _ _ _ _ _ _ _ _ _ _ _ _ _ _ _ _ _ _ _ _ _ _ _ _ _ r h => by simp [object_Check.j0] at h, fun _ _ _ _ _ _ _ _ _ _ _ _ _ _ _ _ _ _ _ _ _ _ _ _ _ r h => by simp [object_Check.j1] at h⟩
  | k + 1 => by
    obtain ⟨ih0, ih1⟩ := object_Check.mono_l k
    refine ⟨?_, ?_⟩
    · intro y0 y1 y2 y3 y4 y5 y6 y7 y8 y9 y10 y11 y12 y13 y14 y15 y16 y17 y18 y19 y20 y21 y22 y23 y24
      unfold object_Check.j0
      repeat' first
      | (with_reducible exact ih0 _ _ _ _ _ _ _ _ _ _ _ _ _ _ _ _ _ _ _ _ _ _ _ _ _)
      | (with_reducible exact ih1 _ _ _ _ _ _ _ _ _ _ _ _ _ _ _ _ _ _ _ _ _ _ _ _ _)
      | (with_reducible exact height_At.mono _ _ _ _ _ _)
      | (with_reducible exact height_Check.mono _ _ _ _ _ _ _)
      | (with_reducible exact LeO.refl _)
      | (with_reducible exact LeO.none _)
      | (with_reducible refine LeO.ite ?_ ?_)
      | (with_reducible refine LeO.bind ?_ (fun _ => ?_))
      | exact ih0 _ _ _ _ _ _ _ _ _ _ _ _ _ _ _ _ _ _ _ _ _ _ _ _ _
      | exact ih1 _ _ _ _ _ _ _ _ _ _ _ _ _ _ _ _ _ _ _ _ _ _ _ _ _
      | exact height_At.mono _ _ _ _ _ _
      | exact height_Check.mono _ _ _ _ _ _ _
      | exact LeO.none _
      | refine LeO.ite ?_ ?_
      | refine LeO.bind ?_ (fun _ => ?_)
    intro y0 y1 y2 y3 y4 y5 y6 y7 y8 y9 y10 y11 y12 y13 y14 y15 y16 y17 y18 y19 y20 y21 y22 y23 y24
    unfold object_Check.j1
    repeat' first
    | (with_reducible exact ih0 _ _ _ _ _ _ _ _ _ _ _ _ _ _ _ _ _ _ _ _ _ _ _ _ _)
    | (with_reducible exact ih1 _ _ _ _ _ _ _ _ _ _ _ _ _ _ _ _ _ _ _ _ _ _ _ _ _)
    | (with_reducible exact height_At.mono _ _ _ _ _ _)
    | (with_reducible exact height_Check.mono _ _ _ _ _ _ _)
    | (with_reducible exact LeO.refl _)
    | (with_reducible exact LeO.none _)
    | (with_reducible refine LeO.ite ?_ ?_)
    | (with_reducible refine LeO.bind ?_ (fun _ => ?_))
    | exact ih0 _ _ _ _ _ _ _ _ _ _ _ _ _ _ _ _ _ _ _ _ _ _ _ _ _
    | exact ih1 _ _ _ _ _ _ _ _ _ _ _ _ _ _ _ _ _ _ _ _ _ _ _ _ _
    | exact height_At.mono _ _ _ _ _ _
    | exact height_Check.mono _ _ _ _ _ _ _
    | exact LeO.none _
    | refine LeO.ite ?_ ?_
    | refine LeO.bind ?_ (fun _ => ?_)
theorem object_Check.mono : ∀ a0 a1 a2 a3 a4 a5 a6 a7 a8 a9 a10 a11 k, LeO (object_Check.f k a0 a1 a2 a3 a4 a5 a6 a7 a8 a9 a10 a11) (object_Check.f (k + 1) a0 a1 a2 a3 a4 a5 a6 a7 a8 a9 a10 a11) := by
  intro a0 a1 a2 a3 a4 a5 a6 a7 a8 a9 a10 a11 k
  obtain ⟨ih0, ih1⟩ := object_Check.mono_l k
  unfold object_Check.f
  repeat' first
      | (with_reducible exact ih0 _ _ _ _ _ _ _ _ _ _ _ _ _ _ _ _ _ _ _ _ _ _ _ _ _)
      | (with_reducible exact ih1 _ _ _ _ _ _ _ _ _ _ _ _ _ _ _ _ _ _ _ _ _ _ _ _ _)
      | (with_reducible exact height_At.mono _ _ _ _ _ _)
      | (with_reducible exact height_Check.mono _ _ _ _ _ _ _)
      | (with_reducible exact LeO.refl _)
      | (with_reducible exact LeO.none _)
      | (with_reducible refine LeO.ite ?_ ?_)
      | (with_reducible refine LeO.bind ?_ (fun _ => ?_))
      | exact ih0 _ _ _ _ _ _ _ _ _ _ _ _ _ _ _ _ _ _ _ _ _ _ _ _ _
      | exact ih1 _ _ _ _ _ _ _ _ _ _ _ _ _ _ _ _ _ _ _ _ _ _ _ _ _
      | exact height_At.mono _ _ _ _ _ _
      | exact height_Check.mono _ _ _ _ _ _ _
      | exact LeO.none _
      | refine LeO.ite ?_ ?_
      | refine LeO.bind ?_ (fun _ => ?_)
set_option maxHeartbeats 8000000 in
set_option maxRecDepth 100000 in
theorem object_Check.calls (k : Nat) (a0_0 : Int) (a0_1 : Int) (a0_2 : Bool) (a0_3 : Int) (a0_4 : Int) (a0_5 : Int) (a0_6 : Int) (a0_7 : Int) (a0_8 : Int) (a0_9 : Int) (a0_10 : Int) (a0_11 : Int) (r : Int) (w : World) (h : object_Check.f k a0_0 a0_1 a0_2 a0_3 a0_4 a0_5 a0_6 a0_7 a0_8 a0_9 a0_10 a0_11 = some r) :
    Calls Try.prog 34 #[.agg #[.int .i64 a0_0, .int .i64 a0_1, .bool a0_2, .int .i64 a0_3, .int .i64 a0_4, .int .i64 a0_5, .int .i64 a0_6, .int .i64 a0_7, .int .i64 a0_8, .int .i64 a0_9, .int .i64 a0_10, .int .i64 a0_11]] w fun e w' => e = .returned (.int .i64 r) ∧ Below w.heap.size w w' := by
  have hu45 := Try.underlying45
  have hu41 := Try.underlying41
  have hu43 := Try.underlying43
  have HB := YL (Below.refl w.heap.size w)
  have H : (if a0_1 ≥ 0 then (object_Check.j0 k (decide (a0_1 < 64)) a0_0 a0_1 a0_2 a0_3 a0_4 a0_5 a0_6 a0_7 a0_8 a0_9 a0_10 a0_11 0 0 a0_2 a0_3 a0_4 a0_5 a0_6 a0_7 a0_8 a0_9 a0_10 a0_11) else (object_Check.j0 k false a0_0 a0_1 a0_2 a0_3 a0_4 a0_5 a0_6 a0_7 a0_8 a0_9 a0_10 a0_11 0 0 a0_2 a0_3 a0_4 a0_5 a0_6 a0_7 a0_8 a0_9 a0_10 a0_11)) = some r := h
  clear h; have HC2 := YL H; clear H
  go_enter Try.func34, Try.ntmps34
  go_upto_region 3 with (first | ((with_reducible refine gate_dst (N := 1) rfl ?_); refine box_event ?hg (N := 1) ?hd (cs := #[.int .i64 a0_0, .int .i64 a0_1, .bool a0_2, .int .i64 a0_3, .int .i64 a0_4, .int .i64 a0_5, .int .i64 a0_6, .int .i64 a0_7, .int .i64 a0_8, .int .i64 a0_9, .int .i64 a0_10, .int .i64 a0_11]) (t := 45) ?hr ?_; (case hd => rfl); (case hg => rfl); (case hr => first | (go_simp; done) | (go_simp; rfl)); intro gb116 hg w3 hbox hb; have n0_ := YL (YD (by repeat (first | (with_reducible first | exact HB.out | apply YA | apply YB | apply YC) | exact HB.out)) hb); have n1_ := YL (hbox); have n2_ := YL ((by rw [hg]; exact (YE (by repeat (first | (with_reducible first | exact HB.out | apply YA | apply YB | apply YC) | exact HB.out))) : w.heap.size ≤ gb116)); have n3_ := YL ((by rw [hg]; exact (YE (by repeat (first | (with_reducible first | exact HB.out | apply YA | apply YB | apply YC) | exact HB.out))) : w.heap.size ≤ gb116)); clear HB; have HB := n0_; have BK116 := n1_; have GW116 := n2_; have GE116 := n3_; clear n0_ n1_ n2_ n3_; clear hb hbox hg; have hcz4_0 : w3.cell? ⟨gb116, 0, none⟩ = some (.int .i64 a0_0) := (YI BK116.out 0).trans rfl; have hcz4_1 : w3.cell? ⟨gb116, 1, none⟩ = some (.int .i64 a0_1) := (YI BK116.out 1).trans rfl; have hcz4_2 : w3.cell? ⟨gb116, 2, none⟩ = some (.bool a0_2) := (YI BK116.out 2).trans rfl; have hcz4_3 : w3.cell? ⟨gb116, 3, none⟩ = some (.int .i64 a0_3) := (YI BK116.out 3).trans rfl; have hcz4_4 : w3.cell? ⟨gb116, 4, none⟩ = some (.int .i64 a0_4) := (YI BK116.out 4).trans rfl; have hcz4_5 : w3.cell? ⟨gb116, 5, none⟩ = some (.int .i64 a0_5) := (YI BK116.out 5).trans rfl; have hcz4_6 : w3.cell? ⟨gb116, 6, none⟩ = some (.int .i64 a0_6) := (YI BK116.out 6).trans rfl; have hcz4_7 : w3.cell? ⟨gb116, 7, none⟩ = some (.int .i64 a0_7) := (YI BK116.out 7).trans rfl; have hcz4_8 : w3.cell? ⟨gb116, 8, none⟩ = some (.int .i64 a0_8) := (YI BK116.out 8).trans rfl; have hcz4_9 : w3.cell? ⟨gb116, 9, none⟩ = some (.int .i64 a0_9) := (YI BK116.out 9).trans rfl; have hcz4_10 : w3.cell? ⟨gb116, 10, none⟩ = some (.int .i64 a0_10) := (YI BK116.out 10).trans rfl; have hcz4_11 : w3.cell? ⟨gb116, 11, none⟩ = some (.int .i64 a0_11) := (YI BK116.out 11).trans rfl; have hfz4_0 := YJ BK116.out 0; have hfz4_1 := YJ BK116.out 1; have hfz4_2 := YJ BK116.out 2; have hfz4_3 := YJ BK116.out 3; have hfz4_4 := YJ BK116.out 4; have hfz4_5 := YJ BK116.out 5; have hfz4_6 := YJ BK116.out 6; have hfz4_7 := YJ BK116.out 7; have hfz4_8 := YJ BK116.out 8; have hfz4_9 := YJ BK116.out 9; have hfz4_10 := YJ BK116.out 10; have hfz4_11 := YJ BK116.out 11) | ((with_reducible refine gate_dst (N := 3) rfl ?_); refine box_event ?hg (N := 3) ?hd (cs := #[.int .i64 0, .int .i64 0, .bool false, .int .i64 0, .int .i64 0, .int .i64 0, .int .i64 0, .int .i64 0, .int .i64 0, .int .i64 0, .int .i64 0, .int .i64 0]) (t := 45) ?hr ?_; (case hd => rfl); (case hg => rfl); (case hr => first | (go_simp; done) | (go_simp; rfl)); intro gb117 hg w5 hbox hb; have n0_ := YL (YK (g := gb116) (o := .cells #[.int .i64 a0_0, .int .i64 a0_1, .bool a0_2, .int .i64 a0_3, .int .i64 a0_4, .int .i64 a0_5, .int .i64 a0_6, .int .i64 a0_7, .int .i64 a0_8, .int .i64 a0_9, .int .i64 a0_10, .int .i64 a0_11] 45 (0, 0)) (by (with_reducible repeat (first | refine YF ?_ _ | refine YG ?_ | refine YH ?_ _)); exact BK116.out) hb); have n1_ := YL (YD (by repeat (first | (with_reducible first | exact HB.out | apply YA | apply YB | apply YC | refine below_set ?_ GE116.out) | exact HB.out)) hb); have n2_ := YL (hbox); have n3_ := YL ((by rw [hg]; exact (YE (by repeat (first | (with_reducible first | exact HB.out | apply YA | apply YB | apply YC | refine below_set ?_ GE116.out) | exact HB.out))) : w.heap.size ≤ gb117)); have n4_ := YL ((by rw [hg]; exact (YE (by repeat (first | (with_reducible first | exact HB.out | apply YA | apply YB | apply YC | refine below_set ?_ GE116.out) | exact HB.out))) : w.heap.size ≤ gb117)); have n5_ := YL ((by rw [hg]; exact Nat.ne_of_lt (blk_lt (g := gb116) (o := .cells #[.int .i64 a0_0, .int .i64 a0_1, .bool a0_2, .int .i64 a0_3, .int .i64 a0_4, .int .i64 a0_5, .int .i64 a0_6, .int .i64 a0_7, .int .i64 a0_8, .int .i64 a0_9, .int .i64 a0_10, .int .i64 a0_11] 45 (0, 0)) (by (with_reducible repeat (first | refine YF ?_ _ | refine YG ?_ | refine YH ?_ _)); exact BK116.out)) : gb116 ≠ gb117)); have n6_ := YL ((by rw [hg]; exact Nat.ne_of_gt (blk_lt (g := gb116) (o := .cells #[.int .i64 a0_0, .int .i64 a0_1, .bool a0_2, .int .i64 a0_3, .int .i64 a0_4, .int .i64 a0_5, .int .i64 a0_6, .int .i64 a0_7, .int .i64 a0_8, .int .i64 a0_9, .int .i64 a0_10, .int .i64 a0_11] 45 (0, 0)) (by (with_reducible repeat (first | refine YF ?_ _ | refine YG ?_ | refine YH ?_ _)); exact BK116.out)) : gb117 ≠ gb116)); clear BK116; clear HB; have BK116 := n0_; have HB := n1_; have BK117 := n2_; have GW117 := n3_; have GE117 := n4_; have NB116_117 := n5_; have NB117_116 := n6_; clear n0_ n1_ n2_ n3_ n4_ n5_ n6_; clear hb hbox hg; have hnb6 := NB117_116.out; have hnc6 := NB116_117.out; have hcz7_0 : w5.cell? ⟨gb117, 0, none⟩ = some (.int .i64 0) := (YI BK117.out 0).trans rfl; have hcz7_1 : w5.cell? ⟨gb117, 1, none⟩ = some (.int .i64 0) := (YI BK117.out 1).trans rfl; have hcz7_2 : w5.cell? ⟨gb117, 2, none⟩ = some (.bool false) := (YI BK117.out 2).trans rfl; have hcz7_3 : w5.cell? ⟨gb117, 3, none⟩ = some (.int .i64 0) := (YI BK117.out 3).trans rfl; have hcz7_4 : w5.cell? ⟨gb117, 4, none⟩ = some (.int .i64 0) := (YI BK117.out 4).trans rfl; have hcz7_5 : w5.cell? ⟨gb117, 5, none⟩ = some (.int .i64 0) := (YI BK117.out 5).trans rfl; have hcz7_6 : w5.cell? ⟨gb117, 6, none⟩ = some (.int .i64 0) := (YI BK117.out 6).trans rfl; have hcz7_7 : w5.cell? ⟨gb117, 7, none⟩ = some (.int .i64 0) := (YI BK117.out 7).trans rfl; have hcz7_8 : w5.cell? ⟨gb117, 8, none⟩ = some (.int .i64 0) := (YI BK117.out 8).trans rfl; have hcz7_9 : w5.cell? ⟨gb117, 9, none⟩ = some (.int .i64 0) := (YI BK117.out 9).trans rfl; have hcz7_10 : w5.cell? ⟨gb117, 10, none⟩ = some (.int .i64 0) := (YI BK117.out 10).trans rfl; have hcz7_11 : w5.cell? ⟨gb117, 11, none⟩ = some (.int .i64 0) := (YI BK117.out 11).trans rfl; have hfz7_0 := YJ BK117.out 0; have hfz7_1 := YJ BK117.out 1; have hfz7_2 := YJ BK117.out 2; have hfz7_3 := YJ BK117.out 3; have hfz7_4 := YJ BK117.out 4; have hfz7_5 := YJ BK117.out 5; have hfz7_6 := YJ BK117.out 6; have hfz7_7 := YJ BK117.out 7; have hfz7_8 := YJ BK117.out 8; have hfz7_9 := YJ BK117.out 9; have hfz7_10 := YJ BK117.out 10; have hfz7_11 := YJ BK117.out 11))
  (try simp only [Act.put, List.setIfInBounds_toArray, List.set_cons_zero, List.set_cons_succ])
  go_cut [4] (fun v4 wc => ∃ (kq : Nat) (x4_1 : Bool), v4 = .bool x4_1 ∧ Aside0 (object_Check.j0 kq x4_1 a0_0 a0_1 a0_2 a0_3 a0_4 a0_5 a0_6 a0_7 a0_8 a0_9 a0_10 a0_11 0 0 a0_2 a0_3 a0_4 a0_5 a0_6 a0_7 a0_8 a0_9 a0_10 a0_11 = some r) ∧ Aside0 (kq ≤ k) ∧ Aside0 (wc.heap[gb116]? = some (.cells #[.int .i64 a0_0, .int .i64 a0_1, .bool a0_2, .int .i64 a0_3, .int .i64 a0_4, .int .i64 a0_5, .int .i64 a0_6, .int .i64 a0_7, .int .i64 a0_8, .int .i64 a0_9, .int .i64 a0_10, .int .i64 a0_11] 45 (0, 0))) ∧ Aside0 (wc.heap[gb117]? = some (.cells #[.int .i64 0, .int .i64 0, .bool a0_2, .int .i64 a0_3, .int .i64 a0_4, .int .i64 a0_5, .int .i64 a0_6, .int .i64 a0_7, .int .i64 a0_8, .int .i64 a0_9, .int .i64 a0_10, .int .i64 a0_11] 45 (0, 0))) ∧ Aside0 (Below w.heap.size w wc))
  case first =>
    have H := HC2.out
    clear HC2
    by_cases c8 : a0_1 ≥ 0
    · rw [if_pos c8] at H
      have c8b0 : decide (0 ≤ a0_1) = true := decide_eq_true c8; clear c8
      (first | rw [c8b0] | (simp only [i64_w, i32_w]; rw [c8b0]) | skip)
      have H' := YL H
      clear H
      have hnb9 := NB116_117.out
      have hnc9 := NB117_116.out
      have hcz10_0 : w5.cell? ⟨gb116, 0, none⟩ = some (.int .i64 a0_0) := (YI BK116.out 0).trans rfl
      have hcz10_1 : w5.cell? ⟨gb116, 1, none⟩ = some (.int .i64 a0_1) := (YI BK116.out 1).trans rfl
      have hcz10_2 : w5.cell? ⟨gb116, 2, none⟩ = some (.bool a0_2) := (YI BK116.out 2).trans rfl
      have hcz10_3 : w5.cell? ⟨gb116, 3, none⟩ = some (.int .i64 a0_3) := (YI BK116.out 3).trans rfl
      have hcz10_4 : w5.cell? ⟨gb116, 4, none⟩ = some (.int .i64 a0_4) := (YI BK116.out 4).trans rfl
      have hcz10_5 : w5.cell? ⟨gb116, 5, none⟩ = some (.int .i64 a0_5) := (YI BK116.out 5).trans rfl
      have hcz10_6 : w5.cell? ⟨gb116, 6, none⟩ = some (.int .i64 a0_6) := (YI BK116.out 6).trans rfl
      have hcz10_7 : w5.cell? ⟨gb116, 7, none⟩ = some (.int .i64 a0_7) := (YI BK116.out 7).trans rfl
      have hcz10_8 : w5.cell? ⟨gb116, 8, none⟩ = some (.int .i64 a0_8) := (YI BK116.out 8).trans rfl
      have hcz10_9 : w5.cell? ⟨gb116, 9, none⟩ = some (.int .i64 a0_9) := (YI BK116.out 9).trans rfl
      have hcz10_10 : w5.cell? ⟨gb116, 10, none⟩ = some (.int .i64 a0_10) := (YI BK116.out 10).trans rfl
      have hcz10_11 : w5.cell? ⟨gb116, 11, none⟩ = some (.int .i64 a0_11) := (YI BK116.out 11).trans rfl
      have hfz10_0 := YJ BK116.out 0
      have hfz10_1 := YJ BK116.out 1
      have hfz10_2 := YJ BK116.out 2
      have hfz10_3 := YJ BK116.out 3
      have hfz10_4 := YJ BK116.out 4
      have hfz10_5 := YJ BK116.out 5
      have hfz10_6 := YJ BK116.out 6
      have hfz10_7 := YJ BK116.out 7
      have hfz10_8 := YJ BK116.out 8
      have hfz10_9 := YJ BK116.out 9
      have hfz10_10 := YJ BK116.out 10
      have hfz10_11 := YJ BK116.out 11
      go_wp2
      go_meet
      case rel => exact ⟨_, (decide (a0_1 < 64)), (by first | rfl | (simp; done) | (simp [*]; done)), H', ⟨by first | omega | exact Nat.le_refl _⟩, ⟨by (with_reducible repeat (first | refine YF ?_ _ | refine YG ?_ | refine YH ?_ _)); refine blk_far ?_ NB116_117.out _; (with_reducible repeat (first | refine YF ?_ _ | refine YG ?_ | refine YH ?_ _)); refine blk_far ?_ NB116_117.out _; (with_reducible repeat (first | refine YF ?_ _ | refine YG ?_ | refine YH ?_ _)); refine blk_far ?_ NB116_117.out _; (with_reducible repeat (first | refine YF ?_ _ | refine YG ?_ | refine YH ?_ _)); refine blk_far ?_ NB116_117.out _; (with_reducible repeat (first | refine YF ?_ _ | refine YG ?_ | refine YH ?_ _)); refine blk_far ?_ NB116_117.out _; (with_reducible repeat (first | refine YF ?_ _ | refine YG ?_ | refine YH ?_ _)); refine blk_far ?_ NB116_117.out _; (with_reducible repeat (first | refine YF ?_ _ | refine YG ?_ | refine YH ?_ _)); refine blk_far ?_ NB116_117.out _; (with_reducible repeat (first | refine YF ?_ _ | refine YG ?_ | refine YH ?_ _)); refine blk_far ?_ NB116_117.out _; (with_reducible repeat (first | refine YF ?_ _ | refine YG ?_ | refine YH ?_ _)); refine blk_far ?_ NB116_117.out _; (with_reducible repeat (first | refine YF ?_ _ | refine YG ?_ | refine YH ?_ _)); refine blk_far ?_ NB116_117.out _; (with_reducible repeat (first | refine YF ?_ _ | refine YG ?_ | refine YH ?_ _)); refine blk_far ?_ NB116_117.out _; (with_reducible repeat (first | refine YF ?_ _ | refine YG ?_ | refine YH ?_ _)); refine blk_far ?_ NB116_117.out _; (with_reducible repeat (first | refine YF ?_ _ | refine YG ?_ | refine YH ?_ _)); refine blk_far ?_ NB116_117.out _; (with_reducible repeat (first | refine YF ?_ _ | refine YG ?_ | refine YH ?_ _)); refine blk_far ?_ NB116_117.out _; (with_reducible repeat (first | refine YF ?_ _ | refine YG ?_ | refine YH ?_ _)); exact BK116.out⟩, ⟨by (with_reducible repeat (first | refine YF ?_ _ | refine YG ?_ | refine YH ?_ _)); refine blk_put (cs := #[.int .i64 0, .int .i64 a0_1, .bool a0_2, .int .i64 a0_3, .int .i64 a0_4, .int .i64 a0_5, .int .i64 a0_6, .int .i64 a0_7, .int .i64 a0_8, .int .i64 a0_9, .int .i64 a0_10, .int .i64 a0_11]) ?_ 1 _ rfl; (with_reducible repeat (first | refine YF ?_ _ | refine YG ?_ | refine YH ?_ _)); refine blk_put (cs := #[.int .i64 a0_0, .int .i64 a0_1, .bool a0_2, .int .i64 a0_3, .int .i64 a0_4, .int .i64 a0_5, .int .i64 a0_6, .int .i64 a0_7, .int .i64 a0_8, .int .i64 a0_9, .int .i64 a0_10, .int .i64 a0_11]) ?_ 0 _ rfl; (with_reducible repeat (first | refine YF ?_ _ | refine YG ?_ | refine YH ?_ _)); refine blk_put (cs := #[.int .i64 a0_0, .int .i64 a0_1, .bool a0_2, .int .i64 a0_3, .int .i64 a0_4, .int .i64 a0_5, .int .i64 a0_6, .int .i64 a0_7, .int .i64 a0_8, .int .i64 a0_9, .int .i64 a0_10, .int .i64 0]) ?_ 11 _ rfl; (with_reducible repeat (first | refine YF ?_ _ | refine YG ?_ | refine YH ?_ _)); refine blk_put (cs := #[.int .i64 a0_0, .int .i64 a0_1, .bool a0_2, .int .i64 a0_3, .int .i64 a0_4, .int .i64 a0_5, .int .i64 a0_6, .int .i64 a0_7, .int .i64 a0_8, .int .i64 a0_9, .int .i64 0, .int .i64 0]) ?_ 10 _ rfl; (with_reducible repeat (first | refine YF ?_ _ | refine YG ?_ | refine YH ?_ _)); refine blk_put (cs := #[.int .i64 a0_0, .int .i64 a0_1, .bool a0_2, .int .i64 a0_3, .int .i64 a0_4, .int .i64 a0_5, .int .i64 a0_6, .int .i64 a0_7, .int .i64 a0_8, .int .i64 0, .int .i64 0, .int .i64 0]) ?_ 9 _ rfl; (with_reducible repeat (first | refine YF ?_ _ | refine YG ?_ | refine YH ?_ _)); refine blk_put (cs := #[.int .i64 a0_0, .int .i64 a0_1, .bool a0_2, .int .i64 a0_3, .int .i64 a0_4, .int .i64 a0_5, .int .i64 a0_6, .int .i64 a0_7, .int .i64 0, .int .i64 0, .int .i64 0, .int .i64 0]) ?_ 8 _ rfl; (with_reducible repeat (first | refine YF ?_ _ | refine YG ?_ | refine YH ?_ _)); refine blk_put (cs := #[.int .i64 a0_0, .int .i64 a0_1, .bool a0_2, .int .i64 a0_3, .int .i64 a0_4, .int .i64 a0_5, .int .i64 a0_6, .int .i64 0, .int .i64 0, .int .i64 0, .int .i64 0, .int .i64 0]) ?_ 7 _ rfl; (with_reducible repeat (first | refine YF ?_ _ | refine YG ?_ | refine YH ?_ _)); refine blk_put (cs := #[.int .i64 a0_0, .int .i64 a0_1, .bool a0_2, .int .i64 a0_3, .int .i64 a0_4, .int .i64 a0_5, .int .i64 0, .int .i64 0, .int .i64 0, .int .i64 0, .int .i64 0, .int .i64 0]) ?_ 6 _ rfl; (with_reducible repeat (first | refine YF ?_ _ | refine YG ?_ | refine YH ?_ _)); refine blk_put (cs := #[.int .i64 a0_0, .int .i64 a0_1, .bool a0_2, .int .i64 a0_3, .int .i64 a0_4, .int .i64 0, .int .i64 0, .int .i64 0, .int .i64 0, .int .i64 0, .int .i64 0, .int .i64 0]) ?_ 5 _ rfl; (with_reducible repeat (first | refine YF ?_ _ | refine YG ?_ | refine YH ?_ _)); refine blk_put (cs := #[.int .i64 a0_0, .int .i64 a0_1, .bool a0_2, .int .i64 a0_3, .int .i64 0, .int .i64 0, .int .i64 0, .int .i64 0, .int .i64 0, .int .i64 0, .int .i64 0, .int .i64 0]) ?_ 4 _ rfl; (with_reducible repeat (first | refine YF ?_ _ | refine YG ?_ | refine YH ?_ _)); refine blk_put (cs := #[.int .i64 a0_0, .int .i64 a0_1, .bool a0_2, .int .i64 0, .int .i64 0, .int .i64 0, .int .i64 0, .int .i64 0, .int .i64 0, .int .i64 0, .int .i64 0, .int .i64 0]) ?_ 3 _ rfl; (with_reducible repeat (first | refine YF ?_ _ | refine YG ?_ | refine YH ?_ _)); refine blk_put (cs := #[.int .i64 a0_0, .int .i64 a0_1, .bool false, .int .i64 0, .int .i64 0, .int .i64 0, .int .i64 0, .int .i64 0, .int .i64 0, .int .i64 0, .int .i64 0, .int .i64 0]) ?_ 2 _ rfl; (with_reducible repeat (first | refine YF ?_ _ | refine YG ?_ | refine YH ?_ _)); refine blk_put (cs := #[.int .i64 a0_0, .int .i64 0, .bool false, .int .i64 0, .int .i64 0, .int .i64 0, .int .i64 0, .int .i64 0, .int .i64 0, .int .i64 0, .int .i64 0, .int .i64 0]) ?_ 1 _ rfl; (with_reducible repeat (first | refine YF ?_ _ | refine YG ?_ | refine YH ?_ _)); refine blk_put (cs := #[.int .i64 0, .int .i64 0, .bool false, .int .i64 0, .int .i64 0, .int .i64 0, .int .i64 0, .int .i64 0, .int .i64 0, .int .i64 0, .int .i64 0, .int .i64 0]) ?_ 0 _ rfl; (with_reducible repeat (first | refine YF ?_ _ | refine YG ?_ | refine YH ?_ _)); exact BK117.out⟩, ⟨by repeat (first | (with_reducible first | exact HB.out | apply YA | apply YB | apply YC | refine below_set ?_ GE116.out | refine below_set ?_ GE117.out) | exact HB.out)⟩⟩
    rw [if_neg c8] at H; have c8b0 : decide (0 ≤ a0_1) = false := decide_eq_false c8; clear c8
    (first | rw [c8b0] | (simp only [i64_w, i32_w]; rw [c8b0]) | skip)
    have H' := YL H
    clear H
    have hnb11 := NB116_117.out
    have hnc11 := NB117_116.out
    have hcz12_0 : w5.cell? ⟨gb116, 0, none⟩ = some (.int .i64 a0_0) := (YI BK116.out 0).trans rfl
    have hcz12_1 : w5.cell? ⟨gb116, 1, none⟩ = some (.int .i64 a0_1) := (YI BK116.out 1).trans rfl
    have hcz12_2 : w5.cell? ⟨gb116, 2, none⟩ = some (.bool a0_2) := (YI BK116.out 2).trans rfl
    have hcz12_3 : w5.cell? ⟨gb116, 3, none⟩ = some (.int .i64 a0_3) := (YI BK116.out 3).trans rfl
    have hcz12_4 : w5.cell? ⟨gb116, 4, none⟩ = some (.int .i64 a0_4) := (YI BK116.out 4).trans rfl
    have hcz12_5 : w5.cell? ⟨gb116, 5, none⟩ = some (.int .i64 a0_5) := (YI BK116.out 5).trans rfl
    have hcz12_6 : w5.cell? ⟨gb116, 6, none⟩ = some (.int .i64 a0_6) := (YI BK116.out 6).trans rfl
    have hcz12_7 : w5.cell? ⟨gb116, 7, none⟩ = some (.int .i64 a0_7) := (YI BK116.out 7).trans rfl
    have hcz12_8 : w5.cell? ⟨gb116, 8, none⟩ = some (.int .i64 a0_8) := (YI BK116.out 8).trans rfl
    have hcz12_9 : w5.cell? ⟨gb116, 9, none⟩ = some (.int .i64 a0_9) := (YI BK116.out 9).trans rfl
    have hcz12_10 : w5.cell? ⟨gb116, 10, none⟩ = some (.int .i64 a0_10) := (YI BK116.out 10).trans rfl
    have hcz12_11 : w5.cell? ⟨gb116, 11, none⟩ = some (.int .i64 a0_11) := (YI BK116.out 11).trans rfl
    have hfz12_0 := YJ BK116.out 0
    have hfz12_1 := YJ BK116.out 1
    have hfz12_2 := YJ BK116.out 2
    have hfz12_3 := YJ BK116.out 3
    have hfz12_4 := YJ BK116.out 4
    have hfz12_5 := YJ BK116.out 5
    have hfz12_6 := YJ BK116.out 6
    have hfz12_7 := YJ BK116.out 7
    have hfz12_8 := YJ BK116.out 8
    have hfz12_9 := YJ BK116.out 9
    have hfz12_10 := YJ BK116.out 10
    have hfz12_11 := YJ BK116.out 11
    go_wp2
    go_meet
    case rel => exact ⟨_, (false), (by first | rfl | (simp; done) | (simp [*]; done)), H', ⟨by first | omega | exact Nat.le_refl _⟩, ⟨by (with_reducible repeat (first | refine YF ?_ _ | refine YG ?_ | refine YH ?_ _)); refine blk_far ?_ NB116_117.out _; (with_reducible repeat (first | refine YF ?_ _ | refine YG ?_ | refine YH ?_ _)); refine blk_far ?_ NB116_117.out _; (with_reducible repeat (first | refine YF ?_ _ | refine YG ?_ | refine YH ?_ _)); refine blk_far ?_ NB116_117.out _; (with_reducible repeat (first | refine YF ?_ _ | refine YG ?_ | refine YH ?_ _)); refine blk_far ?_ NB116_117.out _; (with_reducible repeat (first | refine YF ?_ _ | refine YG ?_ | refine YH ?_ _)); refine blk_far ?_ NB116_117.out _; (with_reducible repeat (first | refine YF ?_ _ | refine YG ?_ | refine YH ?_ _)); refine blk_far ?_ NB116_117.out _; (with_reducible repeat (first | refine YF ?_ _ | refine YG ?_ | refine YH ?_ _)); refine blk_far ?_ NB116_117.out _; (with_reducible repeat (first | refine YF ?_ _ | refine YG ?_ | refine YH ?_ _)); refine blk_far ?_ NB116_117.out _; (with_reducible repeat (first | refine YF ?_ _ | refine YG ?_ | refine YH ?_ _)); refine blk_far ?_ NB116_117.out _; (with_reducible repeat (first | refine YF ?_ _ | refine YG ?_ | refine YH ?_ _)); refine blk_far ?_ NB116_117.out _; (with_reducible repeat (first | refine YF ?_ _ | refine YG ?_ | refine YH ?_ _)); refine blk_far ?_ NB116_117.out _; (with_reducible repeat (first | refine YF ?_ _ | refine YG ?_ | refine YH ?_ _)); refine blk_far ?_ NB116_117.out _; (with_reducible repeat (first | refine YF ?_ _ | refine YG ?_ | refine YH ?_ _)); refine blk_far ?_ NB116_117.out _; (with_reducible repeat (first | refine YF ?_ _ | refine YG ?_ | refine YH ?_ _)); refine blk_far ?_ NB116_117.out _; (with_reducible repeat (first | refine YF ?_ _ | refine YG ?_ | refine YH ?_ _)); exact BK116.out⟩, ⟨by (with_reducible repeat (first | refine YF ?_ _ | refine YG ?_ | refine YH ?_ _)); refine blk_put (cs := #[.int .i64 0, .int .i64 a0_1, .bool a0_2, .int .i64 a0_3, .int .i64 a0_4, .int .i64 a0_5, .int .i64 a0_6, .int .i64 a0_7, .int .i64 a0_8, .int .i64 a0_9, .int .i64 a0_10, .int .i64 a0_11]) ?_ 1 _ rfl; (with_reducible repeat (first | refine YF ?_ _ | refine YG ?_ | refine YH ?_ _)); refine blk_put (cs := #[.int .i64 a0_0, .int .i64 a0_1, .bool a0_2, .int .i64 a0_3, .int .i64 a0_4, .int .i64 a0_5, .int .i64 a0_6, .int .i64 a0_7, .int .i64 a0_8, .int .i64 a0_9, .int .i64 a0_10, .int .i64 a0_11]) ?_ 0 _ rfl; (with_reducible repeat (first | refine YF ?_ _ | refine YG ?_ | refine YH ?_ _)); refine blk_put (cs := #[.int .i64 a0_0, .int .i64 a0_1, .bool a0_2, .int .i64 a0_3, .int .i64 a0_4, .int .i64 a0_5, .int .i64 a0_6, .int .i64 a0_7, .int .i64 a0_8, .int .i64 a0_9, .int .i64 a0_10, .int .i64 0]) ?_ 11 _ rfl; (with_reducible repeat (first | refine YF ?_ _ | refine YG ?_ | refine YH ?_ _)); refine blk_put (cs := #[.int .i64 a0_0, .int .i64 a0_1, .bool a0_2, .int .i64 a0_3, .int .i64 a0_4, .int .i64 a0_5, .int .i64 a0_6, .int .i64 a0_7, .int .i64 a0_8, .int .i64 a0_9, .int .i64 0, .int .i64 0]) ?_ 10 _ rfl; (with_reducible repeat (first | refine YF ?_ _ | refine YG ?_ | refine YH ?_ _)); refine blk_put (cs := #[.int .i64 a0_0, .int .i64 a0_1, .bool a0_2, .int .i64 a0_3, .int .i64 a0_4, .int .i64 a0_5, .int .i64 a0_6, .int .i64 a0_7, .int .i64 a0_8, .int .i64 0, .int .i64 0, .int .i64 0]) ?_ 9 _ rfl; (with_reducible repeat (first | refine YF ?_ _ | refine YG ?_ | refine YH ?_ _)); refine blk_put (cs := #[.int .i64 a0_0, .int .i64 a0_1, .bool a0_2, .int .i64 a0_3, .int .i64 a0_4, .int .i64 a0_5, .int .i64 a0_6, .int .i64 a0_7, .int .i64 0, .int .i64 0, .int .i64 0, .int .i64 0]) ?_ 8 _ rfl; (with_reducible repeat (first | refine YF ?_ _ | refine YG ?_ | refine YH ?_ _)); refine blk_put (cs := #[.int .i64 a0_0, .int .i64 a0_1, .bool a0_2, .int .i64 a0_3, .int .i64 a0_4, .int .i64 a0_5, .int .i64 a0_6, .int .i64 0, .int .i64 0, .int .i64 0, .int .i64 0, .int .i64 0]) ?_ 7 _ rfl; (with_reducible repeat (first | refine YF ?_ _ | refine YG ?_ | refine YH ?_ _)); refine blk_put (cs := #[.int .i64 a0_0, .int .i64 a0_1, .bool a0_2, .int .i64 a0_3, .int .i64 a0_4, .int .i64 a0_5, .int .i64 0, .int .i64 0, .int .i64 0, .int .i64 0, .int .i64 0, .int .i64 0]) ?_ 6 _ rfl; (with_reducible repeat (first | refine YF ?_ _ | refine YG ?_ | refine YH ?_ _)); refine blk_put (cs := #[.int .i64 a0_0, .int .i64 a0_1, .bool a0_2, .int .i64 a0_3, .int .i64 a0_4, .int .i64 0, .int .i64 0, .int .i64 0, .int .i64 0, .int .i64 0, .int .i64 0, .int .i64 0]) ?_ 5 _ rfl; (with_reducible repeat (first | refine YF ?_ _ | refine YG ?_ | refine YH ?_ _)); refine blk_put (cs := #[.int .i64 a0_0, .int .i64 a0_1, .bool a0_2, .int .i64 a0_3, .int .i64 0, .int .i64 0, .int .i64 0, .int .i64 0, .int .i64 0, .int .i64 0, .int .i64 0, .int .i64 0]) ?_ 4 _ rfl; (with_reducible repeat (first | refine YF ?_ _ | refine YG ?_ | refine YH ?_ _)); refine blk_put (cs := #[.int .i64 a0_0, .int .i64 a0_1, .bool a0_2, .int .i64 0, .int .i64 0, .int .i64 0, .int .i64 0, .int .i64 0, .int .i64 0, .int .i64 0, .int .i64 0, .int .i64 0]) ?_ 3 _ rfl; (with_reducible repeat (first | refine YF ?_ _ | refine YG ?_ | refine YH ?_ _)); refine blk_put (cs := #[.int .i64 a0_0, .int .i64 a0_1, .bool false, .int .i64 0, .int .i64 0, .int .i64 0, .int .i64 0, .int .i64 0, .int .i64 0, .int .i64 0, .int .i64 0, .int .i64 0]) ?_ 2 _ rfl; (with_reducible repeat (first | refine YF ?_ _ | refine YG ?_ | refine YH ?_ _)); refine blk_put (cs := #[.int .i64 a0_0, .int .i64 0, .bool false, .int .i64 0, .int .i64 0, .int .i64 0, .int .i64 0, .int .i64 0, .int .i64 0, .int .i64 0, .int .i64 0, .int .i64 0]) ?_ 1 _ rfl; (with_reducible repeat (first | refine YF ?_ _ | refine YG ?_ | refine YH ?_ _)); refine blk_put (cs := #[.int .i64 0, .int .i64 0, .bool false, .int .i64 0, .int .i64 0, .int .i64 0, .int .i64 0, .int .i64 0, .int .i64 0, .int .i64 0, .int .i64 0, .int .i64 0]) ?_ 0 _ rfl; (with_reducible repeat (first | refine YF ?_ _ | refine YG ?_ | refine YH ?_ _)); exact BK117.out⟩, ⟨by repeat (first | (with_reducible first | exact HB.out | apply YA | apply YB | apply YC | refine below_set ?_ GE116.out | refine below_set ?_ GE117.out) | exact HB.out)⟩⟩
  case rest =>
    clear HC2
    try clear c1
    try clear p2
    try clear c3
    try clear c6
    try clear c8
    try clear c8b0
    try clear c9
    try clear c11
    try clear hcz10_0
    try clear hcz10_1
    try clear hcz10_10
    try clear hcz10_11
    try clear hcz10_2
    try clear hcz10_3
    try clear hcz10_4
    try clear hcz10_5
    try clear hcz10_6
    try clear hcz10_7
    try clear hcz10_8
    try clear hcz10_9
    try clear hcz12_0
    try clear hcz12_1
    try clear hcz12_10
    try clear hcz12_11
    try clear hcz12_2
    try clear hcz12_3
    try clear hcz12_4
    try clear hcz12_5
    try clear hcz12_6
    try clear hcz12_7
    try clear hcz12_8
    try clear hcz12_9
    try clear hcz4_0
    try clear hcz4_1
    try clear hcz4_10
    try clear hcz4_11
    try clear hcz4_2
    try clear hcz4_3
    try clear hcz4_4
    try clear hcz4_5
    try clear hcz4_6
    try clear hcz4_7
    try clear hcz4_8
    try clear hcz4_9
    try clear hcz7_0
    try clear hcz7_1
    try clear hcz7_10
    try clear hcz7_11
    try clear hcz7_2
    try clear hcz7_3
    try clear hcz7_4
    try clear hcz7_5
    try clear hcz7_6
    try clear hcz7_7
    try clear hcz7_8
    try clear hcz7_9
    try clear hfz10_0
    try clear hfz10_1
    try clear hfz10_10
    try clear hfz10_11
    try clear hfz10_2
    try clear hfz10_3
    try clear hfz10_4
    try clear hfz10_5
    try clear hfz10_6
    try clear hfz10_7
    try clear hfz10_8
    try clear hfz10_9
    try clear hfz12_0
    try clear hfz12_1
    try clear hfz12_10
    try clear hfz12_11
    try clear hfz12_2
    try clear hfz12_3
    try clear hfz12_4
    try clear hfz12_5
    try clear hfz12_6
    try clear hfz12_7
    try clear hfz12_8
    try clear hfz12_9
    try clear hfz4_0
    try clear hfz4_1
    try clear hfz4_10
    try clear hfz4_11
    try clear hfz4_2
    try clear hfz4_3
    try clear hfz4_4
    try clear hfz4_5
    try clear hfz4_6
    try clear hfz4_7
    try clear hfz4_8
    try clear hfz4_9
    try clear hfz7_0
    try clear hfz7_1
    try clear hfz7_10
    try clear hfz7_11
    try clear hfz7_2
    try clear hfz7_3
    try clear hfz7_4
    try clear hfz7_5
    try clear hfz7_6
    try clear hfz7_7
    try clear hfz7_8
    try clear hfz7_9
    obtain ⟨kq, x4_1, rfl, HA, HJ1, BK116, BK117, HB⟩ := hcut
    cases kq with
    | zero => exact absurd HA.out (by simp [object_Check.j0])
    | succ kj1 =>
      have H := HA.out
      clear HA
      simp only [object_Check.j0] at H
      have HC13 := YL H; clear H
      have hnb14 := NB116_117.out
      have hnc14 := NB117_116.out
      have hcz15_0 : wc.cell? ⟨gb116, 0, none⟩ = some (.int .i64 a0_0) := (YI BK116.out 0).trans rfl
      have hcz15_1 : wc.cell? ⟨gb116, 1, none⟩ = some (.int .i64 a0_1) := (YI BK116.out 1).trans rfl
      have hcz15_2 : wc.cell? ⟨gb116, 2, none⟩ = some (.bool a0_2) := (YI BK116.out 2).trans rfl
      have hcz15_3 : wc.cell? ⟨gb116, 3, none⟩ = some (.int .i64 a0_3) := (YI BK116.out 3).trans rfl
      have hcz15_4 : wc.cell? ⟨gb116, 4, none⟩ = some (.int .i64 a0_4) := (YI BK116.out 4).trans rfl
      have hcz15_5 : wc.cell? ⟨gb116, 5, none⟩ = some (.int .i64 a0_5) := (YI BK116.out 5).trans rfl
      have hcz15_6 : wc.cell? ⟨gb116, 6, none⟩ = some (.int .i64 a0_6) := (YI BK116.out 6).trans rfl
      have hcz15_7 : wc.cell? ⟨gb116, 7, none⟩ = some (.int .i64 a0_7) := (YI BK116.out 7).trans rfl
      have hcz15_8 : wc.cell? ⟨gb116, 8, none⟩ = some (.int .i64 a0_8) := (YI BK116.out 8).trans rfl
      have hcz15_9 : wc.cell? ⟨gb116, 9, none⟩ = some (.int .i64 a0_9) := (YI BK116.out 9).trans rfl
      have hcz15_10 : wc.cell? ⟨gb116, 10, none⟩ = some (.int .i64 a0_10) := (YI BK116.out 10).trans rfl
      have hcz15_11 : wc.cell? ⟨gb116, 11, none⟩ = some (.int .i64 a0_11) := (YI BK116.out 11).trans rfl
      have hfz15_0 := YJ BK116.out 0
      have hfz15_1 := YJ BK116.out 1
      have hfz15_2 := YJ BK116.out 2
      have hfz15_3 := YJ BK116.out 3
      have hfz15_4 := YJ BK116.out 4
      have hfz15_5 := YJ BK116.out 5
      have hfz15_6 := YJ BK116.out 6
      have hfz15_7 := YJ BK116.out 7
      have hfz15_8 := YJ BK116.out 8
      have hfz15_9 := YJ BK116.out 9
      have hfz15_10 := YJ BK116.out 10
      have hfz15_11 := YJ BK116.out 11
      go_upto_block 3 with (fail)
      go_cut [4] (fun v4 wc => ∃ (kq : Nat) (x4_12 : Bool) (x118011_12 : Int), v4 = .bool x4_12 ∧ Aside0 (object_Check.j1 kq x4_12 a0_0 a0_1 a0_2 a0_3 a0_4 a0_5 a0_6 a0_7 a0_8 a0_9 a0_10 a0_11 0 0 a0_2 a0_3 a0_4 a0_5 a0_6 a0_7 a0_8 a0_9 a0_10 x118011_12 = some r) ∧ Aside0 (kq ≤ kj1) ∧ Aside0 (wc.heap[gb116]? = some (.cells #[.int .i64 a0_0, .int .i64 a0_1, .bool a0_2, .int .i64 a0_3, .int .i64 a0_4, .int .i64 a0_5, .int .i64 a0_6, .int .i64 a0_7, .int .i64 a0_8, .int .i64 a0_9, .int .i64 a0_10, .int .i64 a0_11] 45 (0, 0))) ∧ Aside0 (wc.heap[gb117]? = some (.cells #[.int .i64 0, .int .i64 0, .bool a0_2, .int .i64 a0_3, .int .i64 a0_4, .int .i64 a0_5, .int .i64 a0_6, .int .i64 a0_7, .int .i64 a0_8, .int .i64 a0_9, .int .i64 a0_10, .int .i64 x118011_12] 45 (0, 0))) ∧ Aside0 (Below w.heap.size w wc))
      case first =>
        have H := HC13.out
        clear HC13
        by_cases c16 : a0_0 = 1
        · rw [if_pos c16] at H
          have c16b0 : (a0_0 == 1) = true := beq_iff_eq.mpr c16
          have c16b1 : (a0_0 != 1) = false := bne_eq_false_iff_eq.mpr c16
          clear c16
          (first | rw [c16b0] | (simp only [i64_w, i32_w]; rw [c16b0]) | skip)
          by_cases c17 : x4_1 = true
          · subst c17
            have H1 : (if (!(0 == 0) || (!(0 == 0) || ((a0_2 || (!(a0_3 == 0) || (!(a0_4 == 0) || (!(a0_5 == 0) || (!(a0_6 == 0) || (!(a0_7 == 0))))))) || ((!(a0_8 == 0) || (!(a0_9 == 0) || (!(a0_10 == 0)))) || (!(a0_11 == 0)))))) = true then (some 1) else (some 0)) = some r := by rw [if_pos rfl] at H; exact H
            clear H
            have H := H1
            clear H1
            by_cases c18 : (!(0 == 0) || (!(0 == 0) || ((a0_2 || (!(a0_3 == 0) || (!(a0_4 == 0) || (!(a0_5 == 0) || (!(a0_6 == 0) || (!(a0_7 == 0))))))) || ((!(a0_8 == 0) || (!(a0_9 == 0) || (!(a0_10 == 0)))) || (!(a0_11 == 0)))))) = true
            · rw [if_pos c18] at H
              have c18b0 : (!(0 == 0) || (!(0 == 0) || ((a0_2 || (!(a0_3 == 0) || (!(a0_4 == 0) || (!(a0_5 == 0) || (!(a0_6 == 0) || (!(a0_7 == 0))))))) || ((!(a0_8 == 0) || (!(a0_9 == 0) || (!(a0_10 == 0)))) || (!(a0_11 == 0)))))) = true := c18
              have c18b9 := c18b0
              (try simp only [beq_self_eq_true, Bool.not_true, Bool.not_false, Bool.false_or, Bool.true_and, Bool.or_false, Bool.and_true] at c18b9)
              clear c18
              obtain rfl := Option.some.inj H
              have hnb19 := NB117_116.out
              have hnc19 := NB116_117.out
              have hcz20_0 : wc.cell? ⟨gb117, 0, none⟩ = some (.int .i64 0) := (YI BK117.out 0).trans rfl
              have hcz20_1 : wc.cell? ⟨gb117, 1, none⟩ = some (.int .i64 0) := (YI BK117.out 1).trans rfl
              have hcz20_2 : wc.cell? ⟨gb117, 2, none⟩ = some (.bool a0_2) := (YI BK117.out 2).trans rfl
              have hcz20_3 : wc.cell? ⟨gb117, 3, none⟩ = some (.int .i64 a0_3) := (YI BK117.out 3).trans rfl
              have hcz20_4 : wc.cell? ⟨gb117, 4, none⟩ = some (.int .i64 a0_4) := (YI BK117.out 4).trans rfl
              have hcz20_5 : wc.cell? ⟨gb117, 5, none⟩ = some (.int .i64 a0_5) := (YI BK117.out 5).trans rfl
              have hcz20_6 : wc.cell? ⟨gb117, 6, none⟩ = some (.int .i64 a0_6) := (YI BK117.out 6).trans rfl
              have hcz20_7 : wc.cell? ⟨gb117, 7, none⟩ = some (.int .i64 a0_7) := (YI BK117.out 7).trans rfl
              have hcz20_8 : wc.cell? ⟨gb117, 8, none⟩ = some (.int .i64 a0_8) := (YI BK117.out 8).trans rfl
              have hcz20_9 : wc.cell? ⟨gb117, 9, none⟩ = some (.int .i64 a0_9) := (YI BK117.out 9).trans rfl
              have hcz20_10 : wc.cell? ⟨gb117, 10, none⟩ = some (.int .i64 a0_10) := (YI BK117.out 10).trans rfl
              have hcz20_11 : wc.cell? ⟨gb117, 11, none⟩ = some (.int .i64 a0_11) := (YI BK117.out 11).trans rfl
              have hfz20_0 := YJ BK117.out 0
              have hfz20_1 := YJ BK117.out 1
              have hfz20_2 := YJ BK117.out 2
              have hfz20_3 := YJ BK117.out 3
              have hfz20_4 := YJ BK117.out 4
              have hfz20_5 := YJ BK117.out 5
              have hfz20_6 := YJ BK117.out 6
              have hfz20_7 := YJ BK117.out 7
              have hfz20_8 := YJ BK117.out 8
              have hfz20_9 := YJ BK117.out 9
              have hfz20_10 := YJ BK117.out 10
              have hfz20_11 := YJ BK117.out 11
              go_wp2
              go_ret
              exact ⟨by first | rfl | (simp [errW_none, errW_some] <;> rfl) | (simp [*, errW_none, errW_some] <;> rfl), by repeat (first | (with_reducible first | exact HB.out | apply YA | apply YB | apply YC | refine below_set ?_ GE116.out | refine below_set ?_ GE117.out) | exact HB.out)⟩
            rw [if_neg c18] at H
            have c18b0 : (!(0 == 0) || (!(0 == 0) || ((a0_2 || (!(a0_3 == 0) || (!(a0_4 == 0) || (!(a0_5 == 0) || (!(a0_6 == 0) || (!(a0_7 == 0))))))) || ((!(a0_8 == 0) || (!(a0_9 == 0) || (!(a0_10 == 0)))) || (!(a0_11 == 0)))))) = false := by simpa using c18
            have c18b9 := c18b0
            (try simp only [beq_self_eq_true, Bool.not_true, Bool.not_false, Bool.false_or, Bool.true_and, Bool.or_false, Bool.and_true] at c18b9)
            clear c18
            obtain rfl := Option.some.inj H
            have hnb21 := NB117_116.out
            have hnc21 := NB116_117.out
            have hcz22_0 : wc.cell? ⟨gb117, 0, none⟩ = some (.int .i64 0) := (YI BK117.out 0).trans rfl
            have hcz22_1 : wc.cell? ⟨gb117, 1, none⟩ = some (.int .i64 0) := (YI BK117.out 1).trans rfl
            have hcz22_2 : wc.cell? ⟨gb117, 2, none⟩ = some (.bool a0_2) := (YI BK117.out 2).trans rfl
            have hcz22_3 : wc.cell? ⟨gb117, 3, none⟩ = some (.int .i64 a0_3) := (YI BK117.out 3).trans rfl
            have hcz22_4 : wc.cell? ⟨gb117, 4, none⟩ = some (.int .i64 a0_4) := (YI BK117.out 4).trans rfl
            have hcz22_5 : wc.cell? ⟨gb117, 5, none⟩ = some (.int .i64 a0_5) := (YI BK117.out 5).trans rfl
            have hcz22_6 : wc.cell? ⟨gb117, 6, none⟩ = some (.int .i64 a0_6) := (YI BK117.out 6).trans rfl
            have hcz22_7 : wc.cell? ⟨gb117, 7, none⟩ = some (.int .i64 a0_7) := (YI BK117.out 7).trans rfl
            have hcz22_8 : wc.cell? ⟨gb117, 8, none⟩ = some (.int .i64 a0_8) := (YI BK117.out 8).trans rfl
            have hcz22_9 : wc.cell? ⟨gb117, 9, none⟩ = some (.int .i64 a0_9) := (YI BK117.out 9).trans rfl
            have hcz22_10 : wc.cell? ⟨gb117, 10, none⟩ = some (.int .i64 a0_10) := (YI BK117.out 10).trans rfl
            have hcz22_11 : wc.cell? ⟨gb117, 11, none⟩ = some (.int .i64 a0_11) := (YI BK117.out 11).trans rfl
            have hfz22_0 := YJ BK117.out 0
            have hfz22_1 := YJ BK117.out 1
            have hfz22_2 := YJ BK117.out 2
            have hfz22_3 := YJ BK117.out 3
            have hfz22_4 := YJ BK117.out 4
            have hfz22_5 := YJ BK117.out 5
            have hfz22_6 := YJ BK117.out 6
            have hfz22_7 := YJ BK117.out 7
            have hfz22_8 := YJ BK117.out 8
            have hfz22_9 := YJ BK117.out 9
            have hfz22_10 := YJ BK117.out 10
            have hfz22_11 := YJ BK117.out 11
            go_wp2
            go_ret
            exact ⟨by first | rfl | (simp [errW_none, errW_some] <;> rfl) | (simp [*, errW_none, errW_some] <;> rfl), by repeat (first | (with_reducible first | exact HB.out | apply YA | apply YB | apply YC | refine below_set ?_ GE116.out | refine below_set ?_ GE117.out) | exact HB.out)⟩
          replace c17 := Bool.eq_false_iff.mpr c17
          subst c17
          have H1 : (some 1) = some r := by rw [if_neg (show ¬ (false = true) by decide)] at H; exact H
          clear H
          have H := H1
          clear H1
          obtain rfl := Option.some.inj H
          go_wp2
          go_ret
          exact ⟨by first | rfl | (simp [errW_none, errW_some] <;> rfl) | (simp [*, errW_none, errW_some] <;> rfl), by repeat (first | (with_reducible first | exact HB.out | apply YA | apply YB | apply YC | refine below_set ?_ GE116.out | refine below_set ?_ GE117.out) | exact HB.out)⟩
        rw [if_neg c16] at H
        have c16b0 : (a0_0 == 1) = false := beq_eq_false_iff_ne.mpr c16
        have c16b1 : (a0_0 != 1) = true := bne_iff_ne.mpr c16
        (first | rw [c16b0] | (simp only [i64_w, i32_w]; rw [c16b0]) | skip)
        by_cases c23 : a0_0 = 4
        · rw [if_pos c23] at H
          have c23b0 : (a0_0 == 4) = true := beq_iff_eq.mpr c23
          have c23b1 : (a0_0 != 4) = false := bne_eq_false_iff_eq.mpr c23
          clear c23
          by_cases c24 : x4_1 = true
          · subst c24
            have H1 : (if a0_2 = true then (object_Check.j1 kj1 false a0_0 a0_1 true a0_3 a0_4 a0_5 a0_6 a0_7 a0_8 a0_9 a0_10 a0_11 0 0 a0_2 a0_3 a0_4 a0_5 a0_6 a0_7 a0_8 a0_9 a0_10 0) else (if a0_11 ≥ 0 then (object_Check.j1 kj1 (decide (a0_11 ≤ 65535)) a0_0 a0_1 false a0_3 a0_4 a0_5 a0_6 a0_7 a0_8 a0_9 a0_10 a0_11 0 0 a0_2 a0_3 a0_4 a0_5 a0_6 a0_7 a0_8 a0_9 a0_10 0) else (object_Check.j1 kj1 false a0_0 a0_1 false a0_3 a0_4 a0_5 a0_6 a0_7 a0_8 a0_9 a0_10 a0_11 0 0 a0_2 a0_3 a0_4 a0_5 a0_6 a0_7 a0_8 a0_9 a0_10 0))) = some r := by rw [if_pos rfl] at H; exact H
            clear H
            have H := H1
            clear H1
            by_cases c25 : a0_2 = true
            · subst c25
              have H1 : (object_Check.j1 kj1 false a0_0 a0_1 true a0_3 a0_4 a0_5 a0_6 a0_7 a0_8 a0_9 a0_10 a0_11 0 0 true a0_3 a0_4 a0_5 a0_6 a0_7 a0_8 a0_9 a0_10 0) = some r := by rw [if_pos rfl] at H; exact H
              clear H
              have H := H1
              clear H1
              have H' := YL H
              clear H
              have hnb26 := NB116_117.out
              have hnc26 := NB117_116.out
              have hcz27_0 : wc.cell? ⟨gb116, 0, none⟩ = some (.int .i64 a0_0) := (YI BK116.out 0).trans rfl
              have hcz27_1 : wc.cell? ⟨gb116, 1, none⟩ = some (.int .i64 a0_1) := (YI BK116.out 1).trans rfl
              have hcz27_2 : wc.cell? ⟨gb116, 2, none⟩ = some (.bool true) := (YI BK116.out 2).trans rfl
              have hcz27_3 : wc.cell? ⟨gb116, 3, none⟩ = some (.int .i64 a0_3) := (YI BK116.out 3).trans rfl
              have hcz27_4 : wc.cell? ⟨gb116, 4, none⟩ = some (.int .i64 a0_4) := (YI BK116.out 4).trans rfl
              have hcz27_5 : wc.cell? ⟨gb116, 5, none⟩ = some (.int .i64 a0_5) := (YI BK116.out 5).trans rfl
              have hcz27_6 : wc.cell? ⟨gb116, 6, none⟩ = some (.int .i64 a0_6) := (YI BK116.out 6).trans rfl
              have hcz27_7 : wc.cell? ⟨gb116, 7, none⟩ = some (.int .i64 a0_7) := (YI BK116.out 7).trans rfl
              have hcz27_8 : wc.cell? ⟨gb116, 8, none⟩ = some (.int .i64 a0_8) := (YI BK116.out 8).trans rfl
              have hcz27_9 : wc.cell? ⟨gb116, 9, none⟩ = some (.int .i64 a0_9) := (YI BK116.out 9).trans rfl
              have hcz27_10 : wc.cell? ⟨gb116, 10, none⟩ = some (.int .i64 a0_10) := (YI BK116.out 10).trans rfl
              have hcz27_11 : wc.cell? ⟨gb116, 11, none⟩ = some (.int .i64 a0_11) := (YI BK116.out 11).trans rfl
              have hfz27_0 := YJ BK116.out 0
              have hfz27_1 := YJ BK116.out 1
              have hfz27_2 := YJ BK116.out 2
              have hfz27_3 := YJ BK116.out 3
              have hfz27_4 := YJ BK116.out 4
              have hfz27_5 := YJ BK116.out 5
              have hfz27_6 := YJ BK116.out 6
              have hfz27_7 := YJ BK116.out 7
              have hfz27_8 := YJ BK116.out 8
              have hfz27_9 := YJ BK116.out 9
              have hfz27_10 := YJ BK116.out 10
              have hfz27_11 := YJ BK116.out 11
              have hcz28_0 : wc.cell? ⟨gb117, 0, none⟩ = some (.int .i64 0) := (YI BK117.out 0).trans rfl
              have hcz28_1 : wc.cell? ⟨gb117, 1, none⟩ = some (.int .i64 0) := (YI BK117.out 1).trans rfl
              have hcz28_2 : wc.cell? ⟨gb117, 2, none⟩ = some (.bool true) := (YI BK117.out 2).trans rfl
              have hcz28_3 : wc.cell? ⟨gb117, 3, none⟩ = some (.int .i64 a0_3) := (YI BK117.out 3).trans rfl
              have hcz28_4 : wc.cell? ⟨gb117, 4, none⟩ = some (.int .i64 a0_4) := (YI BK117.out 4).trans rfl
              have hcz28_5 : wc.cell? ⟨gb117, 5, none⟩ = some (.int .i64 a0_5) := (YI BK117.out 5).trans rfl
              have hcz28_6 : wc.cell? ⟨gb117, 6, none⟩ = some (.int .i64 a0_6) := (YI BK117.out 6).trans rfl
              have hcz28_7 : wc.cell? ⟨gb117, 7, none⟩ = some (.int .i64 a0_7) := (YI BK117.out 7).trans rfl
              have hcz28_8 : wc.cell? ⟨gb117, 8, none⟩ = some (.int .i64 a0_8) := (YI BK117.out 8).trans rfl
              have hcz28_9 : wc.cell? ⟨gb117, 9, none⟩ = some (.int .i64 a0_9) := (YI BK117.out 9).trans rfl
              have hcz28_10 : wc.cell? ⟨gb117, 10, none⟩ = some (.int .i64 a0_10) := (YI BK117.out 10).trans rfl
              have hcz28_11 : wc.cell? ⟨gb117, 11, none⟩ = some (.int .i64 a0_11) := (YI BK117.out 11).trans rfl
              have hfz28_0 := YJ BK117.out 0
              have hfz28_1 := YJ BK117.out 1
              have hfz28_2 := YJ BK117.out 2
              have hfz28_3 := YJ BK117.out 3
              have hfz28_4 := YJ BK117.out 4
              have hfz28_5 := YJ BK117.out 5
              have hfz28_6 := YJ BK117.out 6
              have hfz28_7 := YJ BK117.out 7
              have hfz28_8 := YJ BK117.out 8
              have hfz28_9 := YJ BK117.out 9
              have hfz28_10 := YJ BK117.out 10
              have hfz28_11 := YJ BK117.out 11
              go_wp2
              go_meet
              case rel => exact ⟨_, (false), (0), (by first | rfl | (simp; done) | (simp [*]; done)), H', ⟨by have := HJ1.out; first | omega | exact Nat.le_refl _⟩, ⟨by (with_reducible repeat (first | refine YF ?_ _ | refine YG ?_ | refine YH ?_ _)); refine blk_far ?_ NB116_117.out _; (with_reducible repeat (first | refine YF ?_ _ | refine YG ?_ | refine YH ?_ _)); exact BK116.out⟩, ⟨by (with_reducible repeat (first | refine YF ?_ _ | refine YG ?_ | refine YH ?_ _)); refine blk_put (cs := #[.int .i64 0, .int .i64 0, .bool true, .int .i64 a0_3, .int .i64 a0_4, .int .i64 a0_5, .int .i64 a0_6, .int .i64 a0_7, .int .i64 a0_8, .int .i64 a0_9, .int .i64 a0_10, .int .i64 a0_11]) ?_ 11 _ rfl; (with_reducible repeat (first | refine YF ?_ _ | refine YG ?_ | refine YH ?_ _)); exact BK117.out⟩, ⟨by repeat (first | (with_reducible first | exact HB.out | apply YA | apply YB | apply YC | refine below_set ?_ GE116.out | refine below_set ?_ GE117.out) | exact HB.out)⟩⟩
            replace c25 := Bool.eq_false_iff.mpr c25
            subst c25
            have H1 : (if a0_11 ≥ 0 then (object_Check.j1 kj1 (decide (a0_11 ≤ 65535)) a0_0 a0_1 false a0_3 a0_4 a0_5 a0_6 a0_7 a0_8 a0_9 a0_10 a0_11 0 0 false a0_3 a0_4 a0_5 a0_6 a0_7 a0_8 a0_9 a0_10 0) else (object_Check.j1 kj1 false a0_0 a0_1 false a0_3 a0_4 a0_5 a0_6 a0_7 a0_8 a0_9 a0_10 a0_11 0 0 false a0_3 a0_4 a0_5 a0_6 a0_7 a0_8 a0_9 a0_10 0)) = some r := by rw [if_neg (show ¬ (false = true) by decide)] at H; exact H
            clear H
            have H := H1
            clear H1
            by_cases c29 : a0_11 ≥ 0
            · rw [if_pos c29] at H
              have c29b0 : decide (0 ≤ a0_11) = true := decide_eq_true c29; clear c29
              have H' := YL H
              clear H
              have hnb30 := NB116_117.out
              have hnc30 := NB117_116.out
              have hcz31_0 : wc.cell? ⟨gb116, 0, none⟩ = some (.int .i64 a0_0) := (YI BK116.out 0).trans rfl
              have hcz31_1 : wc.cell? ⟨gb116, 1, none⟩ = some (.int .i64 a0_1) := (YI BK116.out 1).trans rfl
              have hcz31_2 : wc.cell? ⟨gb116, 2, none⟩ = some (.bool false) := (YI BK116.out 2).trans rfl
              have hcz31_3 : wc.cell? ⟨gb116, 3, none⟩ = some (.int .i64 a0_3) := (YI BK116.out 3).trans rfl
              have hcz31_4 : wc.cell? ⟨gb116, 4, none⟩ = some (.int .i64 a0_4) := (YI BK116.out 4).trans rfl
              have hcz31_5 : wc.cell? ⟨gb116, 5, none⟩ = some (.int .i64 a0_5) := (YI BK116.out 5).trans rfl
              have hcz31_6 : wc.cell? ⟨gb116, 6, none⟩ = some (.int .i64 a0_6) := (YI BK116.out 6).trans rfl
              have hcz31_7 : wc.cell? ⟨gb116, 7, none⟩ = some (.int .i64 a0_7) := (YI BK116.out 7).trans rfl
              have hcz31_8 : wc.cell? ⟨gb116, 8, none⟩ = some (.int .i64 a0_8) := (YI BK116.out 8).trans rfl
              have hcz31_9 : wc.cell? ⟨gb116, 9, none⟩ = some (.int .i64 a0_9) := (YI BK116.out 9).trans rfl
              have hcz31_10 : wc.cell? ⟨gb116, 10, none⟩ = some (.int .i64 a0_10) := (YI BK116.out 10).trans rfl
              have hcz31_11 : wc.cell? ⟨gb116, 11, none⟩ = some (.int .i64 a0_11) := (YI BK116.out 11).trans rfl
              have hfz31_0 := YJ BK116.out 0
              have hfz31_1 := YJ BK116.out 1
              have hfz31_2 := YJ BK116.out 2
              have hfz31_3 := YJ BK116.out 3
              have hfz31_4 := YJ BK116.out 4
              have hfz31_5 := YJ BK116.out 5
              have hfz31_6 := YJ BK116.out 6
              have hfz31_7 := YJ BK116.out 7
              have hfz31_8 := YJ BK116.out 8
              have hfz31_9 := YJ BK116.out 9
              have hfz31_10 := YJ BK116.out 10
              have hfz31_11 := YJ BK116.out 11
              have hcz32_0 : wc.cell? ⟨gb117, 0, none⟩ = some (.int .i64 0) := (YI BK117.out 0).trans rfl
              have hcz32_1 : wc.cell? ⟨gb117, 1, none⟩ = some (.int .i64 0) := (YI BK117.out 1).trans rfl
              have hcz32_2 : wc.cell? ⟨gb117, 2, none⟩ = some (.bool false) := (YI BK117.out 2).trans rfl
              have hcz32_3 : wc.cell? ⟨gb117, 3, none⟩ = some (.int .i64 a0_3) := (YI BK117.out 3).trans rfl
              have hcz32_4 : wc.cell? ⟨gb117, 4, none⟩ = some (.int .i64 a0_4) := (YI BK117.out 4).trans rfl
              have hcz32_5 : wc.cell? ⟨gb117, 5, none⟩ = some (.int .i64 a0_5) := (YI BK117.out 5).trans rfl
              have hcz32_6 : wc.cell? ⟨gb117, 6, none⟩ = some (.int .i64 a0_6) := (YI BK117.out 6).trans rfl
              have hcz32_7 : wc.cell? ⟨gb117, 7, none⟩ = some (.int .i64 a0_7) := (YI BK117.out 7).trans rfl
              have hcz32_8 : wc.cell? ⟨gb117, 8, none⟩ = some (.int .i64 a0_8) := (YI BK117.out 8).trans rfl
              have hcz32_9 : wc.cell? ⟨gb117, 9, none⟩ = some (.int .i64 a0_9) := (YI BK117.out 9).trans rfl
              have hcz32_10 : wc.cell? ⟨gb117, 10, none⟩ = some (.int .i64 a0_10) := (YI BK117.out 10).trans rfl
              have hcz32_11 : wc.cell? ⟨gb117, 11, none⟩ = some (.int .i64 a0_11) := (YI BK117.out 11).trans rfl
              have hfz32_0 := YJ BK117.out 0
              have hfz32_1 := YJ BK117.out 1
              have hfz32_2 := YJ BK117.out 2
              have hfz32_3 := YJ BK117.out 3
              have hfz32_4 := YJ BK117.out 4
              have hfz32_5 := YJ BK117.out 5
              have hfz32_6 := YJ BK117.out 6
              have hfz32_7 := YJ BK117.out 7
              have hfz32_8 := YJ BK117.out 8
              have hfz32_9 := YJ BK117.out 9
              have hfz32_10 := YJ BK117.out 10
              have hfz32_11 := YJ BK117.out 11
              go_wp2
              go_meet
              case rel => exact ⟨_, (decide (a0_11 ≤ 65535)), (0), (by first | rfl | (simp; done) | (simp [*]; done)), H', ⟨by have := HJ1.out; first | omega | exact Nat.le_refl _⟩, ⟨by (with_reducible repeat (first | refine YF ?_ _ | refine YG ?_ | refine YH ?_ _)); refine blk_far ?_ NB116_117.out _; (with_reducible repeat (first | refine YF ?_ _ | refine YG ?_ | refine YH ?_ _)); exact BK116.out⟩, ⟨by (with_reducible repeat (first | refine YF ?_ _ | refine YG ?_ | refine YH ?_ _)); refine blk_put (cs := #[.int .i64 0, .int .i64 0, .bool false, .int .i64 a0_3, .int .i64 a0_4, .int .i64 a0_5, .int .i64 a0_6, .int .i64 a0_7, .int .i64 a0_8, .int .i64 a0_9, .int .i64 a0_10, .int .i64 a0_11]) ?_ 11 _ rfl; (with_reducible repeat (first | refine YF ?_ _ | refine YG ?_ | refine YH ?_ _)); exact BK117.out⟩, ⟨by repeat (first | (with_reducible first | exact HB.out | apply YA | apply YB | apply YC | refine below_set ?_ GE116.out | refine below_set ?_ GE117.out) | exact HB.out)⟩⟩
            rw [if_neg c29] at H; have c29b0 : decide (0 ≤ a0_11) = false := decide_eq_false c29; clear c29
            have H' := YL H
            clear H
            have hnb33 := NB116_117.out
            have hnc33 := NB117_116.out
            have hcz34_0 : wc.cell? ⟨gb116, 0, none⟩ = some (.int .i64 a0_0) := (YI BK116.out 0).trans rfl
            have hcz34_1 : wc.cell? ⟨gb116, 1, none⟩ = some (.int .i64 a0_1) := (YI BK116.out 1).trans rfl
            have hcz34_2 : wc.cell? ⟨gb116, 2, none⟩ = some (.bool false) := (YI BK116.out 2).trans rfl
            have hcz34_3 : wc.cell? ⟨gb116, 3, none⟩ = some (.int .i64 a0_3) := (YI BK116.out 3).trans rfl
            have hcz34_4 : wc.cell? ⟨gb116, 4, none⟩ = some (.int .i64 a0_4) := (YI BK116.out 4).trans rfl
            have hcz34_5 : wc.cell? ⟨gb116, 5, none⟩ = some (.int .i64 a0_5) := (YI BK116.out 5).trans rfl
            have hcz34_6 : wc.cell? ⟨gb116, 6, none⟩ = some (.int .i64 a0_6) := (YI BK116.out 6).trans rfl
            have hcz34_7 : wc.cell? ⟨gb116, 7, none⟩ = some (.int .i64 a0_7) := (YI BK116.out 7).trans rfl
            have hcz34_8 : wc.cell? ⟨gb116, 8, none⟩ = some (.int .i64 a0_8) := (YI BK116.out 8).trans rfl
            have hcz34_9 : wc.cell? ⟨gb116, 9, none⟩ = some (.int .i64 a0_9) := (YI BK116.out 9).trans rfl
            have hcz34_10 : wc.cell? ⟨gb116, 10, none⟩ = some (.int .i64 a0_10) := (YI BK116.out 10).trans rfl
            have hcz34_11 : wc.cell? ⟨gb116, 11, none⟩ = some (.int .i64 a0_11) := (YI BK116.out 11).trans rfl
            have hfz34_0 := YJ BK116.out 0
            have hfz34_1 := YJ BK116.out 1
            have hfz34_2 := YJ BK116.out 2
            have hfz34_3 := YJ BK116.out 3
            have hfz34_4 := YJ BK116.out 4
            have hfz34_5 := YJ BK116.out 5
            have hfz34_6 := YJ BK116.out 6
            have hfz34_7 := YJ BK116.out 7
            have hfz34_8 := YJ BK116.out 8
            have hfz34_9 := YJ BK116.out 9
            have hfz34_10 := YJ BK116.out 10
            have hfz34_11 := YJ BK116.out 11
            have hcz35_0 : wc.cell? ⟨gb117, 0, none⟩ = some (.int .i64 0) := (YI BK117.out 0).trans rfl
            have hcz35_1 : wc.cell? ⟨gb117, 1, none⟩ = some (.int .i64 0) := (YI BK117.out 1).trans rfl
            have hcz35_2 : wc.cell? ⟨gb117, 2, none⟩ = some (.bool false) := (YI BK117.out 2).trans rfl
            have hcz35_3 : wc.cell? ⟨gb117, 3, none⟩ = some (.int .i64 a0_3) := (YI BK117.out 3).trans rfl
            have hcz35_4 : wc.cell? ⟨gb117, 4, none⟩ = some (.int .i64 a0_4) := (YI BK117.out 4).trans rfl
            have hcz35_5 : wc.cell? ⟨gb117, 5, none⟩ = some (.int .i64 a0_5) := (YI BK117.out 5).trans rfl
            have hcz35_6 : wc.cell? ⟨gb117, 6, none⟩ = some (.int .i64 a0_6) := (YI BK117.out 6).trans rfl
            have hcz35_7 : wc.cell? ⟨gb117, 7, none⟩ = some (.int .i64 a0_7) := (YI BK117.out 7).trans rfl
            have hcz35_8 : wc.cell? ⟨gb117, 8, none⟩ = some (.int .i64 a0_8) := (YI BK117.out 8).trans rfl
            have hcz35_9 : wc.cell? ⟨gb117, 9, none⟩ = some (.int .i64 a0_9) := (YI BK117.out 9).trans rfl
            have hcz35_10 : wc.cell? ⟨gb117, 10, none⟩ = some (.int .i64 a0_10) := (YI BK117.out 10).trans rfl
            have hcz35_11 : wc.cell? ⟨gb117, 11, none⟩ = some (.int .i64 a0_11) := (YI BK117.out 11).trans rfl
            have hfz35_0 := YJ BK117.out 0
            have hfz35_1 := YJ BK117.out 1
            have hfz35_2 := YJ BK117.out 2
            have hfz35_3 := YJ BK117.out 3
            have hfz35_4 := YJ BK117.out 4
            have hfz35_5 := YJ BK117.out 5
            have hfz35_6 := YJ BK117.out 6
            have hfz35_7 := YJ BK117.out 7
            have hfz35_8 := YJ BK117.out 8
            have hfz35_9 := YJ BK117.out 9
            have hfz35_10 := YJ BK117.out 10
            have hfz35_11 := YJ BK117.out 11
            go_wp2
            go_meet
            case rel => exact ⟨_, (false), (0), (by first | rfl | (simp; done) | (simp [*]; done)), H', ⟨by have := HJ1.out; first | omega | exact Nat.le_refl _⟩, ⟨by (with_reducible repeat (first | refine YF ?_ _ | refine YG ?_ | refine YH ?_ _)); refine blk_far ?_ NB116_117.out _; (with_reducible repeat (first | refine YF ?_ _ | refine YG ?_ | refine YH ?_ _)); exact BK116.out⟩, ⟨by (with_reducible repeat (first | refine YF ?_ _ | refine YG ?_ | refine YH ?_ _)); refine blk_put (cs := #[.int .i64 0, .int .i64 0, .bool false, .int .i64 a0_3, .int .i64 a0_4, .int .i64 a0_5, .int .i64 a0_6, .int .i64 a0_7, .int .i64 a0_8, .int .i64 a0_9, .int .i64 a0_10, .int .i64 a0_11]) ?_ 11 _ rfl; (with_reducible repeat (first | refine YF ?_ _ | refine YG ?_ | refine YH ?_ _)); exact BK117.out⟩, ⟨by repeat (first | (with_reducible first | exact HB.out | apply YA | apply YB | apply YC | refine below_set ?_ GE116.out | refine below_set ?_ GE117.out) | exact HB.out)⟩⟩
          replace c24 := Bool.eq_false_iff.mpr c24
          subst c24
          have H1 : (object_Check.j1 kj1 false a0_0 a0_1 a0_2 a0_3 a0_4 a0_5 a0_6 a0_7 a0_8 a0_9 a0_10 a0_11 0 0 a0_2 a0_3 a0_4 a0_5 a0_6 a0_7 a0_8 a0_9 a0_10 0) = some r := by rw [if_neg (show ¬ (false = true) by decide)] at H; exact H
          clear H
          have H := H1
          clear H1
          have H' := YL H
          clear H
          have hnb36 := NB117_116.out
          have hnc36 := NB116_117.out
          have hcz37_0 : wc.cell? ⟨gb117, 0, none⟩ = some (.int .i64 0) := (YI BK117.out 0).trans rfl
          have hcz37_1 : wc.cell? ⟨gb117, 1, none⟩ = some (.int .i64 0) := (YI BK117.out 1).trans rfl
          have hcz37_2 : wc.cell? ⟨gb117, 2, none⟩ = some (.bool a0_2) := (YI BK117.out 2).trans rfl
          have hcz37_3 : wc.cell? ⟨gb117, 3, none⟩ = some (.int .i64 a0_3) := (YI BK117.out 3).trans rfl
          have hcz37_4 : wc.cell? ⟨gb117, 4, none⟩ = some (.int .i64 a0_4) := (YI BK117.out 4).trans rfl
          have hcz37_5 : wc.cell? ⟨gb117, 5, none⟩ = some (.int .i64 a0_5) := (YI BK117.out 5).trans rfl
          have hcz37_6 : wc.cell? ⟨gb117, 6, none⟩ = some (.int .i64 a0_6) := (YI BK117.out 6).trans rfl
          have hcz37_7 : wc.cell? ⟨gb117, 7, none⟩ = some (.int .i64 a0_7) := (YI BK117.out 7).trans rfl
          have hcz37_8 : wc.cell? ⟨gb117, 8, none⟩ = some (.int .i64 a0_8) := (YI BK117.out 8).trans rfl
          have hcz37_9 : wc.cell? ⟨gb117, 9, none⟩ = some (.int .i64 a0_9) := (YI BK117.out 9).trans rfl
          have hcz37_10 : wc.cell? ⟨gb117, 10, none⟩ = some (.int .i64 a0_10) := (YI BK117.out 10).trans rfl
          have hcz37_11 : wc.cell? ⟨gb117, 11, none⟩ = some (.int .i64 a0_11) := (YI BK117.out 11).trans rfl
          have hfz37_0 := YJ BK117.out 0
          have hfz37_1 := YJ BK117.out 1
          have hfz37_2 := YJ BK117.out 2
          have hfz37_3 := YJ BK117.out 3
          have hfz37_4 := YJ BK117.out 4
          have hfz37_5 := YJ BK117.out 5
          have hfz37_6 := YJ BK117.out 6
          have hfz37_7 := YJ BK117.out 7
          have hfz37_8 := YJ BK117.out 8
          have hfz37_9 := YJ BK117.out 9
          have hfz37_10 := YJ BK117.out 10
          have hfz37_11 := YJ BK117.out 11
          go_wp2
          go_meet
          case rel => exact ⟨_, (false), (0), (by first | rfl | (simp; done) | (simp [*]; done)), H', ⟨by have := HJ1.out; first | omega | exact Nat.le_refl _⟩, ⟨by (with_reducible repeat (first | refine YF ?_ _ | refine YG ?_ | refine YH ?_ _)); refine blk_far ?_ NB116_117.out _; (with_reducible repeat (first | refine YF ?_ _ | refine YG ?_ | refine YH ?_ _)); exact BK116.out⟩, ⟨by (with_reducible repeat (first | refine YF ?_ _ | refine YG ?_ | refine YH ?_ _)); refine blk_put (cs := #[.int .i64 0, .int .i64 0, .bool a0_2, .int .i64 a0_3, .int .i64 a0_4, .int .i64 a0_5, .int .i64 a0_6, .int .i64 a0_7, .int .i64 a0_8, .int .i64 a0_9, .int .i64 a0_10, .int .i64 a0_11]) ?_ 11 _ rfl; (with_reducible repeat (first | refine YF ?_ _ | refine YG ?_ | refine YH ?_ _)); exact BK117.out⟩, ⟨by repeat (first | (with_reducible first | exact HB.out | apply YA | apply YB | apply YC | refine below_set ?_ GE116.out | refine below_set ?_ GE117.out) | exact HB.out)⟩⟩
        rw [if_neg c23] at H
        have c23b0 : (a0_0 == 4) = false := beq_eq_false_iff_ne.mpr c23
        have c23b1 : (a0_0 != 4) = true := bne_iff_ne.mpr c23
        by_cases c38 : a0_0 = 2
        · rw [if_pos c38] at H
          have c38b0 : (a0_0 == 2) = true := beq_iff_eq.mpr c38
          have c38b1 : (a0_0 != 2) = false := bne_eq_false_iff_eq.mpr c38
          clear c38
          have H' := YL H
          clear H
          go_wp2
          go_meet
          case rel => exact ⟨_, (x4_1), (a0_11), (by first | rfl | (simp; done) | (simp [*]; done)), H', ⟨by have := HJ1.out; first | omega | exact Nat.le_refl _⟩, ⟨by (with_reducible repeat (first | refine YF ?_ _ | refine YG ?_ | refine YH ?_ _)); exact BK116.out⟩, ⟨by (with_reducible repeat (first | refine YF ?_ _ | refine YG ?_ | refine YH ?_ _)); exact BK117.out⟩, ⟨by repeat (first | (with_reducible first | exact HB.out | apply YA | apply YB | apply YC | refine below_set ?_ GE116.out | refine below_set ?_ GE117.out) | exact HB.out)⟩⟩
        rw [if_neg c38] at H
        have c38b0 : (a0_0 == 2) = false := beq_eq_false_iff_ne.mpr c38
        have c38b1 : (a0_0 != 2) = true := bne_iff_ne.mpr c38
        by_cases c39 : a0_0 = 3
        · rw [if_pos c39] at H
          have c39b0 : (a0_0 == 3) = true := beq_iff_eq.mpr c39
          have c39b1 : (a0_0 != 3) = false := bne_eq_false_iff_eq.mpr c39
          clear c39; replace H := Option.bind_eq_some_iff.mp H
          obtain ⟨⟨t118, t119, t120, t121, t122, t123, t124⟩, A400, H⟩ := H
          replace H : (if x4_1 = true then (if t124 = 0 then (if (!(0 == 0) || (!(0 == 0) || ((a0_2 || (!(a0_3 == 0) || (!(a0_4 == 0) || (!(a0_5 == 0) || (!(a0_6 == 0) || (!(a0_7 == 0))))))) || (!(a0_11 == 0))))) = true then (some 1) else (some 0)) else (some 1)) else (some 1)) = some r := H
          have A40 := YL A400; clear A400
          by_cases c41 : x4_1 = true
          · subst c41
            have H1 : (if t124 = 0 then (if (!(0 == 0) || (!(0 == 0) || ((a0_2 || (!(a0_3 == 0) || (!(a0_4 == 0) || (!(a0_5 == 0) || (!(a0_6 == 0) || (!(a0_7 == 0))))))) || (!(a0_11 == 0))))) = true then (some 1) else (some 0)) else (some 1)) = some r := by rw [if_pos rfl] at H; exact H
            clear H
            have H := H1
            clear H1
            by_cases c42 : t124 = 0
            · rw [if_pos c42] at H
              have c42b0 : (t124 == 0) = true := beq_iff_eq.mpr c42
              have c42b1 : (t124 != 0) = false := bne_eq_false_iff_eq.mpr c42
              clear c42
              by_cases c43 : (!(0 == 0) || (!(0 == 0) || ((a0_2 || (!(a0_3 == 0) || (!(a0_4 == 0) || (!(a0_5 == 0) || (!(a0_6 == 0) || (!(a0_7 == 0))))))) || (!(a0_11 == 0))))) = true
              · rw [if_pos c43] at H
                have c43b0 : (!(0 == 0) || (!(0 == 0) || ((a0_2 || (!(a0_3 == 0) || (!(a0_4 == 0) || (!(a0_5 == 0) || (!(a0_6 == 0) || (!(a0_7 == 0))))))) || (!(a0_11 == 0))))) = true := c43
                have c43b9 := c43b0
                (try simp only [beq_self_eq_true, Bool.not_true, Bool.not_false, Bool.false_or, Bool.true_and, Bool.or_false, Bool.and_true] at c43b9)
                clear c43
                obtain rfl := Option.some.inj H
                have hnb44 := NB116_117.out
                have hnc44 := NB117_116.out
                have hcz45_0 : wc.cell? ⟨gb116, 0, none⟩ = some (.int .i64 a0_0) := (YI BK116.out 0).trans rfl
                have hcz45_1 : wc.cell? ⟨gb116, 1, none⟩ = some (.int .i64 a0_1) := (YI BK116.out 1).trans rfl
                have hcz45_2 : wc.cell? ⟨gb116, 2, none⟩ = some (.bool a0_2) := (YI BK116.out 2).trans rfl
                have hcz45_3 : wc.cell? ⟨gb116, 3, none⟩ = some (.int .i64 a0_3) := (YI BK116.out 3).trans rfl
                have hcz45_4 : wc.cell? ⟨gb116, 4, none⟩ = some (.int .i64 a0_4) := (YI BK116.out 4).trans rfl
                have hcz45_5 : wc.cell? ⟨gb116, 5, none⟩ = some (.int .i64 a0_5) := (YI BK116.out 5).trans rfl
                have hcz45_6 : wc.cell? ⟨gb116, 6, none⟩ = some (.int .i64 a0_6) := (YI BK116.out 6).trans rfl
                have hcz45_7 : wc.cell? ⟨gb116, 7, none⟩ = some (.int .i64 a0_7) := (YI BK116.out 7).trans rfl
                have hcz45_8 : wc.cell? ⟨gb116, 8, none⟩ = some (.int .i64 a0_8) := (YI BK116.out 8).trans rfl
                have hcz45_9 : wc.cell? ⟨gb116, 9, none⟩ = some (.int .i64 a0_9) := (YI BK116.out 9).trans rfl
                have hcz45_10 : wc.cell? ⟨gb116, 10, none⟩ = some (.int .i64 a0_10) := (YI BK116.out 10).trans rfl
                have hcz45_11 : wc.cell? ⟨gb116, 11, none⟩ = some (.int .i64 a0_11) := (YI BK116.out 11).trans rfl
                have hfz45_0 := YJ BK116.out 0
                have hfz45_1 := YJ BK116.out 1
                have hfz45_2 := YJ BK116.out 2
                have hfz45_3 := YJ BK116.out 3
                have hfz45_4 := YJ BK116.out 4
                have hfz45_5 := YJ BK116.out 5
                have hfz45_6 := YJ BK116.out 6
                have hfz45_7 := YJ BK116.out 7
                have hfz45_8 := YJ BK116.out 8
                have hfz45_9 := YJ BK116.out 9
                have hfz45_10 := YJ BK116.out 10
                have hfz45_11 := YJ BK116.out 11
                go_wp2_with (first | ((with_reducible refine gate_callee (f := 45) rfl ?_); refine goesL_ (some 58) rfl rfl Try.func45 (by kernel_rfl) rfl #[.agg #[.int .i64 a0_8, .int .i64 a0_9, .int .i64 a0_10], .int .i64 0, .int .i64 0] rfl (by (try simp only [YM, List.map_cons, List.map_nil]); first | done | rfl | (simp only [YO, YN]; rfl)) ?_; (with_reducible refine (height_At.calls kj1 a0_8 a0_9 a0_10 0 0 t118 t119 t120 t121 t122 t123 t124 _ A40.out).mono ?_); rintro e w46 ⟨rfl, hb⟩; refine ⟨_, rfl, ?_⟩; have n0_ := YL (YK (g := gb116) (o := .cells #[.int .i64 a0_0, .int .i64 a0_1, .bool a0_2, .int .i64 a0_3, .int .i64 a0_4, .int .i64 a0_5, .int .i64 a0_6, .int .i64 a0_7, .int .i64 a0_8, .int .i64 a0_9, .int .i64 a0_10, .int .i64 a0_11] 45 (0, 0)) (by (with_reducible repeat (first | refine YF ?_ _ | refine YG ?_ | refine YH ?_ _)); exact BK116.out) hb); have n1_ := YL (YK (g := gb117) (o := .cells #[.int .i64 0, .int .i64 0, .bool a0_2, .int .i64 a0_3, .int .i64 a0_4, .int .i64 a0_5, .int .i64 a0_6, .int .i64 a0_7, .int .i64 a0_8, .int .i64 a0_9, .int .i64 a0_10, .int .i64 a0_11] 45 (0, 0)) (by (with_reducible repeat (first | refine YF ?_ _ | refine YG ?_ | refine YH ?_ _)); exact BK117.out) hb); have n2_ := YL (YD (by repeat (first | (with_reducible first | exact HB.out | apply YA | apply YB | apply YC | refine below_set ?_ GE116.out | refine below_set ?_ GE117.out) | exact HB.out)) hb); clear BK116; clear BK117; clear HB; have BK116 := n0_; have BK117 := n1_; have HB := n2_; clear n0_ n1_ n2_; (try clear hb); (try clear hb2); (try clear hk); (try clear hi)) | ((with_reducible refine gate_dst (N := 5) rfl ?_); refine box_event ?hg (N := 5) ?hd (cs := #[.bool false, .int .i64 0, .int .i64 0, .int .i64 0, .int .i64 0, .int .i64 0]) (t := 41) ?hr ?_; (case hd => rfl); (case hg => rfl); (case hr => first | (go_simp; done) | (go_simp; rfl)); intro gb125 hg w47 hbox hb; have n0_ := YL (YK (g := gb116) (o := .cells #[.int .i64 a0_0, .int .i64 a0_1, .bool a0_2, .int .i64 a0_3, .int .i64 a0_4, .int .i64 a0_5, .int .i64 a0_6, .int .i64 a0_7, .int .i64 a0_8, .int .i64 a0_9, .int .i64 a0_10, .int .i64 a0_11] 45 (0, 0)) (by (with_reducible repeat (first | refine YF ?_ _ | refine YG ?_ | refine YH ?_ _)); exact BK116.out) hb); have n1_ := YL (YK (g := gb117) (o := .cells #[.int .i64 0, .int .i64 0, .bool a0_2, .int .i64 a0_3, .int .i64 a0_4, .int .i64 a0_5, .int .i64 a0_6, .int .i64 a0_7, .int .i64 a0_8, .int .i64 a0_9, .int .i64 a0_10, .int .i64 a0_11] 45 (0, 0)) (by (with_reducible repeat (first | refine YF ?_ _ | refine YG ?_ | refine YH ?_ _)); exact BK117.out) hb); have n2_ := YL (YD (by repeat (first | (with_reducible first | exact HB.out | apply YA | apply YB | apply YC | refine below_set ?_ GE116.out | refine below_set ?_ GE117.out) | exact HB.out)) hb); have n3_ := YL (hbox); have n4_ := YL ((by rw [hg]; exact (YE (by repeat (first | (with_reducible first | exact HB.out | apply YA | apply YB | apply YC | refine below_set ?_ GE116.out | refine below_set ?_ GE117.out) | exact HB.out))) : w.heap.size ≤ gb125)); have n5_ := YL ((by rw [hg]; exact (YE (by repeat (first | (with_reducible first | exact HB.out | apply YA | apply YB | apply YC | refine below_set ?_ GE116.out | refine below_set ?_ GE117.out) | exact HB.out))) : w.heap.size ≤ gb125)); have n6_ := YL ((by rw [hg]; exact Nat.ne_of_lt (blk_lt (g := gb116) (o := .cells #[.int .i64 a0_0, .int .i64 a0_1, .bool a0_2, .int .i64 a0_3, .int .i64 a0_4, .int .i64 a0_5, .int .i64 a0_6, .int .i64 a0_7, .int .i64 a0_8, .int .i64 a0_9, .int .i64 a0_10, .int .i64 a0_11] 45 (0, 0)) (by (with_reducible repeat (first | refine YF ?_ _ | refine YG ?_ | refine YH ?_ _)); exact BK116.out)) : gb116 ≠ gb125)); have n7_ := YL ((by rw [hg]; exact Nat.ne_of_gt (blk_lt (g := gb116) (o := .cells #[.int .i64 a0_0, .int .i64 a0_1, .bool a0_2, .int .i64 a0_3, .int .i64 a0_4, .int .i64 a0_5, .int .i64 a0_6, .int .i64 a0_7, .int .i64 a0_8, .int .i64 a0_9, .int .i64 a0_10, .int .i64 a0_11] 45 (0, 0)) (by (with_reducible repeat (first | refine YF ?_ _ | refine YG ?_ | refine YH ?_ _)); exact BK116.out)) : gb125 ≠ gb116)); have n8_ := YL ((by rw [hg]; exact Nat.ne_of_lt (blk_lt (g := gb117) (o := .cells #[.int .i64 0, .int .i64 0, .bool a0_2, .int .i64 a0_3, .int .i64 a0_4, .int .i64 a0_5, .int .i64 a0_6, .int .i64 a0_7, .int .i64 a0_8, .int .i64 a0_9, .int .i64 a0_10, .int .i64 a0_11] 45 (0, 0)) (by (with_reducible repeat (first | refine YF ?_ _ | refine YG ?_ | refine YH ?_ _)); exact BK117.out)) : gb117 ≠ gb125)); have n9_ := YL ((by rw [hg]; exact Nat.ne_of_gt (blk_lt (g := gb117) (o := .cells #[.int .i64 0, .int .i64 0, .bool a0_2, .int .i64 a0_3, .int .i64 a0_4, .int .i64 a0_5, .int .i64 a0_6, .int .i64 a0_7, .int .i64 a0_8, .int .i64 a0_9, .int .i64 a0_10, .int .i64 a0_11] 45 (0, 0)) (by (with_reducible repeat (first | refine YF ?_ _ | refine YG ?_ | refine YH ?_ _)); exact BK117.out)) : gb125 ≠ gb117)); clear BK116; clear BK117; clear HB; have BK116 := n0_; have BK117 := n1_; have HB := n2_; have BK125 := n3_; have GW125 := n4_; have GE125 := n5_; have NB116_125 := n6_; have NB125_116 := n7_; have NB117_125 := n8_; have NB125_117 := n9_; clear n0_ n1_ n2_ n3_ n4_ n5_ n6_ n7_ n8_ n9_; clear hb hbox hg; have hnb48 := NB125_116.out; have hnc48 := NB116_125.out; have hnb49 := NB125_117.out; have hnc49 := NB117_125.out; have hcz50_0 : w47.cell? ⟨gb125, 0, none⟩ = some (.bool false) := (YI BK125.out 0).trans rfl; have hcz50_1 : w47.cell? ⟨gb125, 1, none⟩ = some (.int .i64 0) := (YI BK125.out 1).trans rfl; have hcz50_2 : w47.cell? ⟨gb125, 2, none⟩ = some (.int .i64 0) := (YI BK125.out 2).trans rfl; have hcz50_3 : w47.cell? ⟨gb125, 3, none⟩ = some (.int .i64 0) := (YI BK125.out 3).trans rfl; have hcz50_4 : w47.cell? ⟨gb125, 4, none⟩ = some (.int .i64 0) := (YI BK125.out 4).trans rfl; have hcz50_5 : w47.cell? ⟨gb125, 5, none⟩ = some (.int .i64 0) := (YI BK125.out 5).trans rfl; have hfz50_0 := YJ BK125.out 0; have hfz50_1 := YJ BK125.out 1; have hfz50_2 := YJ BK125.out 2; have hfz50_3 := YJ BK125.out 3; have hfz50_4 := YJ BK125.out 4; have hfz50_5 := YJ BK125.out 5; have hcz51_0 : w47.cell? ⟨gb117, 0, none⟩ = some (.int .i64 0) := (YI BK117.out 0).trans rfl; have hcz51_1 : w47.cell? ⟨gb117, 1, none⟩ = some (.int .i64 0) := (YI BK117.out 1).trans rfl; have hcz51_2 : w47.cell? ⟨gb117, 2, none⟩ = some (.bool a0_2) := (YI BK117.out 2).trans rfl; have hcz51_3 : w47.cell? ⟨gb117, 3, none⟩ = some (.int .i64 a0_3) := (YI BK117.out 3).trans rfl; have hcz51_4 : w47.cell? ⟨gb117, 4, none⟩ = some (.int .i64 a0_4) := (YI BK117.out 4).trans rfl; have hcz51_5 : w47.cell? ⟨gb117, 5, none⟩ = some (.int .i64 a0_5) := (YI BK117.out 5).trans rfl; have hcz51_6 : w47.cell? ⟨gb117, 6, none⟩ = some (.int .i64 a0_6) := (YI BK117.out 6).trans rfl; have hcz51_7 : w47.cell? ⟨gb117, 7, none⟩ = some (.int .i64 a0_7) := (YI BK117.out 7).trans rfl; have hcz51_8 : w47.cell? ⟨gb117, 8, none⟩ = some (.int .i64 a0_8) := (YI BK117.out 8).trans rfl; have hcz51_9 : w47.cell? ⟨gb117, 9, none⟩ = some (.int .i64 a0_9) := (YI BK117.out 9).trans rfl; have hcz51_10 : w47.cell? ⟨gb117, 10, none⟩ = some (.int .i64 a0_10) := (YI BK117.out 10).trans rfl; have hcz51_11 : w47.cell? ⟨gb117, 11, none⟩ = some (.int .i64 a0_11) := (YI BK117.out 11).trans rfl; have hfz51_0 := YJ BK117.out 0; have hfz51_1 := YJ BK117.out 1; have hfz51_2 := YJ BK117.out 2; have hfz51_3 := YJ BK117.out 3; have hfz51_4 := YJ BK117.out 4; have hfz51_5 := YJ BK117.out 5; have hfz51_6 := YJ BK117.out 6; have hfz51_7 := YJ BK117.out 7; have hfz51_8 := YJ BK117.out 8; have hfz51_9 := YJ BK117.out 9; have hfz51_10 := YJ BK117.out 10; have hfz51_11 := YJ BK117.out 11))
                go_ret
                exact ⟨by first | rfl | (simp [errW_none, errW_some] <;> rfl) | (simp [*, errW_none, errW_some] <;> rfl), by repeat (first | (with_reducible first | exact HB.out | apply YA | apply YB | apply YC | refine below_set ?_ GE116.out | refine below_set ?_ GE117.out | refine below_set ?_ GE125.out) | exact HB.out)⟩
              rw [if_neg c43] at H
              have c43b0 : (!(0 == 0) || (!(0 == 0) || ((a0_2 || (!(a0_3 == 0) || (!(a0_4 == 0) || (!(a0_5 == 0) || (!(a0_6 == 0) || (!(a0_7 == 0))))))) || (!(a0_11 == 0))))) = false := by simpa using c43
              have c43b9 := c43b0
              (try simp only [beq_self_eq_true, Bool.not_true, Bool.not_false, Bool.false_or, Bool.true_and, Bool.or_false, Bool.and_true] at c43b9)
              clear c43
              obtain rfl := Option.some.inj H
              have hnb52 := NB116_117.out
              have hnc52 := NB117_116.out
              have hcz53_0 : wc.cell? ⟨gb116, 0, none⟩ = some (.int .i64 a0_0) := (YI BK116.out 0).trans rfl
              have hcz53_1 : wc.cell? ⟨gb116, 1, none⟩ = some (.int .i64 a0_1) := (YI BK116.out 1).trans rfl
              have hcz53_2 : wc.cell? ⟨gb116, 2, none⟩ = some (.bool a0_2) := (YI BK116.out 2).trans rfl
              have hcz53_3 : wc.cell? ⟨gb116, 3, none⟩ = some (.int .i64 a0_3) := (YI BK116.out 3).trans rfl
              have hcz53_4 : wc.cell? ⟨gb116, 4, none⟩ = some (.int .i64 a0_4) := (YI BK116.out 4).trans rfl
              have hcz53_5 : wc.cell? ⟨gb116, 5, none⟩ = some (.int .i64 a0_5) := (YI BK116.out 5).trans rfl
              have hcz53_6 : wc.cell? ⟨gb116, 6, none⟩ = some (.int .i64 a0_6) := (YI BK116.out 6).trans rfl
              have hcz53_7 : wc.cell? ⟨gb116, 7, none⟩ = some (.int .i64 a0_7) := (YI BK116.out 7).trans rfl
              have hcz53_8 : wc.cell? ⟨gb116, 8, none⟩ = some (.int .i64 a0_8) := (YI BK116.out 8).trans rfl
              have hcz53_9 : wc.cell? ⟨gb116, 9, none⟩ = some (.int .i64 a0_9) := (YI BK116.out 9).trans rfl
              have hcz53_10 : wc.cell? ⟨gb116, 10, none⟩ = some (.int .i64 a0_10) := (YI BK116.out 10).trans rfl
              have hcz53_11 : wc.cell? ⟨gb116, 11, none⟩ = some (.int .i64 a0_11) := (YI BK116.out 11).trans rfl
              have hfz53_0 := YJ BK116.out 0
              have hfz53_1 := YJ BK116.out 1
              have hfz53_2 := YJ BK116.out 2
              have hfz53_3 := YJ BK116.out 3
              have hfz53_4 := YJ BK116.out 4
              have hfz53_5 := YJ BK116.out 5
              have hfz53_6 := YJ BK116.out 6
              have hfz53_7 := YJ BK116.out 7
              have hfz53_8 := YJ BK116.out 8
              have hfz53_9 := YJ BK116.out 9
              have hfz53_10 := YJ BK116.out 10
              have hfz53_11 := YJ BK116.out 11
              go_wp2_with (first | ((with_reducible refine gate_callee (f := 45) rfl ?_); refine goesL_ (some 58) rfl rfl Try.func45 (by kernel_rfl) rfl #[.agg #[.int .i64 a0_8, .int .i64 a0_9, .int .i64 a0_10], .int .i64 0, .int .i64 0] rfl (by (try simp only [YM, List.map_cons, List.map_nil]); first | done | rfl | (simp only [YO, YN]; rfl)) ?_; (with_reducible refine (height_At.calls kj1 a0_8 a0_9 a0_10 0 0 t118 t119 t120 t121 t122 t123 t124 _ A40.out).mono ?_); rintro e w54 ⟨rfl, hb⟩; refine ⟨_, rfl, ?_⟩; have n0_ := YL (YK (g := gb116) (o := .cells #[.int .i64 a0_0, .int .i64 a0_1, .bool a0_2, .int .i64 a0_3, .int .i64 a0_4, .int .i64 a0_5, .int .i64 a0_6, .int .i64 a0_7, .int .i64 a0_8, .int .i64 a0_9, .int .i64 a0_10, .int .i64 a0_11] 45 (0, 0)) (by (with_reducible repeat (first | refine YF ?_ _ | refine YG ?_ | refine YH ?_ _)); exact BK116.out) hb); have n1_ := YL (YK (g := gb117) (o := .cells #[.int .i64 0, .int .i64 0, .bool a0_2, .int .i64 a0_3, .int .i64 a0_4, .int .i64 a0_5, .int .i64 a0_6, .int .i64 a0_7, .int .i64 a0_8, .int .i64 a0_9, .int .i64 a0_10, .int .i64 a0_11] 45 (0, 0)) (by (with_reducible repeat (first | refine YF ?_ _ | refine YG ?_ | refine YH ?_ _)); exact BK117.out) hb); have n2_ := YL (YD (by repeat (first | (with_reducible first | exact HB.out | apply YA | apply YB | apply YC | refine below_set ?_ GE116.out | refine below_set ?_ GE117.out) | exact HB.out)) hb); clear BK116; clear BK117; clear HB; have BK116 := n0_; have BK117 := n1_; have HB := n2_; clear n0_ n1_ n2_; (try clear hb); (try clear hb2); (try clear hk); (try clear hi)) | ((with_reducible refine gate_dst (N := 5) rfl ?_); refine box_event ?hg (N := 5) ?hd (cs := #[.bool false, .int .i64 0, .int .i64 0, .int .i64 0, .int .i64 0, .int .i64 0]) (t := 41) ?hr ?_; (case hd => rfl); (case hg => rfl); (case hr => first | (go_simp; done) | (go_simp; rfl)); intro gb125 hg w55 hbox hb; have n0_ := YL (YK (g := gb116) (o := .cells #[.int .i64 a0_0, .int .i64 a0_1, .bool a0_2, .int .i64 a0_3, .int .i64 a0_4, .int .i64 a0_5, .int .i64 a0_6, .int .i64 a0_7, .int .i64 a0_8, .int .i64 a0_9, .int .i64 a0_10, .int .i64 a0_11] 45 (0, 0)) (by (with_reducible repeat (first | refine YF ?_ _ | refine YG ?_ | refine YH ?_ _)); exact BK116.out) hb); have n1_ := YL (YK (g := gb117) (o := .cells #[.int .i64 0, .int .i64 0, .bool a0_2, .int .i64 a0_3, .int .i64 a0_4, .int .i64 a0_5, .int .i64 a0_6, .int .i64 a0_7, .int .i64 a0_8, .int .i64 a0_9, .int .i64 a0_10, .int .i64 a0_11] 45 (0, 0)) (by (with_reducible repeat (first | refine YF ?_ _ | refine YG ?_ | refine YH ?_ _)); exact BK117.out) hb); have n2_ := YL (YD (by repeat (first | (with_reducible first | exact HB.out | apply YA | apply YB | apply YC | refine below_set ?_ GE116.out | refine below_set ?_ GE117.out) | exact HB.out)) hb); have n3_ := YL (hbox); have n4_ := YL ((by rw [hg]; exact (YE (by repeat (first | (with_reducible first | exact HB.out | apply YA | apply YB | apply YC | refine below_set ?_ GE116.out | refine below_set ?_ GE117.out) | exact HB.out))) : w.heap.size ≤ gb125)); have n5_ := YL ((by rw [hg]; exact (YE (by repeat (first | (with_reducible first | exact HB.out | apply YA | apply YB | apply YC | refine below_set ?_ GE116.out | refine below_set ?_ GE117.out) | exact HB.out))) : w.heap.size ≤ gb125)); have n6_ := YL ((by rw [hg]; exact Nat.ne_of_lt (blk_lt (g := gb116) (o := .cells #[.int .i64 a0_0, .int .i64 a0_1, .bool a0_2, .int .i64 a0_3, .int .i64 a0_4, .int .i64 a0_5, .int .i64 a0_6, .int .i64 a0_7, .int .i64 a0_8, .int .i64 a0_9, .int .i64 a0_10, .int .i64 a0_11] 45 (0, 0)) (by (with_reducible repeat (first | refine YF ?_ _ | refine YG ?_ | refine YH ?_ _)); exact BK116.out)) : gb116 ≠ gb125)); have n7_ := YL ((by rw [hg]; exact Nat.ne_of_gt (blk_lt (g := gb116) (o := .cells #[.int .i64 a0_0, .int .i64 a0_1, .bool a0_2, .int .i64 a0_3, .int .i64 a0_4, .int .i64 a0_5, .int .i64 a0_6, .int .i64 a0_7, .int .i64 a0_8, .int .i64 a0_9, .int .i64 a0_10, .int .i64 a0_11] 45 (0, 0)) (by (with_reducible repeat (first | refine YF ?_ _ | refine YG ?_ | refine YH ?_ _)); exact BK116.out)) : gb125 ≠ gb116)); have n8_ := YL ((by rw [hg]; exact Nat.ne_of_lt (blk_lt (g := gb117) (o := .cells #[.int .i64 0, .int .i64 0, .bool a0_2, .int .i64 a0_3, .int .i64 a0_4, .int .i64 a0_5, .int .i64 a0_6, .int .i64 a0_7, .int .i64 a0_8, .int .i64 a0_9, .int .i64 a0_10, .int .i64 a0_11] 45 (0, 0)) (by (with_reducible repeat (first | refine YF ?_ _ | refine YG ?_ | refine YH ?_ _)); exact BK117.out)) : gb117 ≠ gb125)); have n9_ := YL ((by rw [hg]; exact Nat.ne_of_gt (blk_lt (g := gb117) (o := .cells #[.int .i64 0, .int .i64 0, .bool a0_2, .int .i64 a0_3, .int .i64 a0_4, .int .i64 a0_5, .int .i64 a0_6, .int .i64 a0_7, .int .i64 a0_8, .int .i64 a0_9, .int .i64 a0_10, .int .i64 a0_11] 45 (0, 0)) (by (with_reducible repeat (first | refine YF ?_ _ | refine YG ?_ | refine YH ?_ _)); exact BK117.out)) : gb125 ≠ gb117)); clear BK116; clear BK117; clear HB; have BK116 := n0_; have BK117 := n1_; have HB := n2_; have BK125 := n3_; have GW125 := n4_; have GE125 := n5_; have NB116_125 := n6_; have NB125_116 := n7_; have NB117_125 := n8_; have NB125_117 := n9_; clear n0_ n1_ n2_ n3_ n4_ n5_ n6_ n7_ n8_ n9_; clear hb hbox hg; have hnb56 := NB125_116.out; have hnc56 := NB116_125.out; have hnb57 := NB125_117.out; have hnc57 := NB117_125.out; have hcz58_0 : w55.cell? ⟨gb125, 0, none⟩ = some (.bool false) := (YI BK125.out 0).trans rfl; have hcz58_1 : w55.cell? ⟨gb125, 1, none⟩ = some (.int .i64 0) := (YI BK125.out 1).trans rfl; have hcz58_2 : w55.cell? ⟨gb125, 2, none⟩ = some (.int .i64 0) := (YI BK125.out 2).trans rfl; have hcz58_3 : w55.cell? ⟨gb125, 3, none⟩ = some (.int .i64 0) := (YI BK125.out 3).trans rfl; have hcz58_4 : w55.cell? ⟨gb125, 4, none⟩ = some (.int .i64 0) := (YI BK125.out 4).trans rfl; have hcz58_5 : w55.cell? ⟨gb125, 5, none⟩ = some (.int .i64 0) := (YI BK125.out 5).trans rfl; have hfz58_0 := YJ BK125.out 0; have hfz58_1 := YJ BK125.out 1; have hfz58_2 := YJ BK125.out 2; have hfz58_3 := YJ BK125.out 3; have hfz58_4 := YJ BK125.out 4; have hfz58_5 := YJ BK125.out 5; have hcz59_0 : w55.cell? ⟨gb117, 0, none⟩ = some (.int .i64 0) := (YI BK117.out 0).trans rfl; have hcz59_1 : w55.cell? ⟨gb117, 1, none⟩ = some (.int .i64 0) := (YI BK117.out 1).trans rfl; have hcz59_2 : w55.cell? ⟨gb117, 2, none⟩ = some (.bool a0_2) := (YI BK117.out 2).trans rfl; have hcz59_3 : w55.cell? ⟨gb117, 3, none⟩ = some (.int .i64 a0_3) := (YI BK117.out 3).trans rfl; have hcz59_4 : w55.cell? ⟨gb117, 4, none⟩ = some (.int .i64 a0_4) := (YI BK117.out 4).trans rfl; have hcz59_5 : w55.cell? ⟨gb117, 5, none⟩ = some (.int .i64 a0_5) := (YI BK117.out 5).trans rfl; have hcz59_6 : w55.cell? ⟨gb117, 6, none⟩ = some (.int .i64 a0_6) := (YI BK117.out 6).trans rfl; have hcz59_7 : w55.cell? ⟨gb117, 7, none⟩ = some (.int .i64 a0_7) := (YI BK117.out 7).trans rfl; have hcz59_8 : w55.cell? ⟨gb117, 8, none⟩ = some (.int .i64 a0_8) := (YI BK117.out 8).trans rfl; have hcz59_9 : w55.cell? ⟨gb117, 9, none⟩ = some (.int .i64 a0_9) := (YI BK117.out 9).trans rfl; have hcz59_10 : w55.cell? ⟨gb117, 10, none⟩ = some (.int .i64 a0_10) := (YI BK117.out 10).trans rfl; have hcz59_11 : w55.cell? ⟨gb117, 11, none⟩ = some (.int .i64 a0_11) := (YI BK117.out 11).trans rfl; have hfz59_0 := YJ BK117.out 0; have hfz59_1 := YJ BK117.out 1; have hfz59_2 := YJ BK117.out 2; have hfz59_3 := YJ BK117.out 3; have hfz59_4 := YJ BK117.out 4; have hfz59_5 := YJ BK117.out 5; have hfz59_6 := YJ BK117.out 6; have hfz59_7 := YJ BK117.out 7; have hfz59_8 := YJ BK117.out 8; have hfz59_9 := YJ BK117.out 9; have hfz59_10 := YJ BK117.out 10; have hfz59_11 := YJ BK117.out 11))
              go_ret
              exact ⟨by first | rfl | (simp [errW_none, errW_some] <;> rfl) | (simp [*, errW_none, errW_some] <;> rfl), by repeat (first | (with_reducible first | exact HB.out | apply YA | apply YB | apply YC | refine below_set ?_ GE116.out | refine below_set ?_ GE117.out | refine below_set ?_ GE125.out) | exact HB.out)⟩
            rw [if_neg c42] at H
            have c42b0 : (t124 == 0) = false := beq_eq_false_iff_ne.mpr c42
            have c42b1 : (t124 != 0) = true := bne_iff_ne.mpr c42
            obtain rfl := Option.some.inj H
            have hnb60 := NB116_117.out
            have hnc60 := NB117_116.out
            have hcz61_0 : wc.cell? ⟨gb116, 0, none⟩ = some (.int .i64 a0_0) := (YI BK116.out 0).trans rfl
            have hcz61_1 : wc.cell? ⟨gb116, 1, none⟩ = some (.int .i64 a0_1) := (YI BK116.out 1).trans rfl
            have hcz61_2 : wc.cell? ⟨gb116, 2, none⟩ = some (.bool a0_2) := (YI BK116.out 2).trans rfl
            have hcz61_3 : wc.cell? ⟨gb116, 3, none⟩ = some (.int .i64 a0_3) := (YI BK116.out 3).trans rfl
            have hcz61_4 : wc.cell? ⟨gb116, 4, none⟩ = some (.int .i64 a0_4) := (YI BK116.out 4).trans rfl
            have hcz61_5 : wc.cell? ⟨gb116, 5, none⟩ = some (.int .i64 a0_5) := (YI BK116.out 5).trans rfl
            have hcz61_6 : wc.cell? ⟨gb116, 6, none⟩ = some (.int .i64 a0_6) := (YI BK116.out 6).trans rfl
            have hcz61_7 : wc.cell? ⟨gb116, 7, none⟩ = some (.int .i64 a0_7) := (YI BK116.out 7).trans rfl
            have hcz61_8 : wc.cell? ⟨gb116, 8, none⟩ = some (.int .i64 a0_8) := (YI BK116.out 8).trans rfl
            have hcz61_9 : wc.cell? ⟨gb116, 9, none⟩ = some (.int .i64 a0_9) := (YI BK116.out 9).trans rfl
            have hcz61_10 : wc.cell? ⟨gb116, 10, none⟩ = some (.int .i64 a0_10) := (YI BK116.out 10).trans rfl
            have hcz61_11 : wc.cell? ⟨gb116, 11, none⟩ = some (.int .i64 a0_11) := (YI BK116.out 11).trans rfl
            have hfz61_0 := YJ BK116.out 0
            have hfz61_1 := YJ BK116.out 1
            have hfz61_2 := YJ BK116.out 2
            have hfz61_3 := YJ BK116.out 3
            have hfz61_4 := YJ BK116.out 4
            have hfz61_5 := YJ BK116.out 5
            have hfz61_6 := YJ BK116.out 6
            have hfz61_7 := YJ BK116.out 7
            have hfz61_8 := YJ BK116.out 8
            have hfz61_9 := YJ BK116.out 9
            have hfz61_10 := YJ BK116.out 10
            have hfz61_11 := YJ BK116.out 11
            go_wp2_with (first | ((with_reducible refine gate_callee (f := 45) rfl ?_); refine goesL_ (some 58) rfl rfl Try.func45 (by kernel_rfl) rfl #[.agg #[.int .i64 a0_8, .int .i64 a0_9, .int .i64 a0_10], .int .i64 0, .int .i64 0] rfl (by (try simp only [YM, List.map_cons, List.map_nil]); first | done | rfl | (simp only [YO, YN]; rfl)) ?_; (with_reducible refine (height_At.calls kj1 a0_8 a0_9 a0_10 0 0 t118 t119 t120 t121 t122 t123 t124 _ A40.out).mono ?_); rintro e w62 ⟨rfl, hb⟩; refine ⟨_, rfl, ?_⟩; have n0_ := YL (YK (g := gb116) (o := .cells #[.int .i64 a0_0, .int .i64 a0_1, .bool a0_2, .int .i64 a0_3, .int .i64 a0_4, .int .i64 a0_5, .int .i64 a0_6, .int .i64 a0_7, .int .i64 a0_8, .int .i64 a0_9, .int .i64 a0_10, .int .i64 a0_11] 45 (0, 0)) (by (with_reducible repeat (first | refine YF ?_ _ | refine YG ?_ | refine YH ?_ _)); exact BK116.out) hb); have n1_ := YL (YK (g := gb117) (o := .cells #[.int .i64 0, .int .i64 0, .bool a0_2, .int .i64 a0_3, .int .i64 a0_4, .int .i64 a0_5, .int .i64 a0_6, .int .i64 a0_7, .int .i64 a0_8, .int .i64 a0_9, .int .i64 a0_10, .int .i64 a0_11] 45 (0, 0)) (by (with_reducible repeat (first | refine YF ?_ _ | refine YG ?_ | refine YH ?_ _)); exact BK117.out) hb); have n2_ := YL (YD (by repeat (first | (with_reducible first | exact HB.out | apply YA | apply YB | apply YC | refine below_set ?_ GE116.out | refine below_set ?_ GE117.out) | exact HB.out)) hb); clear BK116; clear BK117; clear HB; have BK116 := n0_; have BK117 := n1_; have HB := n2_; clear n0_ n1_ n2_; (try clear hb); (try clear hb2); (try clear hk); (try clear hi)) | ((with_reducible refine gate_dst (N := 5) rfl ?_); refine box_event ?hg (N := 5) ?hd (cs := #[.bool false, .int .i64 0, .int .i64 0, .int .i64 0, .int .i64 0, .int .i64 0]) (t := 41) ?hr ?_; (case hd => rfl); (case hg => rfl); (case hr => first | (go_simp; done) | (go_simp; rfl)); intro gb125 hg w63 hbox hb; have n0_ := YL (YK (g := gb116) (o := .cells #[.int .i64 a0_0, .int .i64 a0_1, .bool a0_2, .int .i64 a0_3, .int .i64 a0_4, .int .i64 a0_5, .int .i64 a0_6, .int .i64 a0_7, .int .i64 a0_8, .int .i64 a0_9, .int .i64 a0_10, .int .i64 a0_11] 45 (0, 0)) (by (with_reducible repeat (first | refine YF ?_ _ | refine YG ?_ | refine YH ?_ _)); exact BK116.out) hb); have n1_ := YL (YK (g := gb117) (o := .cells #[.int .i64 0, .int .i64 0, .bool a0_2, .int .i64 a0_3, .int .i64 a0_4, .int .i64 a0_5, .int .i64 a0_6, .int .i64 a0_7, .int .i64 a0_8, .int .i64 a0_9, .int .i64 a0_10, .int .i64 a0_11] 45 (0, 0)) (by (with_reducible repeat (first | refine YF ?_ _ | refine YG ?_ | refine YH ?_ _)); exact BK117.out) hb); have n2_ := YL (YD (by repeat (first | (with_reducible first | exact HB.out | apply YA | apply YB | apply YC | refine below_set ?_ GE116.out | refine below_set ?_ GE117.out) | exact HB.out)) hb); have n3_ := YL (hbox); have n4_ := YL ((by rw [hg]; exact (YE (by repeat (first | (with_reducible first | exact HB.out | apply YA | apply YB | apply YC | refine below_set ?_ GE116.out | refine below_set ?_ GE117.out) | exact HB.out))) : w.heap.size ≤ gb125)); have n5_ := YL ((by rw [hg]; exact (YE (by repeat (first | (with_reducible first | exact HB.out | apply YA | apply YB | apply YC | refine below_set ?_ GE116.out | refine below_set ?_ GE117.out) | exact HB.out))) : w.heap.size ≤ gb125)); have n6_ := YL ((by rw [hg]; exact Nat.ne_of_lt (blk_lt (g := gb116) (o := .cells #[.int .i64 a0_0, .int .i64 a0_1, .bool a0_2, .int .i64 a0_3, .int .i64 a0_4, .int .i64 a0_5, .int .i64 a0_6, .int .i64 a0_7, .int .i64 a0_8, .int .i64 a0_9, .int .i64 a0_10, .int .i64 a0_11] 45 (0, 0)) (by (with_reducible repeat (first | refine YF ?_ _ | refine YG ?_ | refine YH ?_ _)); exact BK116.out)) : gb116 ≠ gb125)); have n7_ := YL ((by rw [hg]; exact Nat.ne_of_gt (blk_lt (g := gb116) (o := .cells #[.int .i64 a0_0, .int .i64 a0_1, .bool a0_2, .int .i64 a0_3, .int .i64 a0_4, .int .i64 a0_5, .int .i64 a0_6, .int .i64 a0_7, .int .i64 a0_8, .int .i64 a0_9, .int .i64 a0_10, .int .i64 a0_11] 45 (0, 0)) (by (with_reducible repeat (first | refine YF ?_ _ | refine YG ?_ | refine YH ?_ _)); exact BK116.out)) : gb125 ≠ gb116)); have n8_ := YL ((by rw [hg]; exact Nat.ne_of_lt (blk_lt (g := gb117) (o := .cells #[.int .i64 0, .int .i64 0, .bool a0_2, .int .i64 a0_3, .int .i64 a0_4, .int .i64 a0_5, .int .i64 a0_6, .int .i64 a0_7, .int .i64 a0_8, .int .i64 a0_9, .int .i64 a0_10, .int .i64 a0_11] 45 (0, 0)) (by (with_reducible repeat (first | refine YF ?_ _ | refine YG ?_ | refine YH ?_ _)); exact BK117.out)) : gb117 ≠ gb125)); have n9_ := YL ((by rw [hg]; exact Nat.ne_of_gt (blk_lt (g := gb117) (o := .cells #[.int .i64 0, .int .i64 0, .bool a0_2, .int .i64 a0_3, .int .i64 a0_4, .int .i64 a0_5, .int .i64 a0_6, .int .i64 a0_7, .int .i64 a0_8, .int .i64 a0_9, .int .i64 a0_10, .int .i64 a0_11] 45 (0, 0)) (by (with_reducible repeat (first | refine YF ?_ _ | refine YG ?_ | refine YH ?_ _)); exact BK117.out)) : gb125 ≠ gb117)); clear BK116; clear BK117; clear HB; have BK116 := n0_; have BK117 := n1_; have HB := n2_; have BK125 := n3_; have GW125 := n4_; have GE125 := n5_; have NB116_125 := n6_; have NB125_116 := n7_; have NB117_125 := n8_; have NB125_117 := n9_; clear n0_ n1_ n2_ n3_ n4_ n5_ n6_ n7_ n8_ n9_; clear hb hbox hg; have hnb64 := NB125_116.out; have hnc64 := NB116_125.out; have hnb65 := NB125_117.out; have hnc65 := NB117_125.out; have hcz66_0 : w63.cell? ⟨gb125, 0, none⟩ = some (.bool false) := (YI BK125.out 0).trans rfl; have hcz66_1 : w63.cell? ⟨gb125, 1, none⟩ = some (.int .i64 0) := (YI BK125.out 1).trans rfl; have hcz66_2 : w63.cell? ⟨gb125, 2, none⟩ = some (.int .i64 0) := (YI BK125.out 2).trans rfl; have hcz66_3 : w63.cell? ⟨gb125, 3, none⟩ = some (.int .i64 0) := (YI BK125.out 3).trans rfl; have hcz66_4 : w63.cell? ⟨gb125, 4, none⟩ = some (.int .i64 0) := (YI BK125.out 4).trans rfl; have hcz66_5 : w63.cell? ⟨gb125, 5, none⟩ = some (.int .i64 0) := (YI BK125.out 5).trans rfl; have hfz66_0 := YJ BK125.out 0; have hfz66_1 := YJ BK125.out 1; have hfz66_2 := YJ BK125.out 2; have hfz66_3 := YJ BK125.out 3; have hfz66_4 := YJ BK125.out 4; have hfz66_5 := YJ BK125.out 5; have hcz67_0 : w63.cell? ⟨gb117, 0, none⟩ = some (.int .i64 0) := (YI BK117.out 0).trans rfl; have hcz67_1 : w63.cell? ⟨gb117, 1, none⟩ = some (.int .i64 0) := (YI BK117.out 1).trans rfl; have hcz67_2 : w63.cell? ⟨gb117, 2, none⟩ = some (.bool a0_2) := (YI BK117.out 2).trans rfl; have hcz67_3 : w63.cell? ⟨gb117, 3, none⟩ = some (.int .i64 a0_3) := (YI BK117.out 3).trans rfl; have hcz67_4 : w63.cell? ⟨gb117, 4, none⟩ = some (.int .i64 a0_4) := (YI BK117.out 4).trans rfl; have hcz67_5 : w63.cell? ⟨gb117, 5, none⟩ = some (.int .i64 a0_5) := (YI BK117.out 5).trans rfl; have hcz67_6 : w63.cell? ⟨gb117, 6, none⟩ = some (.int .i64 a0_6) := (YI BK117.out 6).trans rfl; have hcz67_7 : w63.cell? ⟨gb117, 7, none⟩ = some (.int .i64 a0_7) := (YI BK117.out 7).trans rfl; have hcz67_8 : w63.cell? ⟨gb117, 8, none⟩ = some (.int .i64 a0_8) := (YI BK117.out 8).trans rfl; have hcz67_9 : w63.cell? ⟨gb117, 9, none⟩ = some (.int .i64 a0_9) := (YI BK117.out 9).trans rfl; have hcz67_10 : w63.cell? ⟨gb117, 10, none⟩ = some (.int .i64 a0_10) := (YI BK117.out 10).trans rfl; have hcz67_11 : w63.cell? ⟨gb117, 11, none⟩ = some (.int .i64 a0_11) := (YI BK117.out 11).trans rfl; have hfz67_0 := YJ BK117.out 0; have hfz67_1 := YJ BK117.out 1; have hfz67_2 := YJ BK117.out 2; have hfz67_3 := YJ BK117.out 3; have hfz67_4 := YJ BK117.out 4; have hfz67_5 := YJ BK117.out 5; have hfz67_6 := YJ BK117.out 6; have hfz67_7 := YJ BK117.out 7; have hfz67_8 := YJ BK117.out 8; have hfz67_9 := YJ BK117.out 9; have hfz67_10 := YJ BK117.out 10; have hfz67_11 := YJ BK117.out 11))
            go_ret
            exact ⟨by first | rfl | (simp [errW_none, errW_some] <;> rfl) | (simp [*, errW_none, errW_some] <;> rfl), by repeat (first | (with_reducible first | exact HB.out | apply YA | apply YB | apply YC | refine below_set ?_ GE116.out | refine below_set ?_ GE117.out | refine below_set ?_ GE125.out) | exact HB.out)⟩
          replace c41 := Bool.eq_false_iff.mpr c41
          subst c41
          have H1 : (some 1) = some r := by rw [if_neg (show ¬ (false = true) by decide)] at H; exact H
          clear H
          have H := H1
          clear H1
          obtain rfl := Option.some.inj H
          have hnb68 := NB116_117.out
          have hnc68 := NB117_116.out
          have hcz69_0 : wc.cell? ⟨gb116, 0, none⟩ = some (.int .i64 a0_0) := (YI BK116.out 0).trans rfl
          have hcz69_1 : wc.cell? ⟨gb116, 1, none⟩ = some (.int .i64 a0_1) := (YI BK116.out 1).trans rfl
          have hcz69_2 : wc.cell? ⟨gb116, 2, none⟩ = some (.bool a0_2) := (YI BK116.out 2).trans rfl
          have hcz69_3 : wc.cell? ⟨gb116, 3, none⟩ = some (.int .i64 a0_3) := (YI BK116.out 3).trans rfl
          have hcz69_4 : wc.cell? ⟨gb116, 4, none⟩ = some (.int .i64 a0_4) := (YI BK116.out 4).trans rfl
          have hcz69_5 : wc.cell? ⟨gb116, 5, none⟩ = some (.int .i64 a0_5) := (YI BK116.out 5).trans rfl
          have hcz69_6 : wc.cell? ⟨gb116, 6, none⟩ = some (.int .i64 a0_6) := (YI BK116.out 6).trans rfl
          have hcz69_7 : wc.cell? ⟨gb116, 7, none⟩ = some (.int .i64 a0_7) := (YI BK116.out 7).trans rfl
          have hcz69_8 : wc.cell? ⟨gb116, 8, none⟩ = some (.int .i64 a0_8) := (YI BK116.out 8).trans rfl
          have hcz69_9 : wc.cell? ⟨gb116, 9, none⟩ = some (.int .i64 a0_9) := (YI BK116.out 9).trans rfl
          have hcz69_10 : wc.cell? ⟨gb116, 10, none⟩ = some (.int .i64 a0_10) := (YI BK116.out 10).trans rfl
          have hcz69_11 : wc.cell? ⟨gb116, 11, none⟩ = some (.int .i64 a0_11) := (YI BK116.out 11).trans rfl
          have hfz69_0 := YJ BK116.out 0
          have hfz69_1 := YJ BK116.out 1
          have hfz69_2 := YJ BK116.out 2
          have hfz69_3 := YJ BK116.out 3
          have hfz69_4 := YJ BK116.out 4
          have hfz69_5 := YJ BK116.out 5
          have hfz69_6 := YJ BK116.out 6
          have hfz69_7 := YJ BK116.out 7
          have hfz69_8 := YJ BK116.out 8
          have hfz69_9 := YJ BK116.out 9
          have hfz69_10 := YJ BK116.out 10
          have hfz69_11 := YJ BK116.out 11
          go_wp2_with (first | ((with_reducible refine gate_callee (f := 45) rfl ?_); refine goesL_ (some 58) rfl rfl Try.func45 (by kernel_rfl) rfl #[.agg #[.int .i64 a0_8, .int .i64 a0_9, .int .i64 a0_10], .int .i64 0, .int .i64 0] rfl (by (try simp only [YM, List.map_cons, List.map_nil]); first | done | rfl | (simp only [YO, YN]; rfl)) ?_; (with_reducible refine (height_At.calls kj1 a0_8 a0_9 a0_10 0 0 t118 t119 t120 t121 t122 t123 t124 _ A40.out).mono ?_); rintro e w70 ⟨rfl, hb⟩; refine ⟨_, rfl, ?_⟩; have n0_ := YL (YK (g := gb116) (o := .cells #[.int .i64 a0_0, .int .i64 a0_1, .bool a0_2, .int .i64 a0_3, .int .i64 a0_4, .int .i64 a0_5, .int .i64 a0_6, .int .i64 a0_7, .int .i64 a0_8, .int .i64 a0_9, .int .i64 a0_10, .int .i64 a0_11] 45 (0, 0)) (by (with_reducible repeat (first | refine YF ?_ _ | refine YG ?_ | refine YH ?_ _)); exact BK116.out) hb); have n1_ := YL (YK (g := gb117) (o := .cells #[.int .i64 0, .int .i64 0, .bool a0_2, .int .i64 a0_3, .int .i64 a0_4, .int .i64 a0_5, .int .i64 a0_6, .int .i64 a0_7, .int .i64 a0_8, .int .i64 a0_9, .int .i64 a0_10, .int .i64 a0_11] 45 (0, 0)) (by (with_reducible repeat (first | refine YF ?_ _ | refine YG ?_ | refine YH ?_ _)); exact BK117.out) hb); have n2_ := YL (YD (by repeat (first | (with_reducible first | exact HB.out | apply YA | apply YB | apply YC | refine below_set ?_ GE116.out | refine below_set ?_ GE117.out) | exact HB.out)) hb); clear BK116; clear BK117; clear HB; have BK116 := n0_; have BK117 := n1_; have HB := n2_; clear n0_ n1_ n2_; (try clear hb); (try clear hb2); (try clear hk); (try clear hi)) | ((with_reducible refine gate_dst (N := 5) rfl ?_); refine box_event ?hg (N := 5) ?hd (cs := #[.bool false, .int .i64 0, .int .i64 0, .int .i64 0, .int .i64 0, .int .i64 0]) (t := 41) ?hr ?_; (case hd => rfl); (case hg => rfl); (case hr => first | (go_simp; done) | (go_simp; rfl)); intro gb125 hg w71 hbox hb; have n0_ := YL (YK (g := gb116) (o := .cells #[.int .i64 a0_0, .int .i64 a0_1, .bool a0_2, .int .i64 a0_3, .int .i64 a0_4, .int .i64 a0_5, .int .i64 a0_6, .int .i64 a0_7, .int .i64 a0_8, .int .i64 a0_9, .int .i64 a0_10, .int .i64 a0_11] 45 (0, 0)) (by (with_reducible repeat (first | refine YF ?_ _ | refine YG ?_ | refine YH ?_ _)); exact BK116.out) hb); have n1_ := YL (YK (g := gb117) (o := .cells #[.int .i64 0, .int .i64 0, .bool a0_2, .int .i64 a0_3, .int .i64 a0_4, .int .i64 a0_5, .int .i64 a0_6, .int .i64 a0_7, .int .i64 a0_8, .int .i64 a0_9, .int .i64 a0_10, .int .i64 a0_11] 45 (0, 0)) (by (with_reducible repeat (first | refine YF ?_ _ | refine YG ?_ | refine YH ?_ _)); exact BK117.out) hb); have n2_ := YL (YD (by repeat (first | (with_reducible first | exact HB.out | apply YA | apply YB | apply YC | refine below_set ?_ GE116.out | refine below_set ?_ GE117.out) | exact HB.out)) hb); have n3_ := YL (hbox); have n4_ := YL ((by rw [hg]; exact (YE (by repeat (first | (with_reducible first | exact HB.out | apply YA | apply YB | apply YC | refine below_set ?_ GE116.out | refine below_set ?_ GE117.out) | exact HB.out))) : w.heap.size ≤ gb125)); have n5_ := YL ((by rw [hg]; exact (YE (by repeat (first | (with_reducible first | exact HB.out | apply YA | apply YB | apply YC | refine below_set ?_ GE116.out | refine below_set ?_ GE117.out) | exact HB.out))) : w.heap.size ≤ gb125)); have n6_ := YL ((by rw [hg]; exact Nat.ne_of_lt (blk_lt (g := gb116) (o := .cells #[.int .i64 a0_0, .int .i64 a0_1, .bool a0_2, .int .i64 a0_3, .int .i64 a0_4, .int .i64 a0_5, .int .i64 a0_6, .int .i64 a0_7, .int .i64 a0_8, .int .i64 a0_9, .int .i64 a0_10, .int .i64 a0_11] 45 (0, 0)) (by (with_reducible repeat (first | refine YF ?_ _ | refine YG ?_ | refine YH ?_ _)); exact BK116.out)) : gb116 ≠ gb125)); have n7_ := YL ((by rw [hg]; exact Nat.ne_of_gt (blk_lt (g := gb116) (o := .cells #[.int .i64 a0_0, .int .i64 a0_1, .bool a0_2, .int .i64 a0_3, .int .i64 a0_4, .int .i64 a0_5, .int .i64 a0_6, .int .i64 a0_7, .int .i64 a0_8, .int .i64 a0_9, .int .i64 a0_10, .int .i64 a0_11] 45 (0, 0)) (by (with_reducible repeat (first | refine YF ?_ _ | refine YG ?_ | refine YH ?_ _)); exact BK116.out)) : gb125 ≠ gb116)); have n8_ := YL ((by rw [hg]; exact Nat.ne_of_lt (blk_lt (g := gb117) (o := .cells #[.int .i64 0, .int .i64 0, .bool a0_2, .int .i64 a0_3, .int .i64 a0_4, .int .i64 a0_5, .int .i64 a0_6, .int .i64 a0_7, .int .i64 a0_8, .int .i64 a0_9, .int .i64 a0_10, .int .i64 a0_11] 45 (0, 0)) (by (with_reducible repeat (first | refine YF ?_ _ | refine YG ?_ | refine YH ?_ _)); exact BK117.out)) : gb117 ≠ gb125)); have n9_ := YL ((by rw [hg]; exact Nat.ne_of_gt (blk_lt (g := gb117) (o := .cells #[.int .i64 0, .int .i64 0, .bool a0_2, .int .i64 a0_3, .int .i64 a0_4, .int .i64 a0_5, .int .i64 a0_6, .int .i64 a0_7, .int .i64 a0_8, .int .i64 a0_9, .int .i64 a0_10, .int .i64 a0_11] 45 (0, 0)) (by (with_reducible repeat (first | refine YF ?_ _ | refine YG ?_ | refine YH ?_ _)); exact BK117.out)) : gb125 ≠ gb117)); clear BK116; clear BK117; clear HB; have BK116 := n0_; have BK117 := n1_; have HB := n2_; have BK125 := n3_; have GW125 := n4_; have GE125 := n5_; have NB116_125 := n6_; have NB125_116 := n7_; have NB117_125 := n8_; have NB125_117 := n9_; clear n0_ n1_ n2_ n3_ n4_ n5_ n6_ n7_ n8_ n9_; clear hb hbox hg; have hnb72 := NB125_116.out; have hnc72 := NB116_125.out; have hnb73 := NB125_117.out; have hnc73 := NB117_125.out; have hcz74_0 : w71.cell? ⟨gb125, 0, none⟩ = some (.bool false) := (YI BK125.out 0).trans rfl; have hcz74_1 : w71.cell? ⟨gb125, 1, none⟩ = some (.int .i64 0) := (YI BK125.out 1).trans rfl; have hcz74_2 : w71.cell? ⟨gb125, 2, none⟩ = some (.int .i64 0) := (YI BK125.out 2).trans rfl; have hcz74_3 : w71.cell? ⟨gb125, 3, none⟩ = some (.int .i64 0) := (YI BK125.out 3).trans rfl; have hcz74_4 : w71.cell? ⟨gb125, 4, none⟩ = some (.int .i64 0) := (YI BK125.out 4).trans rfl; have hcz74_5 : w71.cell? ⟨gb125, 5, none⟩ = some (.int .i64 0) := (YI BK125.out 5).trans rfl; have hfz74_0 := YJ BK125.out 0; have hfz74_1 := YJ BK125.out 1; have hfz74_2 := YJ BK125.out 2; have hfz74_3 := YJ BK125.out 3; have hfz74_4 := YJ BK125.out 4; have hfz74_5 := YJ BK125.out 5; have hcz75_0 : w71.cell? ⟨gb117, 0, none⟩ = some (.int .i64 0) := (YI BK117.out 0).trans rfl; have hcz75_1 : w71.cell? ⟨gb117, 1, none⟩ = some (.int .i64 0) := (YI BK117.out 1).trans rfl; have hcz75_2 : w71.cell? ⟨gb117, 2, none⟩ = some (.bool a0_2) := (YI BK117.out 2).trans rfl; have hcz75_3 : w71.cell? ⟨gb117, 3, none⟩ = some (.int .i64 a0_3) := (YI BK117.out 3).trans rfl; have hcz75_4 : w71.cell? ⟨gb117, 4, none⟩ = some (.int .i64 a0_4) := (YI BK117.out 4).trans rfl; have hcz75_5 : w71.cell? ⟨gb117, 5, none⟩ = some (.int .i64 a0_5) := (YI BK117.out 5).trans rfl; have hcz75_6 : w71.cell? ⟨gb117, 6, none⟩ = some (.int .i64 a0_6) := (YI BK117.out 6).trans rfl; have hcz75_7 : w71.cell? ⟨gb117, 7, none⟩ = some (.int .i64 a0_7) := (YI BK117.out 7).trans rfl; have hcz75_8 : w71.cell? ⟨gb117, 8, none⟩ = some (.int .i64 a0_8) := (YI BK117.out 8).trans rfl; have hcz75_9 : w71.cell? ⟨gb117, 9, none⟩ = some (.int .i64 a0_9) := (YI BK117.out 9).trans rfl; have hcz75_10 : w71.cell? ⟨gb117, 10, none⟩ = some (.int .i64 a0_10) := (YI BK117.out 10).trans rfl; have hcz75_11 : w71.cell? ⟨gb117, 11, none⟩ = some (.int .i64 a0_11) := (YI BK117.out 11).trans rfl; have hfz75_0 := YJ BK117.out 0; have hfz75_1 := YJ BK117.out 1; have hfz75_2 := YJ BK117.out 2; have hfz75_3 := YJ BK117.out 3; have hfz75_4 := YJ BK117.out 4; have hfz75_5 := YJ BK117.out 5; have hfz75_6 := YJ BK117.out 6; have hfz75_7 := YJ BK117.out 7; have hfz75_8 := YJ BK117.out 8; have hfz75_9 := YJ BK117.out 9; have hfz75_10 := YJ BK117.out 10; have hfz75_11 := YJ BK117.out 11))
          go_ret
          exact ⟨by first | rfl | (simp [errW_none, errW_some] <;> rfl) | (simp [*, errW_none, errW_some] <;> rfl), by repeat (first | (with_reducible first | exact HB.out | apply YA | apply YB | apply YC | refine below_set ?_ GE116.out | refine below_set ?_ GE117.out | refine below_set ?_ GE125.out) | exact HB.out)⟩
        rw [if_neg c39] at H
        have c39b0 : (a0_0 == 3) = false := beq_eq_false_iff_ne.mpr c39
        have c39b1 : (a0_0 != 3) = true := bne_iff_ne.mpr c39
        obtain rfl := Option.some.inj H
        go_wp2
        go_ret
        exact ⟨by first | rfl | (simp [errW_none, errW_some] <;> rfl) | (simp [*, errW_none, errW_some] <;> rfl), by repeat (first | (with_reducible first | exact HB.out | apply YA | apply YB | apply YC | refine below_set ?_ GE116.out | refine below_set ?_ GE117.out) | exact HB.out)⟩
      case rest =>
        clear HC13
        try clear c1
        try clear c2
        try clear p2
        try clear c3
        try clear c4
        try clear c5
        try clear c6
        try clear c7
        try clear c14
        try clear c16
        try clear c16b0
        try clear c16b1
        try clear c17
        try clear c18
        try clear c18b0
        try clear c19
        try clear c21
        try clear c23
        try clear c23b0
        try clear c23b1
        try clear c24
        try clear c25
        try clear c26
        try clear c29
        try clear c29b0
        try clear c30
        try clear c33
        try clear c36
        try clear c38
        try clear c38b0
        try clear c38b1
        try clear c39
        try clear c39b0
        try clear c39b1
        try clear c41
        try clear c42
        try clear c42b0
        try clear c42b1
        try clear c43
        try clear c43b0
        try clear c44
        try clear c45
        try clear c48
        try clear c49
        try clear c52
        try clear c56
        try clear c57
        try clear c60
        try clear c64
        try clear c65
        try clear c68
        try clear c72
        try clear c73
        try clear hcz15_0
        try clear hcz15_1
        try clear hcz15_10
        try clear hcz15_11
        try clear hcz15_2
        try clear hcz15_3
        try clear hcz15_4
        try clear hcz15_5
        try clear hcz15_6
        try clear hcz15_7
        try clear hcz15_8
        try clear hcz15_9
        try clear hcz20_0
        try clear hcz20_1
        try clear hcz20_10
        try clear hcz20_11
        try clear hcz20_2
        try clear hcz20_3
        try clear hcz20_4
        try clear hcz20_5
        try clear hcz20_6
        try clear hcz20_7
        try clear hcz20_8
        try clear hcz20_9
        try clear hcz22_0
        try clear hcz22_1
        try clear hcz22_10
        try clear hcz22_11
        try clear hcz22_2
        try clear hcz22_3
        try clear hcz22_4
        try clear hcz22_5
        try clear hcz22_6
        try clear hcz22_7
        try clear hcz22_8
        try clear hcz22_9
        try clear hcz27_0
        try clear hcz27_1
        try clear hcz27_10
        try clear hcz27_11
        try clear hcz27_2
        try clear hcz27_3
        try clear hcz27_4
        try clear hcz27_5
        try clear hcz27_6
        try clear hcz27_7
        try clear hcz27_8
        try clear hcz27_9
        try clear hcz28_0
        try clear hcz28_1
        try clear hcz28_10
        try clear hcz28_11
        try clear hcz28_2
        try clear hcz28_3
        try clear hcz28_4
        try clear hcz28_5
        try clear hcz28_6
        try clear hcz28_7
        try clear hcz28_8
        try clear hcz28_9
        try clear hcz31_0
        try clear hcz31_1
        try clear hcz31_10
        try clear hcz31_11
        try clear hcz31_2
        try clear hcz31_3
        try clear hcz31_4
        try clear hcz31_5
        try clear hcz31_6
        try clear hcz31_7
        try clear hcz31_8
        try clear hcz31_9
        try clear hcz32_0
        try clear hcz32_1
        try clear hcz32_10
        try clear hcz32_11
        try clear hcz32_2
        try clear hcz32_3
        try clear hcz32_4
        try clear hcz32_5
        try clear hcz32_6
        try clear hcz32_7
        try clear hcz32_8
        try clear hcz32_9
        try clear hcz34_0
        try clear hcz34_1
        try clear hcz34_10
        try clear hcz34_11
        try clear hcz34_2
        try clear hcz34_3
        try clear hcz34_4
        try clear hcz34_5
        try clear hcz34_6
        try clear hcz34_7
        try clear hcz34_8
        try clear hcz34_9
        try clear hcz35_0
        try clear hcz35_1
        try clear hcz35_10
        try clear hcz35_11
        try clear hcz35_2
        try clear hcz35_3
        try clear hcz35_4
        try clear hcz35_5
        try clear hcz35_6
        try clear hcz35_7
        try clear hcz35_8
        try clear hcz35_9
        try clear hcz37_0
        try clear hcz37_1
        try clear hcz37_10
        try clear hcz37_11
        try clear hcz37_2
        try clear hcz37_3
        try clear hcz37_4
        try clear hcz37_5
        try clear hcz37_6
        try clear hcz37_7
        try clear hcz37_8
        try clear hcz37_9
        try clear hcz45_0
        try clear hcz45_1
        try clear hcz45_10
        try clear hcz45_11
        try clear hcz45_2
        try clear hcz45_3
        try clear hcz45_4
        try clear hcz45_5
        try clear hcz45_6
        try clear hcz45_7
        try clear hcz45_8
        try clear hcz45_9
        try clear hcz50_0
        try clear hcz50_1
        try clear hcz50_2
        try clear hcz50_3
        try clear hcz50_4
        try clear hcz50_5
        try clear hcz51_0
        try clear hcz51_1
        try clear hcz51_10
        try clear hcz51_11
        try clear hcz51_2
        try clear hcz51_3
        try clear hcz51_4
        try clear hcz51_5
        try clear hcz51_6
        try clear hcz51_7
        try clear hcz51_8
        try clear hcz51_9
        try clear hcz53_0
        try clear hcz53_1
        try clear hcz53_10
        try clear hcz53_11
        try clear hcz53_2
        try clear hcz53_3
        try clear hcz53_4
        try clear hcz53_5
        try clear hcz53_6
        try clear hcz53_7
        try clear hcz53_8
        try clear hcz53_9
        try clear hcz58_0
        try clear hcz58_1
        try clear hcz58_2
        try clear hcz58_3
        try clear hcz58_4
        try clear hcz58_5
        try clear hcz59_0
        try clear hcz59_1
        try clear hcz59_10
        try clear hcz59_11
        try clear hcz59_2
        try clear hcz59_3
        try clear hcz59_4
        try clear hcz59_5
        try clear hcz59_6
        try clear hcz59_7
        try clear hcz59_8
        try clear hcz59_9
        try clear hcz61_0
        try clear hcz61_1
        try clear hcz61_10
        try clear hcz61_11
        try clear hcz61_2
        try clear hcz61_3
        try clear hcz61_4
        try clear hcz61_5
        try clear hcz61_6
        try clear hcz61_7
        try clear hcz61_8
        try clear hcz61_9
        try clear hcz66_0
        try clear hcz66_1
        try clear hcz66_2
        try clear hcz66_3
        try clear hcz66_4
        try clear hcz66_5
        try clear hcz67_0
        try clear hcz67_1
        try clear hcz67_10
        try clear hcz67_11
        try clear hcz67_2
        try clear hcz67_3
        try clear hcz67_4
        try clear hcz67_5
        try clear hcz67_6
        try clear hcz67_7
        try clear hcz67_8
        try clear hcz67_9
        try clear hcz69_0
        try clear hcz69_1
        try clear hcz69_10
        try clear hcz69_11
        try clear hcz69_2
        try clear hcz69_3
        try clear hcz69_4
        try clear hcz69_5
        try clear hcz69_6
        try clear hcz69_7
        try clear hcz69_8
        try clear hcz69_9
        try clear hcz74_0
        try clear hcz74_1
        try clear hcz74_2
        try clear hcz74_3
        try clear hcz74_4
        try clear hcz74_5
        try clear hcz75_0
        try clear hcz75_1
        try clear hcz75_10
        try clear hcz75_11
        try clear hcz75_2
        try clear hcz75_3
        try clear hcz75_4
        try clear hcz75_5
        try clear hcz75_6
        try clear hcz75_7
        try clear hcz75_8
        try clear hcz75_9
        try clear hcz7_5
        try clear hcz7_6
        try clear hcz7_7
        try clear hcz7_8
        try clear hcz7_9
        try clear hfz10_0
        try clear hfz10_1
        try clear hfz10_10
        try clear hfz10_11
        try clear hfz10_2
        try clear hfz10_3
        try clear hfz10_4
        try clear hfz10_5
        try clear hfz10_6
        try clear hfz10_7
        try clear hfz10_8
        try clear hfz10_9
        try clear hfz12_0
        try clear hfz12_1
        try clear hfz12_10
        try clear hfz12_11
        try clear hfz12_2
        try clear hfz12_3
        try clear hfz12_4
        try clear hfz12_5
        try clear hfz12_6
        try clear hfz12_7
        try clear hfz12_8
        try clear hfz12_9
        try clear hfz15_0
        try clear hfz15_1
        try clear hfz15_10
        try clear hfz15_11
        try clear hfz15_2
        try clear hfz15_3
        try clear hfz15_4
        try clear hfz15_5
        try clear hfz15_6
        try clear hfz15_7
        try clear hfz15_8
        try clear hfz15_9
        try clear hfz20_0
        try clear hfz20_1
        try clear hfz20_10
        try clear hfz20_11
        try clear hfz20_2
        try clear hfz20_3
        try clear hfz20_4
        try clear hfz20_5
        try clear hfz20_6
        try clear hfz20_7
        try clear hfz20_8
        try clear hfz20_9
        try clear hfz22_0
        try clear hfz22_1
        try clear hfz22_10
        try clear hfz22_11
        try clear hfz22_2
        try clear hfz22_3
        try clear hfz22_4
        try clear hfz22_5
        try clear hfz22_6
        try clear hfz22_7
        try clear hfz22_8
        try clear hfz22_9
        try clear hfz27_0
        try clear hfz27_1
        try clear hfz27_10
        try clear hfz27_11
        try clear hfz27_2
        try clear hfz27_3
        try clear hfz27_4
        try clear hfz27_5
        try clear hfz27_6
        try clear hfz27_7
        try clear hfz27_8
        try clear hfz27_9
        try clear hfz28_0
        try clear hfz28_1
        try clear hfz28_10
        try clear hfz28_11
        try clear hfz28_2
        try clear hfz28_3
        try clear hfz28_4
        try clear hfz28_5
        try clear hfz28_6
        try clear hfz28_7
        try clear hfz28_8
        try clear hfz28_9
        try clear hfz31_0
        try clear hfz31_1
        try clear hfz31_10
        try clear hfz31_11
        try clear hfz31_2
        try clear hfz31_3
        try clear hfz31_4
        try clear hfz31_5
        try clear hfz31_6
        try clear hfz31_7
        try clear hfz31_8
        try clear hfz31_9
        try clear hfz32_0
        try clear hfz32_1
        try clear hfz32_10
        try clear hfz32_11
        try clear hfz32_2
        try clear hfz32_3
        try clear hfz32_4
        try clear hfz32_5
        try clear hfz32_6
        try clear hfz32_7
        try clear hfz32_8
        try clear hfz32_9
        try clear hfz34_0
        try clear hfz34_1
        try clear hfz34_10
        try clear hfz34_11
        try clear hfz34_2
        try clear hfz34_3
        try clear hfz34_4
        try clear hfz34_5
        try clear hfz34_6
        try clear hfz34_7
        try clear hfz34_8
        try clear hfz34_9
        try clear hfz35_0
        try clear hfz35_1
        try clear hfz35_10
        try clear hfz35_11
        try clear hfz35_2
        try clear hfz35_3
        try clear hfz35_4
        try clear hfz35_5
        try clear hfz35_6
        try clear hfz35_7
        try clear hfz35_8
        try clear hfz35_9
        try clear hfz37_0
        try clear hfz37_1
        try clear hfz37_10
        try clear hfz37_11
        try clear hfz37_2
        try clear hfz37_3
        try clear hfz37_4
        try clear hfz37_5
        try clear hfz37_6
        try clear hfz37_7
        try clear hfz37_8
        try clear hfz37_9
        try clear hfz45_0
        try clear hfz45_1
        try clear hfz45_10
        try clear hfz45_11
        try clear hfz45_2
        try clear hfz45_3
        try clear hfz45_4
        try clear hfz45_5
        try clear hfz45_6
        try clear hfz45_7
        try clear hfz45_8
        try clear hfz45_9
        try clear hfz4_0
        try clear hfz4_1
        try clear hfz4_10
        try clear hfz4_11
        try clear hfz4_2
        try clear hfz4_3
        try clear hfz4_4
        try clear hfz4_5
        try clear hfz4_6
        try clear hfz4_7
        try clear hfz4_8
        try clear hfz4_9
        try clear hfz50_0
        try clear hfz50_1
        try clear hfz50_2
        try clear hfz50_3
        try clear hfz50_4
        try clear hfz50_5
        try clear hfz51_0
        try clear hfz51_1
        try clear hfz51_10
        try clear hfz51_11
        try clear hfz51_2
        try clear hfz51_3
        try clear hfz51_4
        try clear hfz51_5
        try clear hfz51_6
        try clear hfz51_7
        try clear hfz51_8
        try clear hfz51_9
        try clear hfz53_0
        try clear hfz53_1
        try clear hfz53_10
        try clear hfz53_11
        try clear hfz53_2
        try clear hfz53_3
        try clear hfz53_4
        try clear hfz53_5
        try clear hfz53_6
        try clear hfz53_7
        try clear hfz53_8
        try clear hfz53_9
        try clear hfz58_0
        try clear hfz58_1
        try clear hfz58_2
        try clear hfz58_3
        try clear hfz58_4
        try clear hfz58_5
        try clear hfz59_0
        try clear hfz59_1
        try clear hfz59_10
        try clear hfz59_11
        try clear hfz59_2
        try clear hfz59_3
        try clear hfz59_4
        try clear hfz59_5
        try clear hfz59_6
        try clear hfz59_7
        try clear hfz59_8
        try clear hfz59_9
        try clear hfz61_0
        try clear hfz61_1
        try clear hfz61_10
        try clear hfz61_11
        try clear hfz61_2
        try clear hfz61_3
        try clear hfz61_4
        try clear hfz61_5
        try clear hfz61_6
        try clear hfz61_7
        try clear hfz61_8
        try clear hfz61_9
        try clear hfz66_0
        try clear hfz66_1
        try clear hfz66_2
        try clear hfz66_3
        try clear hfz66_4
        try clear hfz66_5
        try clear hfz67_0
        try clear hfz67_1
        try clear hfz67_10
        try clear hfz67_11
        try clear hfz67_2
        try clear hfz67_3
        try clear hfz67_4
        try clear hfz67_5
        try clear hfz67_6
        try clear hfz67_7
        try clear hfz67_8
        try clear hfz67_9
        try clear hfz69_0
        try clear hfz69_1
        try clear hfz69_10
        try clear hfz69_11
        try clear hfz69_2
        try clear hfz69_3
        try clear hfz69_4
        try clear hfz69_5
        try clear hfz69_6
        try clear hfz69_7
        try clear hfz69_8
        try clear hfz69_9
        try clear hfz74_0
        try clear hfz74_1
        try clear hfz74_2
        try clear hfz74_3
        try clear hfz74_4
        try clear hfz74_5
        try clear hfz75_0
        try clear hfz75_1
        try clear hfz75_10
        try clear hfz75_11
        try clear hfz75_2
        try clear hfz75_3
        try clear hfz75_4
        try clear hfz75_5
        try clear hfz75_6
        try clear hfz75_7
        try clear hfz75_8
        try clear hfz75_9
        try clear hfz7_0
        try clear hfz7_1
        try clear hfz7_10
        try clear hfz7_11
        try clear hfz7_2
        try clear hfz7_3
        try clear hfz7_4
        try clear hfz7_5
        try clear hfz7_6
        try clear hfz7_7
        try clear hfz7_8
        try clear hfz7_9
        obtain ⟨kq, x4_12, x118011_12, rfl, HA, HJ12, BK116, BK117, HB⟩ := hcut
        cases kq with
        | zero => exact absurd HA.out (by simp [object_Check.j1])
        | succ kj12 =>
          have H := HA.out
          clear HA
          simp only [object_Check.j1] at H
          by_cases c76 : x4_12 = true
          · subst c76
            have H1 : ((height_Check.f kj12 a0_2 a0_3 a0_4 a0_5 a0_6 a0_7).bind fun t126 => (if t126 = 0 then (if (!(0 == 0) || (!(0 == 0) || ((!(a0_8 == 0) || (!(a0_9 == 0) || (!(a0_10 == 0)))) || (!(x118011_12 == 0))))) = true then (some 1) else (some 0)) else (some 1))) = some r := by rw [if_pos rfl] at H; exact H
            clear H
            have H := H1
            clear H1; replace H := Option.bind_eq_some_iff.mp H; obtain ⟨t126, A770, H⟩ := H
            replace H : (if t126 = 0 then (if (!(0 == 0) || (!(0 == 0) || ((!(a0_8 == 0) || (!(a0_9 == 0) || (!(a0_10 == 0)))) || (!(x118011_12 == 0))))) = true then (some 1) else (some 0)) else (some 1)) = some r := H
            have A77 := YL A770; clear A770
            by_cases c78 : t126 = 0
            · rw [if_pos c78] at H
              have c78b0 : (t126 == 0) = true := beq_iff_eq.mpr c78
              have c78b1 : (t126 != 0) = false := bne_eq_false_iff_eq.mpr c78
              clear c78
              by_cases c79 : (!(0 == 0) || (!(0 == 0) || ((!(a0_8 == 0) || (!(a0_9 == 0) || (!(a0_10 == 0)))) || (!(x118011_12 == 0))))) = true
              · rw [if_pos c79] at H
                have c79b0 : (!(0 == 0) || (!(0 == 0) || ((!(a0_8 == 0) || (!(a0_9 == 0) || (!(a0_10 == 0)))) || (!(x118011_12 == 0))))) = true := c79
                have c79b9 := c79b0
                (try simp only [beq_self_eq_true, Bool.not_true, Bool.not_false, Bool.false_or, Bool.true_and, Bool.or_false, Bool.and_true] at c79b9)
                clear c79
                obtain rfl := Option.some.inj H
                have hnb80 := NB116_117.out
                have hnc80 := NB117_116.out
                have hcz81_0 : wc.cell? ⟨gb116, 0, none⟩ = some (.int .i64 a0_0) := (YI BK116.out 0).trans rfl
                have hcz81_1 : wc.cell? ⟨gb116, 1, none⟩ = some (.int .i64 a0_1) := (YI BK116.out 1).trans rfl
                have hcz81_2 : wc.cell? ⟨gb116, 2, none⟩ = some (.bool a0_2) := (YI BK116.out 2).trans rfl
                have hcz81_3 : wc.cell? ⟨gb116, 3, none⟩ = some (.int .i64 a0_3) := (YI BK116.out 3).trans rfl
                have hcz81_4 : wc.cell? ⟨gb116, 4, none⟩ = some (.int .i64 a0_4) := (YI BK116.out 4).trans rfl
                have hcz81_5 : wc.cell? ⟨gb116, 5, none⟩ = some (.int .i64 a0_5) := (YI BK116.out 5).trans rfl
                have hcz81_6 : wc.cell? ⟨gb116, 6, none⟩ = some (.int .i64 a0_6) := (YI BK116.out 6).trans rfl
                have hcz81_7 : wc.cell? ⟨gb116, 7, none⟩ = some (.int .i64 a0_7) := (YI BK116.out 7).trans rfl
                have hcz81_8 : wc.cell? ⟨gb116, 8, none⟩ = some (.int .i64 a0_8) := (YI BK116.out 8).trans rfl
                have hcz81_9 : wc.cell? ⟨gb116, 9, none⟩ = some (.int .i64 a0_9) := (YI BK116.out 9).trans rfl
                have hcz81_10 : wc.cell? ⟨gb116, 10, none⟩ = some (.int .i64 a0_10) := (YI BK116.out 10).trans rfl
                have hcz81_11 : wc.cell? ⟨gb116, 11, none⟩ = some (.int .i64 a0_11) := (YI BK116.out 11).trans rfl
                have hfz81_0 := YJ BK116.out 0
                have hfz81_1 := YJ BK116.out 1
                have hfz81_2 := YJ BK116.out 2
                have hfz81_3 := YJ BK116.out 3
                have hfz81_4 := YJ BK116.out 4
                have hfz81_5 := YJ BK116.out 5
                have hfz81_6 := YJ BK116.out 6
                have hfz81_7 := YJ BK116.out 7
                have hfz81_8 := YJ BK116.out 8
                have hfz81_9 := YJ BK116.out 9
                have hfz81_10 := YJ BK116.out 10
                have hfz81_11 := YJ BK116.out 11
                go_wp2_with (first | (go_at_call 44; (with_reducible refine (height_Check.calls kj12 a0_2 a0_3 a0_4 a0_5 a0_6 a0_7 t126 _ A77.out).mono ?_); rintro e w82 ⟨rfl, hb⟩; have n0_ := YL (YK (g := gb116) (o := .cells #[.int .i64 a0_0, .int .i64 a0_1, .bool a0_2, .int .i64 a0_3, .int .i64 a0_4, .int .i64 a0_5, .int .i64 a0_6, .int .i64 a0_7, .int .i64 a0_8, .int .i64 a0_9, .int .i64 a0_10, .int .i64 a0_11] 45 (0, 0)) (by (with_reducible repeat (first | refine YF ?_ _ | refine YG ?_ | refine YH ?_ _)); exact BK116.out) hb); have n1_ := YL (YK (g := gb117) (o := .cells #[.int .i64 0, .int .i64 0, .bool a0_2, .int .i64 a0_3, .int .i64 a0_4, .int .i64 a0_5, .int .i64 a0_6, .int .i64 a0_7, .int .i64 a0_8, .int .i64 a0_9, .int .i64 a0_10, .int .i64 x118011_12] 45 (0, 0)) (by (with_reducible repeat (first | refine YF ?_ _ | refine YG ?_ | refine YH ?_ _)); exact BK117.out) hb); have n2_ := YL (YD (by repeat (first | (with_reducible first | exact HB.out | apply YA | apply YB | apply YC | refine below_set ?_ GE116.out | refine below_set ?_ GE117.out) | exact HB.out)) hb); clear BK116; clear BK117; clear HB; have BK116 := n0_; have BK117 := n1_; have HB := n2_; clear n0_ n1_ n2_; (try clear hb); (try clear hb2); (try clear hk); (try clear hi); have hcz83_0 : w82.cell? ⟨gb117, 0, none⟩ = some (.int .i64 0) := (YI BK117.out 0).trans rfl; have hcz83_1 : w82.cell? ⟨gb117, 1, none⟩ = some (.int .i64 0) := (YI BK117.out 1).trans rfl; have hcz83_2 : w82.cell? ⟨gb117, 2, none⟩ = some (.bool a0_2) := (YI BK117.out 2).trans rfl; have hcz83_3 : w82.cell? ⟨gb117, 3, none⟩ = some (.int .i64 a0_3) := (YI BK117.out 3).trans rfl; have hcz83_4 : w82.cell? ⟨gb117, 4, none⟩ = some (.int .i64 a0_4) := (YI BK117.out 4).trans rfl; have hcz83_5 : w82.cell? ⟨gb117, 5, none⟩ = some (.int .i64 a0_5) := (YI BK117.out 5).trans rfl; have hcz83_6 : w82.cell? ⟨gb117, 6, none⟩ = some (.int .i64 a0_6) := (YI BK117.out 6).trans rfl; have hcz83_7 : w82.cell? ⟨gb117, 7, none⟩ = some (.int .i64 a0_7) := (YI BK117.out 7).trans rfl; have hcz83_8 : w82.cell? ⟨gb117, 8, none⟩ = some (.int .i64 a0_8) := (YI BK117.out 8).trans rfl; have hcz83_9 : w82.cell? ⟨gb117, 9, none⟩ = some (.int .i64 a0_9) := (YI BK117.out 9).trans rfl; have hcz83_10 : w82.cell? ⟨gb117, 10, none⟩ = some (.int .i64 a0_10) := (YI BK117.out 10).trans rfl; have hcz83_11 : w82.cell? ⟨gb117, 11, none⟩ = some (.int .i64 x118011_12) := (YI BK117.out 11).trans rfl; have hfz83_0 := YJ BK117.out 0; have hfz83_1 := YJ BK117.out 1; have hfz83_2 := YJ BK117.out 2; have hfz83_3 := YJ BK117.out 3; have hfz83_4 := YJ BK117.out 4; have hfz83_5 := YJ BK117.out 5; have hfz83_6 := YJ BK117.out 6; have hfz83_7 := YJ BK117.out 7; have hfz83_8 := YJ BK117.out 8; have hfz83_9 := YJ BK117.out 9; have hfz83_10 := YJ BK117.out 10; have hfz83_11 := YJ BK117.out 11))
                go_ret
                exact ⟨by first | rfl | (simp [errW_none, errW_some] <;> rfl) | (simp [*, errW_none, errW_some] <;> rfl), by repeat (first | (with_reducible first | exact HB.out | apply YA | apply YB | apply YC | refine below_set ?_ GE116.out | refine below_set ?_ GE117.out) | exact HB.out)⟩
              rw [if_neg c79] at H
              have c79b0 : (!(0 == 0) || (!(0 == 0) || ((!(a0_8 == 0) || (!(a0_9 == 0) || (!(a0_10 == 0)))) || (!(x118011_12 == 0))))) = false := by simpa using c79
              have c79b9 := c79b0
              (try simp only [beq_self_eq_true, Bool.not_true, Bool.not_false, Bool.false_or, Bool.true_and, Bool.or_false, Bool.and_true] at c79b9)
              clear c79
              obtain rfl := Option.some.inj H
              have hnb84 := NB116_117.out
              have hnc84 := NB117_116.out
              have hcz85_0 : wc.cell? ⟨gb116, 0, none⟩ = some (.int .i64 a0_0) := (YI BK116.out 0).trans rfl
              have hcz85_1 : wc.cell? ⟨gb116, 1, none⟩ = some (.int .i64 a0_1) := (YI BK116.out 1).trans rfl
              have hcz85_2 : wc.cell? ⟨gb116, 2, none⟩ = some (.bool a0_2) := (YI BK116.out 2).trans rfl
              have hcz85_3 : wc.cell? ⟨gb116, 3, none⟩ = some (.int .i64 a0_3) := (YI BK116.out 3).trans rfl
              have hcz85_4 : wc.cell? ⟨gb116, 4, none⟩ = some (.int .i64 a0_4) := (YI BK116.out 4).trans rfl
              have hcz85_5 : wc.cell? ⟨gb116, 5, none⟩ = some (.int .i64 a0_5) := (YI BK116.out 5).trans rfl
              have hcz85_6 : wc.cell? ⟨gb116, 6, none⟩ = some (.int .i64 a0_6) := (YI BK116.out 6).trans rfl
              have hcz85_7 : wc.cell? ⟨gb116, 7, none⟩ = some (.int .i64 a0_7) := (YI BK116.out 7).trans rfl
              have hcz85_8 : wc.cell? ⟨gb116, 8, none⟩ = some (.int .i64 a0_8) := (YI BK116.out 8).trans rfl
              have hcz85_9 : wc.cell? ⟨gb116, 9, none⟩ = some (.int .i64 a0_9) := (YI BK116.out 9).trans rfl
              have hcz85_10 : wc.cell? ⟨gb116, 10, none⟩ = some (.int .i64 a0_10) := (YI BK116.out 10).trans rfl
              have hcz85_11 : wc.cell? ⟨gb116, 11, none⟩ = some (.int .i64 a0_11) := (YI BK116.out 11).trans rfl
              have hfz85_0 := YJ BK116.out 0
              have hfz85_1 := YJ BK116.out 1
              have hfz85_2 := YJ BK116.out 2
              have hfz85_3 := YJ BK116.out 3
              have hfz85_4 := YJ BK116.out 4
              have hfz85_5 := YJ BK116.out 5
              have hfz85_6 := YJ BK116.out 6
              have hfz85_7 := YJ BK116.out 7
              have hfz85_8 := YJ BK116.out 8
              have hfz85_9 := YJ BK116.out 9
              have hfz85_10 := YJ BK116.out 10
              have hfz85_11 := YJ BK116.out 11
              go_wp2_with (first | (go_at_call 44; (with_reducible refine (height_Check.calls kj12 a0_2 a0_3 a0_4 a0_5 a0_6 a0_7 t126 _ A77.out).mono ?_); rintro e w86 ⟨rfl, hb⟩; have n0_ := YL (YK (g := gb116) (o := .cells #[.int .i64 a0_0, .int .i64 a0_1, .bool a0_2, .int .i64 a0_3, .int .i64 a0_4, .int .i64 a0_5, .int .i64 a0_6, .int .i64 a0_7, .int .i64 a0_8, .int .i64 a0_9, .int .i64 a0_10, .int .i64 a0_11] 45 (0, 0)) (by (with_reducible repeat (first | refine YF ?_ _ | refine YG ?_ | refine YH ?_ _)); exact BK116.out) hb); have n1_ := YL (YK (g := gb117) (o := .cells #[.int .i64 0, .int .i64 0, .bool a0_2, .int .i64 a0_3, .int .i64 a0_4, .int .i64 a0_5, .int .i64 a0_6, .int .i64 a0_7, .int .i64 a0_8, .int .i64 a0_9, .int .i64 a0_10, .int .i64 x118011_12] 45 (0, 0)) (by (with_reducible repeat (first | refine YF ?_ _ | refine YG ?_ | refine YH ?_ _)); exact BK117.out) hb); have n2_ := YL (YD (by repeat (first | (with_reducible first | exact HB.out | apply YA | apply YB | apply YC | refine below_set ?_ GE116.out | refine below_set ?_ GE117.out) | exact HB.out)) hb); clear BK116; clear BK117; clear HB; have BK116 := n0_; have BK117 := n1_; have HB := n2_; clear n0_ n1_ n2_; (try clear hb); (try clear hb2); (try clear hk); (try clear hi); have hcz87_0 : w86.cell? ⟨gb117, 0, none⟩ = some (.int .i64 0) := (YI BK117.out 0).trans rfl; have hcz87_1 : w86.cell? ⟨gb117, 1, none⟩ = some (.int .i64 0) := (YI BK117.out 1).trans rfl; have hcz87_2 : w86.cell? ⟨gb117, 2, none⟩ = some (.bool a0_2) := (YI BK117.out 2).trans rfl; have hcz87_3 : w86.cell? ⟨gb117, 3, none⟩ = some (.int .i64 a0_3) := (YI BK117.out 3).trans rfl; have hcz87_4 : w86.cell? ⟨gb117, 4, none⟩ = some (.int .i64 a0_4) := (YI BK117.out 4).trans rfl; have hcz87_5 : w86.cell? ⟨gb117, 5, none⟩ = some (.int .i64 a0_5) := (YI BK117.out 5).trans rfl; have hcz87_6 : w86.cell? ⟨gb117, 6, none⟩ = some (.int .i64 a0_6) := (YI BK117.out 6).trans rfl; have hcz87_7 : w86.cell? ⟨gb117, 7, none⟩ = some (.int .i64 a0_7) := (YI BK117.out 7).trans rfl; have hcz87_8 : w86.cell? ⟨gb117, 8, none⟩ = some (.int .i64 a0_8) := (YI BK117.out 8).trans rfl; have hcz87_9 : w86.cell? ⟨gb117, 9, none⟩ = some (.int .i64 a0_9) := (YI BK117.out 9).trans rfl; have hcz87_10 : w86.cell? ⟨gb117, 10, none⟩ = some (.int .i64 a0_10) := (YI BK117.out 10).trans rfl; have hcz87_11 : w86.cell? ⟨gb117, 11, none⟩ = some (.int .i64 x118011_12) := (YI BK117.out 11).trans rfl; have hfz87_0 := YJ BK117.out 0; have hfz87_1 := YJ BK117.out 1; have hfz87_2 := YJ BK117.out 2; have hfz87_3 := YJ BK117.out 3; have hfz87_4 := YJ BK117.out 4; have hfz87_5 := YJ BK117.out 5; have hfz87_6 := YJ BK117.out 6; have hfz87_7 := YJ BK117.out 7; have hfz87_8 := YJ BK117.out 8; have hfz87_9 := YJ BK117.out 9; have hfz87_10 := YJ BK117.out 10; have hfz87_11 := YJ BK117.out 11))
              go_ret
              exact ⟨by first | rfl | (simp [errW_none, errW_some] <;> rfl) | (simp [*, errW_none, errW_some] <;> rfl), by repeat (first | (with_reducible first | exact HB.out | apply YA | apply YB | apply YC | refine below_set ?_ GE116.out | refine below_set ?_ GE117.out) | exact HB.out)⟩
            rw [if_neg c78] at H
            have c78b0 : (t126 == 0) = false := beq_eq_false_iff_ne.mpr c78
            have c78b1 : (t126 != 0) = true := bne_iff_ne.mpr c78
            obtain rfl := Option.some.inj H
            have hnb88 := NB116_117.out
            have hnc88 := NB117_116.out
            have hcz89_0 : wc.cell? ⟨gb116, 0, none⟩ = some (.int .i64 a0_0) := (YI BK116.out 0).trans rfl
            have hcz89_1 : wc.cell? ⟨gb116, 1, none⟩ = some (.int .i64 a0_1) := (YI BK116.out 1).trans rfl
            have hcz89_2 : wc.cell? ⟨gb116, 2, none⟩ = some (.bool a0_2) := (YI BK116.out 2).trans rfl
            have hcz89_3 : wc.cell? ⟨gb116, 3, none⟩ = some (.int .i64 a0_3) := (YI BK116.out 3).trans rfl
            have hcz89_4 : wc.cell? ⟨gb116, 4, none⟩ = some (.int .i64 a0_4) := (YI BK116.out 4).trans rfl
            have hcz89_5 : wc.cell? ⟨gb116, 5, none⟩ = some (.int .i64 a0_5) := (YI BK116.out 5).trans rfl
            have hcz89_6 : wc.cell? ⟨gb116, 6, none⟩ = some (.int .i64 a0_6) := (YI BK116.out 6).trans rfl
            have hcz89_7 : wc.cell? ⟨gb116, 7, none⟩ = some (.int .i64 a0_7) := (YI BK116.out 7).trans rfl
            have hcz89_8 : wc.cell? ⟨gb116, 8, none⟩ = some (.int .i64 a0_8) := (YI BK116.out 8).trans rfl
            have hcz89_9 : wc.cell? ⟨gb116, 9, none⟩ = some (.int .i64 a0_9) := (YI BK116.out 9).trans rfl
            have hcz89_10 : wc.cell? ⟨gb116, 10, none⟩ = some (.int .i64 a0_10) := (YI BK116.out 10).trans rfl
            have hcz89_11 : wc.cell? ⟨gb116, 11, none⟩ = some (.int .i64 a0_11) := (YI BK116.out 11).trans rfl
            have hfz89_0 := YJ BK116.out 0
            have hfz89_1 := YJ BK116.out 1
            have hfz89_2 := YJ BK116.out 2
            have hfz89_3 := YJ BK116.out 3
            have hfz89_4 := YJ BK116.out 4
            have hfz89_5 := YJ BK116.out 5
            have hfz89_6 := YJ BK116.out 6
            have hfz89_7 := YJ BK116.out 7
            have hfz89_8 := YJ BK116.out 8
            have hfz89_9 := YJ BK116.out 9
            have hfz89_10 := YJ BK116.out 10
            have hfz89_11 := YJ BK116.out 11
            go_wp2_with (first | (go_at_call 44; (with_reducible refine (height_Check.calls kj12 a0_2 a0_3 a0_4 a0_5 a0_6 a0_7 t126 _ A77.out).mono ?_); rintro e w90 ⟨rfl, hb⟩; have n0_ := YL (YK (g := gb116) (o := .cells #[.int .i64 a0_0, .int .i64 a0_1, .bool a0_2, .int .i64 a0_3, .int .i64 a0_4, .int .i64 a0_5, .int .i64 a0_6, .int .i64 a0_7, .int .i64 a0_8, .int .i64 a0_9, .int .i64 a0_10, .int .i64 a0_11] 45 (0, 0)) (by (with_reducible repeat (first | refine YF ?_ _ | refine YG ?_ | refine YH ?_ _)); exact BK116.out) hb); have n1_ := YL (YK (g := gb117) (o := .cells #[.int .i64 0, .int .i64 0, .bool a0_2, .int .i64 a0_3, .int .i64 a0_4, .int .i64 a0_5, .int .i64 a0_6, .int .i64 a0_7, .int .i64 a0_8, .int .i64 a0_9, .int .i64 a0_10, .int .i64 x118011_12] 45 (0, 0)) (by (with_reducible repeat (first | refine YF ?_ _ | refine YG ?_ | refine YH ?_ _)); exact BK117.out) hb); have n2_ := YL (YD (by repeat (first | (with_reducible first | exact HB.out | apply YA | apply YB | apply YC | refine below_set ?_ GE116.out | refine below_set ?_ GE117.out) | exact HB.out)) hb); clear BK116; clear BK117; clear HB; have BK116 := n0_; have BK117 := n1_; have HB := n2_; clear n0_ n1_ n2_; (try clear hb); (try clear hb2); (try clear hk); (try clear hi); have hcz91_0 : w90.cell? ⟨gb117, 0, none⟩ = some (.int .i64 0) := (YI BK117.out 0).trans rfl; have hcz91_1 : w90.cell? ⟨gb117, 1, none⟩ = some (.int .i64 0) := (YI BK117.out 1).trans rfl; have hcz91_2 : w90.cell? ⟨gb117, 2, none⟩ = some (.bool a0_2) := (YI BK117.out 2).trans rfl; have hcz91_3 : w90.cell? ⟨gb117, 3, none⟩ = some (.int .i64 a0_3) := (YI BK117.out 3).trans rfl; have hcz91_4 : w90.cell? ⟨gb117, 4, none⟩ = some (.int .i64 a0_4) := (YI BK117.out 4).trans rfl; have hcz91_5 : w90.cell? ⟨gb117, 5, none⟩ = some (.int .i64 a0_5) := (YI BK117.out 5).trans rfl; have hcz91_6 : w90.cell? ⟨gb117, 6, none⟩ = some (.int .i64 a0_6) := (YI BK117.out 6).trans rfl; have hcz91_7 : w90.cell? ⟨gb117, 7, none⟩ = some (.int .i64 a0_7) := (YI BK117.out 7).trans rfl; have hcz91_8 : w90.cell? ⟨gb117, 8, none⟩ = some (.int .i64 a0_8) := (YI BK117.out 8).trans rfl; have hcz91_9 : w90.cell? ⟨gb117, 9, none⟩ = some (.int .i64 a0_9) := (YI BK117.out 9).trans rfl; have hcz91_10 : w90.cell? ⟨gb117, 10, none⟩ = some (.int .i64 a0_10) := (YI BK117.out 10).trans rfl; have hcz91_11 : w90.cell? ⟨gb117, 11, none⟩ = some (.int .i64 x118011_12) := (YI BK117.out 11).trans rfl; have hfz91_0 := YJ BK117.out 0; have hfz91_1 := YJ BK117.out 1; have hfz91_2 := YJ BK117.out 2; have hfz91_3 := YJ BK117.out 3; have hfz91_4 := YJ BK117.out 4; have hfz91_5 := YJ BK117.out 5; have hfz91_6 := YJ BK117.out 6; have hfz91_7 := YJ BK117.out 7; have hfz91_8 := YJ BK117.out 8; have hfz91_9 := YJ BK117.out 9; have hfz91_10 := YJ BK117.out 10; have hfz91_11 := YJ BK117.out 11))
            go_ret
            exact ⟨by first | rfl | (simp [errW_none, errW_some] <;> rfl) | (simp [*, errW_none, errW_some] <;> rfl), by repeat (first | (with_reducible first | exact HB.out | apply YA | apply YB | apply YC | refine below_set ?_ GE116.out | refine below_set ?_ GE117.out) | exact HB.out)⟩
          replace c76 := Bool.eq_false_iff.mpr c76
          subst c76
          have H1 : (some 1) = some r := by rw [if_neg (show ¬ (false = true) by decide)] at H; exact H
          clear H
          have H := H1
          clear H1
          obtain rfl := Option.some.inj H
          have hnb92 := NB117_116.out
          have hnc92 := NB116_117.out
          have hcz93_0 : wc.cell? ⟨gb117, 0, none⟩ = some (.int .i64 0) := (YI BK117.out 0).trans rfl
          have hcz93_1 : wc.cell? ⟨gb117, 1, none⟩ = some (.int .i64 0) := (YI BK117.out 1).trans rfl
          have hcz93_2 : wc.cell? ⟨gb117, 2, none⟩ = some (.bool a0_2) := (YI BK117.out 2).trans rfl
          have hcz93_3 : wc.cell? ⟨gb117, 3, none⟩ = some (.int .i64 a0_3) := (YI BK117.out 3).trans rfl
          have hcz93_4 : wc.cell? ⟨gb117, 4, none⟩ = some (.int .i64 a0_4) := (YI BK117.out 4).trans rfl
          have hcz93_5 : wc.cell? ⟨gb117, 5, none⟩ = some (.int .i64 a0_5) := (YI BK117.out 5).trans rfl
          have hcz93_6 : wc.cell? ⟨gb117, 6, none⟩ = some (.int .i64 a0_6) := (YI BK117.out 6).trans rfl
          have hcz93_7 : wc.cell? ⟨gb117, 7, none⟩ = some (.int .i64 a0_7) := (YI BK117.out 7).trans rfl
          have hcz93_8 : wc.cell? ⟨gb117, 8, none⟩ = some (.int .i64 a0_8) := (YI BK117.out 8).trans rfl
          have hcz93_9 : wc.cell? ⟨gb117, 9, none⟩ = some (.int .i64 a0_9) := (YI BK117.out 9).trans rfl
          have hcz93_10 : wc.cell? ⟨gb117, 10, none⟩ = some (.int .i64 a0_10) := (YI BK117.out 10).trans rfl
          have hcz93_11 : wc.cell? ⟨gb117, 11, none⟩ = some (.int .i64 x118011_12) := (YI BK117.out 11).trans rfl
          have hfz93_0 := YJ BK117.out 0
          have hfz93_1 := YJ BK117.out 1
          have hfz93_2 := YJ BK117.out 2
          have hfz93_3 := YJ BK117.out 3
          have hfz93_4 := YJ BK117.out 4
          have hfz93_5 := YJ BK117.out 5
          have hfz93_6 := YJ BK117.out 6
          have hfz93_7 := YJ BK117.out 7
          have hfz93_8 := YJ BK117.out 8
          have hfz93_9 := YJ BK117.out 9
          have hfz93_10 := YJ BK117.out 10
          have hfz93_11 := YJ BK117.out 11
          go_wp2
          go_ret
          exact ⟨by first | rfl | (simp [errW_none, errW_some] <;> rfl) | (simp [*, errW_none, errW_some] <;> rfl), by repeat (first | (with_reducible first | exact HB.out | apply YA | apply YB | apply YC | refine below_set ?_ GE116.out | refine below_set ?_ GE117.out) | exact HB.out)⟩
end Go.Proofs.Ytfigbjjaffkidaa.P
namespace Go.Proofs.Ytfigbjjaffkidaa.P
open Go.RowKit Go.Proofs.YtfigbjjaffkidaaW.PrintWords Go.Proofs.YtfigbjjaffkidaaW.PrintLast Go.Proofs.YtfigbjjaffkidaaW.PrintMore
theorem w64 {x : Int} (h0 : -9223372036854775808 ≤ x) (h1 : x < 9223372036854775808) : wrap64 x = x := by unfold wrap64; omega
theorem Ev.from {α : Type} {g : Nat → Option α} {r : α} (n : Nat) (h : ∀ k, g (k + n) = some r) : Ev g r := ⟨n, fun k hk => by
  obtain ⟨m, rfl⟩ : ∃ m, k = m + n := ⟨k - n, by omega⟩
  exact h m⟩
theorem bnd64 {n : Int} (h : (Lit.int .i64 n).wf = true) : -9223372036854775808 ≤ n ∧ n ≤ 9223372036854775807 := Go.bounds_i64 h
theorem wrap_u64 (n : Int) : IntKind.u64.wrap n = n % 18446744073709551616 := by simp [IntKind.wrap, IntKind.bits, IntKind.signed]
def Bytes (l : List Int) : Prop := ∀ x ∈ l, 0 ≤ x ∧ x ≤ 255
def be : Nat → Int → List Int
  | 0, _ => []
  | n + 1, v => be n (v / 256) ++ [v % 256]
theorem be_length (n : Nat) (v : Int) : (be n v).length = n := by
  induction n generalizing v with
  | zero => rfl
  | succ n ih => simp [be, ih]
theorem be_cons (n : Nat) : ∀ v : Int, be (n + 1) v = (v / 256 ^ n % 256) :: be n v := by
  induction n with
  | zero => intro v; simp [be]
  | succ n ih =>
    intro v
    show be (n + 1) (v / 256) ++ [v % 256] = _
    rw [ih (v / 256), Int.ediv_ediv_of_nonneg (by decide), ← Int.pow_succ']
    rfl
theorem be_set (m : Nat) (x : Int) (t : List Int) : (List.replicate (m + 1) (0 : Int) ++ t).set m x = List.replicate m 0 ++ x :: t := by
  induction m with
  | zero => rfl
  | succ m ih => rw [List.replicate_succ, List.cons_append, List.set_cons_succ, ih, List.replicate_succ (n := m), List.cons_append]
def bevFrom (a : Int) (l : List Int) : Int := l.foldl (fun a x => 256 * a + x) a
def bev (l : List Int) : Int := bevFrom 0 l
theorem bevFrom_eq (l : List Int) : ∀ a : Int, bevFrom a l = a * 256 ^ l.length + bev l := by
  induction l with
  | nil => intro a; simp [bevFrom, bev]
  | cons x l ih =>
    intro a
    show bevFrom (256 * a + x) l = _
    have e : bev (x :: l) = bevFrom (256 * 0 + x) l := rfl
    rw [e, ih (256 * a + x), ih (256 * 0 + x), List.length_cons, Int.pow_succ]
    rw [Int.mul_zero, Int.zero_add, Int.add_mul, Int.add_assoc]
    congr 1
    rw [Int.mul_comm 256 a, Int.mul_assoc, Int.mul_comm 256]
theorem bev_cons (x : Int) (l : List Int) : bev (x :: l) = x * 256 ^ l.length + bev l := by
  show bevFrom (256 * 0 + x) l = _
  rw [bevFrom_eq, Int.mul_zero, Int.zero_add]
theorem bev_snoc (l : List Int) (x : Int) : bev (l ++ [x]) = 256 * bev l + x := by simp [bev, bevFrom, List.foldl_append]
theorem bev_nil : bev [] = 0 := rfl
theorem Bytes.cons {x : Int} {l : List Int} (h : Bytes (x :: l)) : (0 ≤ x ∧ x ≤ 255) ∧ Bytes l := ⟨h x (by simp), fun y hy => h y (by simp [hy])⟩
theorem Bytes.sub {l m : List Int} (h : Bytes l) (hm : ∀ x ∈ m, x ∈ l) : Bytes m := fun x hx => h x (hm x hx)
theorem Bytes.drop {l : List Int} (h : Bytes l) (n : Nat) : Bytes (l.drop n) := h.sub fun _ => List.mem_of_mem_drop
theorem Bytes.take {l : List Int} (h : Bytes l) (n : Nat) : Bytes (l.take n) := h.sub fun _ => List.mem_of_mem_take
theorem Bytes.append {l m : List Int} (h : Bytes l) (k : Bytes m) : Bytes (l ++ m) := fun x hx => (List.mem_append.1 hx).elim (h x) (k x)
theorem Bytes.nil : Bytes [] := fun x hx => by simp at hx
theorem pow256_pos (n : Nat) : (0 : Int) < 256 ^ n := Int.pow_pos (by decide)
theorem bev_range (l : List Int) (h : Bytes l) : 0 ≤ bev l ∧ bev l < 256 ^ l.length := by
  induction l with
  | nil => simp [bev_nil]
  | cons x l ih =>
    obtain ⟨hx, hl⟩ := h.cons
    have := ih hl
    rw [bev_cons, List.length_cons, Int.pow_succ]
    have hp := pow256_pos l.length
    have h1 : 0 ≤ x * 256 ^ l.length := Int.mul_nonneg hx.1 (by omega)
    have h2 : x * 256 ^ l.length ≤ 255 * 256 ^ l.length := Int.mul_le_mul_of_nonneg_right hx.2 (by omega)
    omega
def numSpec (l : List Int) (at_ n : Int) : Int × Int × Int :=
  if at_ < 0 ∨ (l.length : Int) < at_ then (0, 0, 1) else if (l.length : Int) - at_ < n then (0, 0, 6) else (bev ((l.drop at_.toNat).take n.toNat), at_ + n, 0)
def intSpec (v : Int) : List Int := be 8 (v % 18446744073709551616)
theorem take_bev (l : List Int) (i : Nat) (h : i < l.length) : bev (l.take (i + 1)) = 256 * bev (l.take i) + rd l i := by
  rw [List.take_succ_eq_append_getElem h, bev_snoc]
  congr 1
  unfold rd
  rw [List.getD_eq_getElem?_getD, Int.toNat_natCast, List.getElem?_eq_getElem h]
  rfl
theorem rd_byte (l : List Int) (h : Bytes l) (i : Int) : 0 ≤ rd l i ∧ rd l i ≤ 255 := by
  unfold rd
  rw [List.getD_eq_getElem?_getD]
  cases hc : l[i.toNat]? with
  | none => simp
  | some x => exact h x (List.mem_of_getElem? hc)
theorem or_byte (a x : Int) (h0 : 0 ≤ a) (h1 : a < 72057594037927936) (x0 : 0 ≤ x) (x1 : x ≤ 255) : Go.bits .or .u64 (IntKind.u64.wrap (a * 256)) (IntKind.u64.wrap x) = 256 * a + x := by
  rw [wrap_u64, wrap_u64]
  obtain ⟨p, rfl⟩ := Int.eq_ofNat_of_zero_le h0
  obtain ⟨q, rfl⟩ := Int.eq_ofNat_of_zero_le x0
  rw [show ((p : Int) * 256) % 18446744073709551616 = ((p * 256 : Nat) : Int) by omega, show ((q : Int) % 18446744073709551616) = ((q : Nat) : Int) by omega]
  rw [u64_or_nat _ _ (by omega) (by omega), nat_join 8 _ _ (by omega) (by omega)]
  omega
theorem pow256_le (i n : Nat) (h : i ≤ n) : (256 : Int) ^ i ≤ 256 ^ n := by
  have : (256 : Nat) ^ i ≤ 256 ^ n := Nat.pow_le_pow_right (by decide) h
  have h2 : ((256 ^ i : Nat) : Int) ≤ ((256 ^ n : Nat) : Int) := Int.ofNat_le.mpr this
  rw [Int.natCast_pow, Int.natCast_pow] at h2
  exact h2
end Go.Proofs.Ytfigbjjaffkidaa.P
namespace Go.Proofs.Ytfigbjjaffkidaa.P
open Go.RowKit Go.Proofs.YtfigbjjaffkidaaW.PrintWords Go.Proofs.YtfigbjjaffkidaaW.PrintLast Go.Proofs.YtfigbjjaffkidaaW.PrintMore
def wire_bytes.f (v n : Int) : Option (List Int) := if 0 ≤ v ∧ 1 ≤ n ∧ n ≤ 8 then some (be n.toNat v) else none
theorem store_any (g : Nat) (u : Value) (v : Int) (w : World) (hb : w.heap[g]? = some (.cells #[u] 95 (0, 0))) :
    Calls Try.prog 52 #[.pointer (some ⟨g, 0, none⟩), .int .u64 v] w fun e w' => e = .returned (.tuple #[]) ∧ w.setCell ⟨g, 0, none⟩ (.int .u64 v) = w' := by
  have hc : w.cell? ⟨g, 0, none⟩ = some u := by rw [blk_cell hb]; rfl
  have hz : w.frozen? ⟨g, 0, none⟩ = false := blk_frozen hb 0
  have hst := fun y => run_call_store (P := Try.prog) Try.func56 (by kernel_rfl) (by kernel_rfl) (by kernel_rfl) (by kernel_rfl) (k := .u64) (y := y) hc hz
  clear hb
  go_enter Try.func52, Try.ntmps52
  go_wp2
  go_end0
  exact ⟨rfl, rfl⟩
theorem low_any (g : Nat) (v : Int) (w : World) (h0 : 0 ≤ v) (hb : w.heap[g]? = some (.cells #[.int .u64 v] 95 (0, 0))) :
    Calls Try.prog 53 #[.pointer (some ⟨g, 0, none⟩)] w fun e w' => e = .returned (.int .u8 (v % 256)) ∧ w.setCell ⟨g, 0, none⟩ (.int .u64 (v / 256)) = w' := by
  have hc : w.cell? ⟨g, 0, none⟩ = some (.int .u64 v) := by rw [blk_cell hb]; rfl
  have hz : w.frozen? ⟨g, 0, none⟩ = false := blk_frozen hb 0
  have hld := run_call_load (P := Try.prog) Try.func59 (by kernel_rfl) (by kernel_rfl) (by kernel_rfl) .u64 (by kernel_rfl) hc
  have hst := fun y => run_call_store (P := Try.prog) Try.func56 (by kernel_rfl) (by kernel_rfl) (by kernel_rfl) (by kernel_rfl) (k := .u64) (y := y) hc hz
  clear hb
  go_enter Try.func53, Try.ntmps53
  go_wp2
  go_end0
  go_wp2
  go_ret
  exact ⟨rfl, rfl⟩
set_option maxHeartbeats 2000000 in
set_option maxRecDepth 100000 in
theorem wire_bytes.calls (a0 : Int) (a1 : Int) (r : List Int) (w : World) (h : wire_bytes.f a0 a1 = some r) :
    Calls Try.prog 46 #[.int .u64 a0, .int .i64 a1] w fun e w' => ∃ v0_ : Value, e = .returned (v0_) ∧ Kd.R (Kd.int .u8) 5 w' w.heap.size (fun _ => True) v0_ r ∧ Below w.heap.size w w' := by
  have hh : (0 ≤ a0 ∧ 1 ≤ a1 ∧ a1 ≤ 8) ∧ be a1.toNat a0 = r := by
    unfold wire_bytes.f at h
    split at h
    · rename_i hc
      exact ⟨hc, Option.some.inj h⟩
    · exact absurd h (by simp)
  clear h
  obtain ⟨⟨h0, h1, h2⟩, rfl⟩ := hh
  obtain ⟨n, rfl⟩ := Int.eq_ofNat_of_zero_le (show 0 ≤ a1 by omega)
  have hp : 0 < n := by omega
  have h2' : n ≤ 8 := by omega
  clear h1 h2
  simp only [Int.toNat_natCast]
  have H0 := Aside0.mk h0
  clear h0
  have hn0 : (0 : Int) ≤ (n : Int) := by omega
  have hn1 : (n : Int) ≤ 8 := by omega
  go_enter Try.func46, Try.ntmps46
  go_wp2_with (((with_reducible refine gate_dst (N := 9) rfl ?_); refine box_event ?hg (N := 9) ?hd (cs := #[.int .u64 0]) (t := 95) ?hr ?_; (case hd => rfl); (case hg => rfl); (case hr => first | (go_simp; done) | (go_simp; rfl)); intro gb hgb w1 hbox hb1; have HBX := Aside0.mk hbox; have HB := Aside0.mk (Below.trans (Below.refl w.heap.size w) hb1); have HG := Aside0.mk (show w.heap.size ≤ gb by rw [hgb]; exact Nat.le_refl _); clear hbox hb1 hgb))
  refine (store_any gb _ a0 _ HBX.out).mono ?_
  rintro e w2 ⟨rfl, hw2⟩
  have HBX2 := Aside0.mk (show w2.heap[gb]? = some (.cells #[.int .u64 a0] 95 (0, 0)) by rw [← hw2]; exact blk_put HBX.out 0 _ rfl)
  have HB2 := Aside0.mk (show Below w.heap.size w w2 by rw [← hw2]; exact below_set HB.out HG.out)
  clear hw2 HBX HB
  go_wp2_with (((with_reducible refine gate_dst (N := 16) rfl ?_); refine Kd.R_make (Kd.int .u8) _ 5 rfl (N := 16) rfl 26 _ _ rfl (n : Int) rfl rfl Try.underlying26 (.int .u8 0) 1 info5 rfl (by decide) (by omega) 0 (ok := fun k => k ≠ gb) (okp := fun _ => False) rfl (fun _ hk => hk.elim) (fun he => absurd (blk_lt HBX2.out) (by rw [← he]; exact Nat.lt_irrefl _)) (by omega) (by simp only [Int.toNat_natCast]; omega) (Below.refl _ _) (Nat.le_refl _) ?_; intro v3 w3 ho hb3 hg3 hnew; clear hnew; simp only [Int.toNat_natCast] at ho; obtain ⟨gs, cs, hv3, hgs, hls, hcs⟩ := Kd.R_form ho (by rw [List.length_replicate]; exact hp); rw [List.length_replicate] at hv3; clear hls hcs; rw [hv3] at ho ⊢; clear hv3; have HO := Aside0.mk (Kd.R_lower ho HB2.out.size); have HBX3 := Aside0.mk (blk_grown HBX2.out hg3 (by simp)); have HB3 := Aside0.mk (below_step HB2.out hb3); have HGS := Aside0.mk (Nat.le_trans HB2.out.size hgs); have HNE := Aside0.mk (show gs ≠ gb from ho.1 gs (by simp [Value.ownBlock])); clear ho hb3 hgs hg3 HBX2 HB2))
  go_loopg [19] n (fun kq v19 wr => ∃ (i : Nat), v19 = .int .i64 i ∧ Aside0 (i + kq = n) ∧ Aside0 (Kd.R (Kd.int .u8) 5 wr w.heap.size (fun k => k ≠ gb) (.slice (some ⟨gs, 0, none⟩) n cs) (List.replicate (n - i) 0 ++ be i a0)) ∧ Aside0 (wr.heap[gb]? = some (.cells #[.int .u64 (a0 / 256 ^ i)] 95 (0, 0))) ∧ Aside0 (Below w.heap.size w wr))
  case atStart => exact ⟨0, rfl, ⟨by omega⟩, ⟨by simpa [be] using HO.out⟩, ⟨by simpa using HBX3.out⟩, HB3⟩
  case round =>
    clear HO HBX3 HB3
    obtain ⟨i, rfl, HI, HO, HBX, HB⟩ := hrel
    cases gk with
    | zero =>
      have hi : i = n := by have := HI.out; omega
      subst hi
      go_wp2
      go_ret
      refine ⟨_, rfl, ?_, HB.out⟩
      have h := HO.out
      rw [Nat.sub_self, List.replicate_zero, List.nil_append] at h
      exact Kd.R_mono h (fun _ _ => trivial)
    | succ k1 =>
      have hlt : i < n := by have := HI.out; omega
      have hi0 : (0 : Int) ≤ (n : Int) - 1 - (i : Int) := by omega
      have hi1 : (n : Int) - 1 - (i : Int) < (n : Int) := by omega
      have hs1 : (0 : Int) ≤ (n : Int) - 1 := by omega
      have hb0 : (0 : Int) ≤ (i : Int) := by omega
      have HA0 := Aside0.mk (show 0 ≤ a0 / 256 ^ i from Int.ediv_nonneg H0.out (by exact Int.pow_nonneg (by decide)))
      go_wp2_with (go_at_call 53; (refine (low_any gb (a0 / 256 ^ i) _ HA0.out HBX.out).mono ?_); rintro e w4 ⟨rfl, hw4⟩; have HBX4 := Aside0.mk (show w4.heap[gb]? = some (.cells #[.int .u64 (a0 / 256 ^ i / 256)] 95 (0, 0)) by rw [← hw4]; exact blk_put HBX.out 0 _ rfl); have HB4 := Aside0.mk (show Below w.heap.size w w4 by rw [← hw4]; exact below_set HB.out HG.out); have HO4 := Aside0.mk (show Kd.R (Kd.int .u8) 5 w4 w.heap.size (fun k => k ≠ gb) (.slice (some ⟨gs, 0, none⟩) n cs) (List.replicate (n - i) 0 ++ be i a0) by rw [← hw4]; exact Kd.R_far HO.out (fun _ hk => hk) _); clear hw4; obtain ⟨hx4, hf4⟩ := Kd.R_celln 0 HO4.out ((n - 1 - i : Nat) : Int) (by omega) (by omega); simp only [Int.toNat_natCast] at hx4 hf4)
      go_roundg k1
      case measure => omega
      case rel =>
        have hp4 := (Kd.R_putg HO4.out ((n - 1 - i : Nat) : Int) (a0 / 256 ^ i % 256)).1
        simp only [Int.toNat_natCast] at hp4
        refine ⟨i + 1, by simp, ⟨by have := HI.out; omega⟩, ⟨?_⟩, ⟨?_⟩, ⟨below_set HB4.out HGS.out⟩⟩
        · rw [show n - i = (n - 1 - i) + 1 by omega, be_set, show n - 1 - i = n - (i + 1) by omega] at hp4
          rw [be_cons, show n - 1 - i = n - (i + 1) by omega]
          exact hp4
        · rw [Int.pow_succ, ← Int.ediv_ediv_of_nonneg (Int.pow_nonneg (by decide))]
          exact blk_far HBX4.out (fun e => HNE.out e.symm) _
def wire_number.f (l : List Int) (a n : Int) : Option (Int × Int × Int) := if l.length ≤ 1000000000000 ∧ 0 ≤ n ∧ n ≤ 8 ∧ ∀ x ∈ l, 0 ≤ x ∧ x ≤ 255 then some (numSpec l a n) else none
theorem number_mid (t e : Nat) {P : Program} (ht : P.underlying t = some (.slice e)) {z : Value} (hinfo : (P.info? e).map (fun i => (i.zero, i.size, i.bytes)) = some (some z, 1, 1)) (A : Option Addr) (c : Nat) (l : List Int) (a : Int) (n : Nat) (h0 : 0 ≤ a) (h1 : a + n ≤ l.length) (hc : l.length ≤ c) (w : World) (hr : Kd.C (Kd.int .u8) w A l.length l) :
    ∃ A1, (∀ W : World, (Instr.slice t (.slice A l.length c) (some (.int .i64 a)) (some (.int .i64 (a + n))) none).run P W = .ok (.slice A1 n (c - a.toNat)) W) ∧ Kd.C (Kd.int .u8) w A1 n ((l.drop a.toNat).take n) := by
  obtain ⟨i0, hi, _, hs, _⟩ := info_parts hinfo
  obtain ⟨A1, hcut, hA, hC⟩ := print_mid_of (P := P) (Value.int .u8) 0 t e .i64 .i64 ht hi hs A c l a (a + n) h0 (by omega) h1 hc
  have hm : (l.take (a + n).toNat).drop a.toNat = (l.drop a.toNat).take n := by rw [List.drop_take, show (a + n).toNat - a.toNat = n by omega]
  have hl : ((l.drop a.toNat).take n).length = n := by rw [List.length_take, List.length_drop]; omega
  rw [hm] at hcut hA
  rw [hl] at hcut hA
  exact ⟨A1, hcut, Kd.C_of_reads (h1 := fun _ => rfl) (hA w (Kd.reads_of_C hr))⟩
set_option maxHeartbeats 2000000 in
set_option maxRecDepth 100000 in
theorem wire_number.drawn (A0 : Option Addr) (c0 : Nat) (l0 : List Int) (a1 : Int) (a2 : Int) (r1 : Int) (r2 : Int) (r3 : Int) (w : World) (hr0 : Kd.C (Kd.int .u8) w A0 l0.length l0) (hc0 : l0.length ≤ c0) (h : wire_number.f l0 a1 a2 = some (r1, r2, r3)) :
    Calls Try.prog 41 #[.slice A0 l0.length c0, .int .i64 a1, .int .i64 a2] w fun e w' => e = .returned (.tuple #[.int .u64 r1, .int .i64 r2, .int .i64 r3]) ∧ Drawn0 w w' := by
  obtain ⟨hl, hn0, hn8, hB, hs⟩ : l0.length ≤ 1000000000000 ∧ 0 ≤ a2 ∧ a2 ≤ 8 ∧ Bytes l0 ∧ numSpec l0 a1 a2 = (r1, r2, r3) := by
    unfold wire_number.f at h
    split at h
    · rename_i hc
      exact ⟨hc.1, hc.2.1, hc.2.2.1, hc.2.2.2, Option.some.inj h⟩
    · exact absurd h (by simp)
  clear h
  have HL := Aside0.mk hl
  have HB := Aside0.mk hB
  clear hl hB
  by_cases c1 : a1 < 0
  · rw [numSpec, if_pos (.inl c1)] at hs
    simp only [Prod.mk.injEq] at hs
    obtain ⟨rfl, rfl, rfl⟩ := hs
    have b1 : decide (a1 < 0) = true := decide_eq_true c1
    clear hn0 hn8
    go_enter Try.func41, Try.ntmps41
    go_wp2
    go_ret3
    exact ⟨rfl, Drawn0.refl _⟩
  have b1 : decide (a1 < 0) = false := decide_eq_false c1
  by_cases c2 : (l0.length : Int) < a1
  · rw [numSpec, if_pos (.inr c2)] at hs
    simp only [Prod.mk.injEq] at hs
    obtain ⟨rfl, rfl, rfl⟩ := hs
    have b2 : decide ((l0.length : Int) < a1) = true := decide_eq_true c2
    clear hn0 hn8 c1
    go_enter Try.func41, Try.ntmps41
    go_wp2
    go_ret3
    exact ⟨rfl, Drawn0.refl _⟩
  have b2 : decide ((l0.length : Int) < a1) = false := decide_eq_false c2
  rw [numSpec, if_neg (by omega)] at hs
  have hll := HL.out
  have d0 : 0 ≤ (l0.length : Int) - a1 := by omega
  have d1 : (l0.length : Int) - a1 ≤ 1000000000000 := by omega
  by_cases c3 : (l0.length : Int) - a1 < a2
  · rw [if_pos c3] at hs
    simp only [Prod.mk.injEq] at hs
    obtain ⟨rfl, rfl, rfl⟩ := hs
    have b3 : decide ((l0.length : Int) - a1 < a2) = true := decide_eq_true c3
    go_enter Try.func41, Try.ntmps41
    go_wp2
    go_ret3
    exact ⟨rfl, Drawn0.refl _⟩
  have b3 : decide ((l0.length : Int) - a1 < a2) = false := decide_eq_false c3
  rw [if_neg c3] at hs
  simp only [Prod.mk.injEq] at hs
  obtain ⟨rfl, rfl, rfl⟩ := hs
  obtain ⟨n, rfl⟩ := Int.eq_ofNat_of_zero_le hn0
  simp only [Int.toNat_natCast]
  obtain ⟨A1, hcut, hC⟩ := number_mid 26 5 Try.underlying26 info5 A0 c0 l0 a1 n (by omega) (by omega) hc0 w hr0
  obtain ⟨m, hm⟩ : ∃ m, m = (l0.drop a1.toNat).take n := ⟨_, rfl⟩
  rw [← hm] at hC ⊢
  have HM := Aside0.mk (show m.length = n ∧ Bytes m by rw [hm]; exact ⟨by rw [List.length_take, List.length_drop]; omega, (HB.out.drop _).take _⟩)
  have HC := Aside0.mk hC
  have s0 : 0 ≤ a1 + (n : Int) := by omega
  have s1 : a1 + (n : Int) ≤ 2000000000000 := by omega
  have s2 : (n : Int) ≤ 8 := by omega
  clear hm hC hr0 hc0 HB hll hn0 c3 c1 c2 HL
  go_enter Try.func41, Try.ntmps41
  go_wp2
  clear d0 d1 b1 b2 b3 hcut
  go_loopg [9, 35] n (fun kq v9 v35 w' => ∃ (i : Nat), v9 = .int .u64 (bev (m.take i)) ∧ v35 = .int .i64 i ∧ Aside0 (i + kq = n) ∧ Drawn0 w w')
  case atStart => exact ⟨0, by simp [bev_nil], by simp, ⟨by omega⟩, Drawn0.refl _⟩
  case round =>
    obtain ⟨i, rfl, rfl, HI, ⟨nd, rfl⟩⟩ := hrel
    cases gk with
    | zero =>
      have hi : i = n := by have := HI.out; omega
      subst hi
      go_wp2
      go_ret3
      refine ⟨?_, by repeat (first | exact Drawn0.refl _ | apply Drawn0.step)⟩
      rw [List.take_of_length_le (by rw [HM.out.1]; exact Nat.le_refl _)]
      rfl
    | succ k1 =>
      have hlt : i < n := by have := HI.out; omega
      obtain ⟨ad, hA, hcell⟩ := Kd.at_int HC.out (i : Int) (by omega) (by omega)
      cases hA
      simp only [Int.toNat_natCast] at hcell
      go_wp2
      go_roundg k1
      case measure => omega
      case rel =>
        have hr := bev_range (m.take i) (HM.out.2.take i)
        have hb := rd_byte m HM.out.2 i
        have hml := HM.out.1
        have hp : (256 : Int) ^ (m.take i).length ≤ 256 ^ 7 := pow256_le _ _ (by rw [List.length_take]; omega)
        have h7 : (256 : Int) ^ 7 = 72057594037927936 := by decide
        refine ⟨i + 1, ?_, by simp, ⟨by have := HI.out; omega⟩, by repeat (first | exact Drawn0.refl _ | apply Drawn0.step)⟩
        rw [or_byte _ _ hr.1 (by omega) hb.1 hb.2, ← take_bev m i (by omega)]
theorem wire_number.calls (A0 : Option Addr) (c0 : Nat) (l0 : List Int) (a1 : Int) (a2 : Int) (r1 : Int) (r2 : Int) (r3 : Int) (w : World) (hr0 : Kd.C (Kd.int .u8) w A0 l0.length l0) (hc0 : l0.length ≤ c0) (h : wire_number.f l0 a1 a2 = some (r1, r2, r3)) :
    Calls Try.prog 41 #[.slice A0 l0.length c0, .int .i64 a1, .int .i64 a2] w fun e w' => e = .returned (.tuple #[.int .u64 r1, .int .i64 r2, .int .i64 r3]) ∧ Below w.heap.size w w' :=
  (wire_number.drawn A0 c0 l0 a1 a2 r1 r2 r3 w hr0 hc0 h).mono fun _ _ ⟨he, hd⟩ => ⟨he, hd.below⟩
end Go.Proofs.Ytfigbjjaffkidaa.P
