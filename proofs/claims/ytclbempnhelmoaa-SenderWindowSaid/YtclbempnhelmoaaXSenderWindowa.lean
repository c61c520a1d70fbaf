/- Walks. -/
import Derived.Test.YtclbempnhelmoaaXSenderWindowWWords
import Derived.Test.YtclbempnhelmoaaXSenderWindowWMore
import Derived.Test.YtclbempnhelmoaaProg
import Derived.Below
import Derived.Deep.Draws
import Derived.Deep.AppendLies
import Derived.Maps.AppendAt
import Derived.OwnWalk
import Derived.Laws.BytesArg
import Derived.Laws.MakeOwn
import Derived.Laws.OwnMore
import Derived.Deep.OwnRows
import Derived.Tactics
import Derived.Lib.ConvBytes
import Derived.Laws.Slices
import Derived.WalkKit
import Derived.KernelRfl
import Derived.RowKit3
import Derived.Deep.LoopGhost
import Derived.Deep.QuietTactic
import Derived.BigQuiet
import Derived.WideLaws
import Derived.Deep.DeepCutAuto
import Derived.Deep.CutBlock
import Derived.Deep.RegionHeld3
import Derived.Laws.Rows
import Derived.Lib.AppendStr
import Derived.ArgAppend
import Derived.Laws.IdiomCopy
import Derived.OrdersHeld
import Derived.Laws.BitsLemmas
import Derived.RowKit
import Derived.Test.YtclbempnhelmoaaXSenderWindowWLast
import Derived.Test.YtclbempnhelmoaaXSenderWindowWTab
import Derived.Test.YtclbempnhelmoaaXSenderWindowWFour
import Derived.Test.YtclbempnhelmoaaXSenderWindowWQPut
import Derived.Test.YtclbempnhelmoaaXSenderWindowWApart
import Derived.Test.YtclbempnhelmoaaXSenderWindowWArr
import Derived.Test.YtclbempnhelmoaaXSenderWindowWZeros
import Derived.Test.YtclbempnhelmoaaXSenderWindowWFoot
import Derived.Test.YtclbempnhelmoaaXSenderWindowWKept
import Derived.Test.YtclbempnhelmoaaXSenderWindowWShare
import Derived.Test.YtclbempnhelmoaaXSenderWindowWN
import Derived.Test.YtclbempnhelmoaaXSenderWindowWFootNe
import Derived.Test.YtclbempnhelmoaaXSenderWindowWAt
import Derived.Test.YtclbempnhelmoaaXSenderWindowWEqStruct
import Derived.Test.YtclbempnhelmoaaXSenderWindowWRepsOne
import Derived.Test.YtclbempnhelmoaaXSenderWindowWInv
import Derived.Test.YtclbempnhelmoaaXSenderWindowWInvWords
import Derived.Test.YtclbempnhelmoaaXSenderWindowWGuard
import Derived.Test.YtclbempnhelmoaaXSenderWindowWNEv
import Derived.Tactics2
import Derived.Laws.LoneSync
import Derived.Lib.SliceRun
import Derived.Laws.BitsAllLaws
import Derived.OpenShut
set_option linter.unusedVariables false
set_option linter.unusedSimpArgs false
set_option maxHeartbeats 8000000
set_option maxRecDepth 100000
namespace Go.Proofs.YtclbempnhelmoaaW.PrintWords.Kd
open Go.RowKit YtclbempnhelmoaaW.PrintWords
section
variable {P : Program} {ops : Array Oper} {rest : List Oper} {o : Oper} {a : Act} {Q : Exit → Act → World → Prop} {α : Type}
theorem R_make0 (d : Kd α) {w0 W : World} (base e : Nat) (hgd : o.guard = none) {N : Tmp} (_hd : o.dst = some N) (t : TypeId) (x y : Operand) (ho : o.op = .makeSlice t x y) (n : Int) (hx : a.eval x = .int .i64 0) (hy : a.eval y = .int .i64 n)
  (ht : P.underlying t = some (.slice e)) (z : Value) (bytes : Nat) (hinfo : (P.info? e).map (fun i => (i.zero, i.size, i.bytes)) = some (some z, d.sz, bytes)) (hb0 : 0 < bytes)
  {ok : Nat → Prop} (hfresh : ok W.heap.size) (h0 : 0 ≤ n) (hl : n.toNat * bytes ≤ 281474976710656) (HB : Below base w0 W) (hbase : base ≤ W.heap.size)
  (h : ∀ v1 w1, d.R e w1 base ok v1 [] → Below base w0 w1 → W.grownBy w1 none → (∃ b, v1.ownBlock = some b ∧ W.heap.size ≤ b) → wpList P ops Q rest (a.put o.dst v1) w1) : wpList P ops Q (o :: rest) a W := by
 obtain ⟨m, rfl⟩ := Int.eq_ofNat_of_zero_le h0
 simp only [Int.toNat_natCast] at hl
 obtain ⟨i0, hi, hzz⟩ := Option.map_eq_some_iff.1 hinfo
 simp only [Prod.mk.injEq] at hzz
 obtain ⟨hz0, hz1, hz2⟩ := hzz
 have hm : m ≤ 281474976710656 := Nat.le_trans (Nat.le_mul_of_pos_right _ hb0) hl
 obtain ⟨w', hr, hown, hg⟩ := run_make_own (P := P) W base t e i0 z d.sz ht hi hz0 hz1 .i64 .i64 m (by rw [hz2, Nat.mul_comm]; exact hl) (by unfold maxLen; omega) hbase
 refine event_run hgd (v := .slice (some ⟨W.heap.size, 0, none⟩) 0 m) (w1 := w') (by simp [execOp, ho, hx, hy, hr]) (h _ _ ⟨fun k hk => ?_, [], hown, Reps.none _ _⟩ (HB.grown hg hbase (by simp)) hg ⟨W.heap.size, by simp [Value.ownBlock], Nat.le_refl _⟩)
 have : W.heap.size = k := by simpa [Value.ownBlock] using hk
 subst this
 exact hfresh
end
end Go.Proofs.YtclbempnhelmoaaW.PrintWords.Kd
namespace Go.Proofs.Ytclbempnhelmoaa.P
open Go.RowKit YtclbempnhelmoaaW.PrintWords YtclbempnhelmoaaW.PrintLast YtclbempnhelmoaaW.PrintMore
attribute [local go_sem] max2_int min2_int max_two min_two max_three min_three max_four min_four
def errW : Option Int → Value
 | none => .nilIface
 | some c => .iface 0 (.int .i64 c)
theorem errW_none : errW none = .nilIface := rfl
theorem errW_some (c : Int) : errW (some c) = .iface 0 (.int .i64 c) := rfl
theorem info5 : (Try.prog.info? 5).map (fun i => (i.zero, i.size, i.bytes)) = some (some (.int .u8 0), 1, 1) := by kernel_rfl
theorem info34 : (Try.prog.info? 34).map (fun i => (i.zero, i.size, i.bytes)) = some (some (.agg #[(.int .i64 0), (.int .i64 0), (.bool false), (.int .i64 0), (.int .i64 0), (.int .i64 0), (.int .i64 0), (.int .i64 0), (.int .i64 0), (.int .i64 0), (.int .i64 0), (.int .i64 0)]), 12, 96) := by kernel_rfl
theorem info48 : (Try.prog.info? 48).map (fun i => (i.zero, i.size, i.bytes)) = some (some (.agg #[(.int .i64 0), (.slice none 0 0)]), 2, 32) := by kernel_rfl
theorem info89 : (Try.prog.info? 89).map (fun i => (i.zero, i.size, i.bytes)) = some (some (.int .u16 0), 1, 2) := by kernel_rfl
structure S30 where
 f0 : Bool
 f1 : Int
 f2 : Int
 f3 : Int
 f4 : Int
 f5 : Int
def z30 : S30 := ⟨false, (0 : Int), (0 : Int), (0 : Int), (0 : Int), (0 : Int)⟩
def k30 : Kd S30 := Kd.iso (Kd.pair Kd.bool (Kd.pair (Kd.int .i64) (Kd.pair (Kd.int .i64) (Kd.pair (Kd.int .i64) (Kd.pair (Kd.int .i64) (Kd.int .i64)))))) (fun x : S30 => (x.f0, x.f1, x.f2, x.f3, x.f4, x.f5))
theorem k30_open {w : World} {x : S30} {cs : List Value} (h : k30.K w x cs) : cs = [.bool x.f0, .int .i64 x.f1, .int .i64 x.f2, .int .i64 x.f3, .int .i64 x.f4, .int .i64 x.f5] := by
 obtain ⟨_, _, rfl, rfl, ⟨_, _, rfl, rfl, ⟨_, _, rfl, rfl, ⟨_, _, rfl, rfl, ⟨_, _, rfl, rfl, rfl⟩⟩⟩⟩⟩ := h
 exact rfl
theorem k30_openM {w : World} {base : Nat} {ok : Nat → Prop} {x : S30} {cs : List Value} (h : k30.M w base ok x cs) : cs = [.bool x.f0, .int .i64 x.f1, .int .i64 x.f2, .int .i64 x.f3, .int .i64 x.f4, .int .i64 x.f5] := by
 obtain ⟨_, _, rfl, rfl, ⟨_, _, rfl, rfl, ⟨_, _, rfl, rfl, ⟨_, _, rfl, rfl, ⟨_, _, rfl, rfl, rfl⟩⟩⟩⟩⟩ := h
 exact rfl
theorem k30_mk (w : World) (x : S30)  : k30.K w x [.bool x.f0, .int .i64 x.f1, .int .i64 x.f2, .int .i64 x.f3, .int .i64 x.f4, .int .i64 x.f5] := ⟨[.bool x.f0], [.int .i64 x.f1, .int .i64 x.f2, .int .i64 x.f3, .int .i64 x.f4, .int .i64 x.f5], rfl, rfl, ⟨[.int .i64 x.f1], [.int .i64 x.f2, .int .i64 x.f3, .int .i64 x.f4, .int .i64 x.f5], rfl, rfl, ⟨[.int .i64 x.f2], [.int .i64 x.f3, .int .i64 x.f4, .int .i64 x.f5], rfl, rfl, ⟨[.int .i64 x.f3], [.int .i64 x.f4, .int .i64 x.f5], rfl, rfl, ⟨[.int .i64 x.f4], [.int .i64 x.f5], rfl, rfl, rfl⟩⟩⟩⟩⟩
theorem k30_mkM (w : World) (base : Nat) (ok : Nat → Prop) (x : S30)  : k30.M w base ok x [.bool x.f0, .int .i64 x.f1, .int .i64 x.f2, .int .i64 x.f3, .int .i64 x.f4, .int .i64 x.f5] := ⟨[.bool x.f0], [.int .i64 x.f1, .int .i64 x.f2, .int .i64 x.f3, .int .i64 x.f4, .int .i64 x.f5], rfl, rfl, ⟨[.int .i64 x.f1], [.int .i64 x.f2, .int .i64 x.f3, .int .i64 x.f4, .int .i64 x.f5], rfl, rfl, ⟨[.int .i64 x.f2], [.int .i64 x.f3, .int .i64 x.f4, .int .i64 x.f5], rfl, rfl, ⟨[.int .i64 x.f3], [.int .i64 x.f4, .int .i64 x.f5], rfl, rfl, ⟨[.int .i64 x.f4], [.int .i64 x.f5], rfl, rfl, rfl⟩⟩⟩⟩⟩
structure S32 where
 f0 : Int
 f1 : Int
 f2 : Int
def z32 : S32 := ⟨(0 : Int), (0 : Int), (0 : Int)⟩
def k32 : Kd S32 := Kd.iso (Kd.pair (Kd.int .i64) (Kd.pair (Kd.int .i64) (Kd.int .i64))) (fun x : S32 => (x.f0, x.f1, x.f2))
theorem k32_open {w : World} {x : S32} {cs : List Value} (h : k32.K w x cs) : cs = [.int .i64 x.f0, .int .i64 x.f1, .int .i64 x.f2] := by
 obtain ⟨_, _, rfl, rfl, ⟨_, _, rfl, rfl, rfl⟩⟩ := h
 exact rfl
theorem k32_openM {w : World} {base : Nat} {ok : Nat → Prop} {x : S32} {cs : List Value} (h : k32.M w base ok x cs) : cs = [.int .i64 x.f0, .int .i64 x.f1, .int .i64 x.f2] := by
 obtain ⟨_, _, rfl, rfl, ⟨_, _, rfl, rfl, rfl⟩⟩ := h
 exact rfl
theorem k32_mk (w : World) (x : S32)  : k32.K w x [.int .i64 x.f0, .int .i64 x.f1, .int .i64 x.f2] := ⟨[.int .i64 x.f0], [.int .i64 x.f1, .int .i64 x.f2], rfl, rfl, ⟨[.int .i64 x.f1], [.int .i64 x.f2], rfl, rfl, rfl⟩⟩
theorem k32_mkM (w : World) (base : Nat) (ok : Nat → Prop) (x : S32)  : k32.M w base ok x [.int .i64 x.f0, .int .i64 x.f1, .int .i64 x.f2] := ⟨[.int .i64 x.f0], [.int .i64 x.f1, .int .i64 x.f2], rfl, rfl, ⟨[.int .i64 x.f1], [.int .i64 x.f2], rfl, rfl, rfl⟩⟩
structure S34 where
 f0 : Int
 f1 : Int
 f2 : S30
 f3 : S32
 f4 : Int
def z34 : S34 := ⟨(0 : Int), (0 : Int), z30, z32, (0 : Int)⟩
def k34 : Kd S34 := Kd.iso (Kd.pair (Kd.int .i64) (Kd.pair (Kd.int .i64) (Kd.pair k30 (Kd.pair k32 (Kd.int .i64))))) (fun x : S34 => (x.f0, x.f1, x.f2, x.f3, x.f4))
theorem k34_open {w : World} {x : S34} {cs : List Value} (h : k34.K w x cs) : cs = [.int .i64 x.f0, .int .i64 x.f1, .bool x.f2.f0, .int .i64 x.f2.f1, .int .i64 x.f2.f2, .int .i64 x.f2.f3, .int .i64 x.f2.f4, .int .i64 x.f2.f5, .int .i64 x.f3.f0, .int .i64 x.f3.f1, .int .i64 x.f3.f2, .int .i64 x.f4] := by
 obtain ⟨_, _, rfl, rfl, ⟨_, _, rfl, rfl, ⟨_, _, rfl, s2, ⟨_, _, rfl, s8, rfl⟩⟩⟩⟩ := h
 obtain rfl := k30_open s2
 obtain rfl := k32_open s8
 exact rfl
theorem k34_openM {w : World} {base : Nat} {ok : Nat → Prop} {x : S34} {cs : List Value} (h : k34.M w base ok x cs) : cs = [.int .i64 x.f0, .int .i64 x.f1, .bool x.f2.f0, .int .i64 x.f2.f1, .int .i64 x.f2.f2, .int .i64 x.f2.f3, .int .i64 x.f2.f4, .int .i64 x.f2.f5, .int .i64 x.f3.f0, .int .i64 x.f3.f1, .int .i64 x.f3.f2, .int .i64 x.f4] := by
 obtain ⟨_, _, rfl, rfl, ⟨_, _, rfl, rfl, ⟨_, _, rfl, s2, ⟨_, _, rfl, s8, rfl⟩⟩⟩⟩ := h
 obtain rfl := k30_openM s2
 obtain rfl := k32_openM s8
 exact rfl
theorem k34_mk (w : World) (x : S34)  : k34.K w x [.int .i64 x.f0, .int .i64 x.f1, .bool x.f2.f0, .int .i64 x.f2.f1, .int .i64 x.f2.f2, .int .i64 x.f2.f3, .int .i64 x.f2.f4, .int .i64 x.f2.f5, .int .i64 x.f3.f0, .int .i64 x.f3.f1, .int .i64 x.f3.f2, .int .i64 x.f4] := ⟨[.int .i64 x.f0], [.int .i64 x.f1, .bool x.f2.f0, .int .i64 x.f2.f1, .int .i64 x.f2.f2, .int .i64 x.f2.f3, .int .i64 x.f2.f4, .int .i64 x.f2.f5, .int .i64 x.f3.f0, .int .i64 x.f3.f1, .int .i64 x.f3.f2, .int .i64 x.f4], rfl, rfl, ⟨[.int .i64 x.f1], [.bool x.f2.f0, .int .i64 x.f2.f1, .int .i64 x.f2.f2, .int .i64 x.f2.f3, .int .i64 x.f2.f4, .int .i64 x.f2.f5, .int .i64 x.f3.f0, .int .i64 x.f3.f1, .int .i64 x.f3.f2, .int .i64 x.f4], rfl, rfl, ⟨[.bool x.f2.f0, .int .i64 x.f2.f1, .int .i64 x.f2.f2, .int .i64 x.f2.f3, .int .i64 x.f2.f4, .int .i64 x.f2.f5], [.int .i64 x.f3.f0, .int .i64 x.f3.f1, .int .i64 x.f3.f2, .int .i64 x.f4], rfl, (k30_mk w x.f2 ), ⟨[.int .i64 x.f3.f0, .int .i64 x.f3.f1, .int .i64 x.f3.f2], [.int .i64 x.f4], rfl, (k32_mk w x.f3 ), rfl⟩⟩⟩⟩
theorem k34_mkM (w : World) (base : Nat) (ok : Nat → Prop) (x : S34)  : k34.M w base ok x [.int .i64 x.f0, .int .i64 x.f1, .bool x.f2.f0, .int .i64 x.f2.f1, .int .i64 x.f2.f2, .int .i64 x.f2.f3, .int .i64 x.f2.f4, .int .i64 x.f2.f5, .int .i64 x.f3.f0, .int .i64 x.f3.f1, .int .i64 x.f3.f2, .int .i64 x.f4] := ⟨[.int .i64 x.f0], [.int .i64 x.f1, .bool x.f2.f0, .int .i64 x.f2.f1, .int .i64 x.f2.f2, .int .i64 x.f2.f3, .int .i64 x.f2.f4, .int .i64 x.f2.f5, .int .i64 x.f3.f0, .int .i64 x.f3.f1, .int .i64 x.f3.f2, .int .i64 x.f4], rfl, rfl, ⟨[.int .i64 x.f1], [.bool x.f2.f0, .int .i64 x.f2.f1, .int .i64 x.f2.f2, .int .i64 x.f2.f3, .int .i64 x.f2.f4, .int .i64 x.f2.f5, .int .i64 x.f3.f0, .int .i64 x.f3.f1, .int .i64 x.f3.f2, .int .i64 x.f4], rfl, rfl, ⟨[.bool x.f2.f0, .int .i64 x.f2.f1, .int .i64 x.f2.f2, .int .i64 x.f2.f3, .int .i64 x.f2.f4, .int .i64 x.f2.f5], [.int .i64 x.f3.f0, .int .i64 x.f3.f1, .int .i64 x.f3.f2, .int .i64 x.f4], rfl, (k30_mkM w base ok x.f2 ), ⟨[.int .i64 x.f3.f0, .int .i64 x.f3.f1, .int .i64 x.f3.f2], [.int .i64 x.f4], rfl, (k32_mkM w base ok x.f3 ), rfl⟩⟩⟩⟩
def rd_T34 (xs : List S34) (i : Int) : S34 := xs.getD i.toNat z34
theorem at_T34 {w : World} {A : Option Addr} {n : Nat} {xs : List S34} (h : Kd.C k34 w A n xs) (i : Int) (h0 : 0 ≤ i) (h1 : i < n) : ∃ ad , A = some ad ∧ w.cell? (ad.add (i.toNat * 12)) = some (.int .i64 (rd_T34 xs i).f0) ∧ w.cell? ⟨(ad.add (i.toNat * 12)).block, (ad.add (i.toNat * 12)).off + 1, none⟩ = some (.int .i64 (rd_T34 xs i).f1) ∧ w.cell? ⟨(ad.add (i.toNat * 12)).block, (ad.add (i.toNat * 12)).off + 2, none⟩ = some (.bool (rd_T34 xs i).f2.f0) ∧ w.cell? ⟨(ad.add (i.toNat * 12)).block, (ad.add (i.toNat * 12)).off + 3, none⟩ = some (.int .i64 (rd_T34 xs i).f2.f1) ∧ w.cell? ⟨(ad.add (i.toNat * 12)).block, (ad.add (i.toNat * 12)).off + 4, none⟩ = some (.int .i64 (rd_T34 xs i).f2.f2) ∧ w.cell? ⟨(ad.add (i.toNat * 12)).block, (ad.add (i.toNat * 12)).off + 5, none⟩ = some (.int .i64 (rd_T34 xs i).f2.f3) ∧ w.cell? ⟨(ad.add (i.toNat * 12)).block, (ad.add (i.toNat * 12)).off + 6, none⟩ = some (.int .i64 (rd_T34 xs i).f2.f4) ∧ w.cell? ⟨(ad.add (i.toNat * 12)).block, (ad.add (i.toNat * 12)).off + 7, none⟩ = some (.int .i64 (rd_T34 xs i).f2.f5) ∧ w.cell? ⟨(ad.add (i.toNat * 12)).block, (ad.add (i.toNat * 12)).off + 8, none⟩ = some (.int .i64 (rd_T34 xs i).f3.f0) ∧ w.cell? ⟨(ad.add (i.toNat * 12)).block, (ad.add (i.toNat * 12)).off + 9, none⟩ = some (.int .i64 (rd_T34 xs i).f3.f1) ∧ w.cell? ⟨(ad.add (i.toNat * 12)).block, (ad.add (i.toNat * 12)).off + 10, none⟩ = some (.int .i64 (rd_T34 xs i).f3.f2) ∧ w.cell? ⟨(ad.add (i.toNat * 12)).block, (ad.add (i.toNat * 12)).off + 11, none⟩ = some (.int .i64 (rd_T34 xs i).f4) := by
 obtain ⟨ad, c, e, _, hK, hc0⟩ := Kd.C_get h z34 i h0 h1
 have hc : ∀ j u, c[j]? = some u → w.cell? (ad.add (i.toNat * 12 + j)) = some u := hc0
 obtain rfl := k34_open hK
 exact ⟨ad, e, hc 0 _ rfl, by rw [← add_field _ _ 1 (by omega)]; exact hc 1 _ rfl, by rw [← add_field _ _ 2 (by omega)]; exact hc 2 _ rfl, by rw [← add_field _ _ 3 (by omega)]; exact hc 3 _ rfl, by rw [← add_field _ _ 4 (by omega)]; exact hc 4 _ rfl, by rw [← add_field _ _ 5 (by omega)]; exact hc 5 _ rfl, by rw [← add_field _ _ 6 (by omega)]; exact hc 6 _ rfl, by rw [← add_field _ _ 7 (by omega)]; exact hc 7 _ rfl, by rw [← add_field _ _ 8 (by omega)]; exact hc 8 _ rfl, by rw [← add_field _ _ 9 (by omega)]; exact hc 9 _ rfl, by rw [← add_field _ _ 10 (by omega)]; exact hc 10 _ rfl, by rw [← add_field _ _ 11 (by omega)]; exact hc 11 _ rfl⟩
structure S48 where
 f0 : Int
 f1 : (List S34)
def z48 : S48 := ⟨(0 : Int), ([] : List S34)⟩
def k48 : Kd S48 := Kd.iso (Kd.pair (Kd.int .i64) (Kd.slice 34 k34)) (fun x : S48 => (x.f0, x.f1))
theorem k48_open {w : World} {x : S48} {cs : List Value} (h : k48.K w x cs) : ∃ A1 c1, cs = [.int .i64 x.f0, .slice A1 x.f1.length c1] ∧ x.f1.length ≤ c1 ∧ k34.C w A1 x.f1.length x.f1 := by
 obtain ⟨_, _, rfl, rfl, ⟨A1, c1, rfl, l1, g1⟩⟩ := h
 exact ⟨A1, c1, rfl, l1, g1⟩
theorem k48_openM {w : World} {base : Nat} {ok : Nat → Prop} {x : S48} {cs : List Value} (h : k48.M w base ok x cs) : ∃ v1, cs = [.int .i64 x.f0, v1] ∧ k34.R 34 w base ok v1 x.f1 := by
 obtain ⟨_, _, rfl, rfl, ⟨v1, rfl, g1⟩⟩ := h
 exact ⟨v1, rfl, g1⟩
theorem k48_mkM (w : World) (base : Nat) (ok : Nat → Prop) (x : S48) {v1 : Value} (g1 : k34.R 34 w base ok v1 x.f1) : k48.M w base ok x [.int .i64 x.f0, v1] := ⟨[.int .i64 x.f0], [v1], rfl, rfl, ⟨v1, rfl, g1⟩⟩
def rd_T48 (xs : List S48) (i : Int) : S48 := xs.getD i.toNat z48
theorem at_T48 {w : World} {A : Option Addr} {n : Nat} {xs : List S48} (h : Kd.C k48 w A n xs) (i : Int) (h0 : 0 ≤ i) (h1 : i < n) : ∃ ad A1 c1, A = some ad ∧ w.cell? (ad.add (i.toNat * 2)) = some (.int .i64 (rd_T48 xs i).f0) ∧ w.cell? ⟨(ad.add (i.toNat * 2)).block, (ad.add (i.toNat * 2)).off + 1, none⟩ = some (.slice A1 (rd_T48 xs i).f1.length c1) ∧ (rd_T48 xs i).f1.length ≤ c1 ∧ k34.C w A1 (rd_T48 xs i).f1.length (rd_T48 xs i).f1 := by
 obtain ⟨ad, c, e, _, hK, hc0⟩ := Kd.C_get h z48 i h0 h1
 have hc : ∀ j u, c[j]? = some u → w.cell? (ad.add (i.toNat * 2 + j)) = some u := hc0
 obtain ⟨A1, c1, rfl, l1, g1⟩ := k48_open hK
 exact ⟨ad, A1, c1, e, hc 0 _ rfl, by rw [← add_field _ _ 1 (by omega)]; exact hc 1 _ rfl, l1, g1⟩
structure S36 where
 f0 : Int
 f1 : Int
 f2 : Int
 f3 : Int
def z36 : S36 := ⟨(0 : Int), (0 : Int), (0 : Int), (0 : Int)⟩
def k36 : Kd S36 := Kd.iso (Kd.pair (Kd.int .i64) (Kd.pair (Kd.int .i64) (Kd.pair (Kd.int .i64) (Kd.int .i64)))) (fun x : S36 => (x.f0, x.f1, x.f2, x.f3))
theorem k36_open {w : World} {x : S36} {cs : List Value} (h : k36.K w x cs) : cs = [.int .i64 x.f0, .int .i64 x.f1, .int .i64 x.f2, .int .i64 x.f3] := by
 obtain ⟨_, _, rfl, rfl, ⟨_, _, rfl, rfl, ⟨_, _, rfl, rfl, rfl⟩⟩⟩ := h
 exact rfl
structure S38 where
 f0 : Int
 f1 : S34
 f2 : S36
def z38 : S38 := ⟨(0 : Int), z34, z36⟩
def k38 : Kd S38 := Kd.iso (Kd.pair (Kd.int .i64) (Kd.pair k34 k36)) (fun x : S38 => (x.f0, x.f1, x.f2))
theorem k38_open {w : World} {x : S38} {cs : List Value} (h : k38.K w x cs) : cs = [.int .i64 x.f0, .int .i64 x.f1.f0, .int .i64 x.f1.f1, .bool x.f1.f2.f0, .int .i64 x.f1.f2.f1, .int .i64 x.f1.f2.f2, .int .i64 x.f1.f2.f3, .int .i64 x.f1.f2.f4, .int .i64 x.f1.f2.f5, .int .i64 x.f1.f3.f0, .int .i64 x.f1.f3.f1, .int .i64 x.f1.f3.f2, .int .i64 x.f1.f4, .int .i64 x.f2.f0, .int .i64 x.f2.f1, .int .i64 x.f2.f2, .int .i64 x.f2.f3] := by
 obtain ⟨_, _, rfl, rfl, ⟨_, _, rfl, s1, s13⟩⟩ := h
 obtain rfl := k34_open s1
 obtain rfl := k36_open s13
 exact rfl
def rd_T38 (xs : List S38) (i : Int) : S38 := xs.getD i.toNat z38
theorem at_T38 {w : World} {A : Option Addr} {n : Nat} {xs : List S38} (h : Kd.C k38 w A n xs) (i : Int) (h0 : 0 ≤ i) (h1 : i < n) : ∃ ad , A = some ad ∧ w.cell? (ad.add (i.toNat * 17)) = some (.int .i64 (rd_T38 xs i).f0) ∧ w.cell? ⟨(ad.add (i.toNat * 17)).block, (ad.add (i.toNat * 17)).off + 1, none⟩ = some (.int .i64 (rd_T38 xs i).f1.f0) ∧ w.cell? ⟨(ad.add (i.toNat * 17)).block, (ad.add (i.toNat * 17)).off + 2, none⟩ = some (.int .i64 (rd_T38 xs i).f1.f1) ∧ w.cell? ⟨(ad.add (i.toNat * 17)).block, (ad.add (i.toNat * 17)).off + 3, none⟩ = some (.bool (rd_T38 xs i).f1.f2.f0) ∧ w.cell? ⟨(ad.add (i.toNat * 17)).block, (ad.add (i.toNat * 17)).off + 4, none⟩ = some (.int .i64 (rd_T38 xs i).f1.f2.f1) ∧ w.cell? ⟨(ad.add (i.toNat * 17)).block, (ad.add (i.toNat * 17)).off + 5, none⟩ = some (.int .i64 (rd_T38 xs i).f1.f2.f2) ∧ w.cell? ⟨(ad.add (i.toNat * 17)).block, (ad.add (i.toNat * 17)).off + 6, none⟩ = some (.int .i64 (rd_T38 xs i).f1.f2.f3) ∧ w.cell? ⟨(ad.add (i.toNat * 17)).block, (ad.add (i.toNat * 17)).off + 7, none⟩ = some (.int .i64 (rd_T38 xs i).f1.f2.f4) ∧ w.cell? ⟨(ad.add (i.toNat * 17)).block, (ad.add (i.toNat * 17)).off + 8, none⟩ = some (.int .i64 (rd_T38 xs i).f1.f2.f5) ∧ w.cell? ⟨(ad.add (i.toNat * 17)).block, (ad.add (i.toNat * 17)).off + 9, none⟩ = some (.int .i64 (rd_T38 xs i).f1.f3.f0) ∧ w.cell? ⟨(ad.add (i.toNat * 17)).block, (ad.add (i.toNat * 17)).off + 10, none⟩ = some (.int .i64 (rd_T38 xs i).f1.f3.f1) ∧ w.cell? ⟨(ad.add (i.toNat * 17)).block, (ad.add (i.toNat * 17)).off + 11, none⟩ = some (.int .i64 (rd_T38 xs i).f1.f3.f2) ∧ w.cell? ⟨(ad.add (i.toNat * 17)).block, (ad.add (i.toNat * 17)).off + 12, none⟩ = some (.int .i64 (rd_T38 xs i).f1.f4) ∧ w.cell? ⟨(ad.add (i.toNat * 17)).block, (ad.add (i.toNat * 17)).off + 13, none⟩ = some (.int .i64 (rd_T38 xs i).f2.f0) ∧ w.cell? ⟨(ad.add (i.toNat * 17)).block, (ad.add (i.toNat * 17)).off + 14, none⟩ = some (.int .i64 (rd_T38 xs i).f2.f1) ∧ w.cell? ⟨(ad.add (i.toNat * 17)).block, (ad.add (i.toNat * 17)).off + 15, none⟩ = some (.int .i64 (rd_T38 xs i).f2.f2) ∧ w.cell? ⟨(ad.add (i.toNat * 17)).block, (ad.add (i.toNat * 17)).off + 16, none⟩ = some (.int .i64 (rd_T38 xs i).f2.f3) := by
 obtain ⟨ad, c, e, _, hK, hc0⟩ := Kd.C_get h z38 i h0 h1
 have hc : ∀ j u, c[j]? = some u → w.cell? (ad.add (i.toNat * 17 + j)) = some u := hc0
 obtain rfl := k38_open hK
 exact ⟨ad, e, hc 0 _ rfl, by rw [← add_field _ _ 1 (by omega)]; exact hc 1 _ rfl, by rw [← add_field _ _ 2 (by omega)]; exact hc 2 _ rfl, by rw [← add_field _ _ 3 (by omega)]; exact hc 3 _ rfl, by rw [← add_field _ _ 4 (by omega)]; exact hc 4 _ rfl, by rw [← add_field _ _ 5 (by omega)]; exact hc 5 _ rfl, by rw [← add_field _ _ 6 (by omega)]; exact hc 6 _ rfl, by rw [← add_field _ _ 7 (by omega)]; exact hc 7 _ rfl, by rw [← add_field _ _ 8 (by omega)]; exact hc 8 _ rfl, by rw [← add_field _ _ 9 (by omega)]; exact hc 9 _ rfl, by rw [← add_field _ _ 10 (by omega)]; exact hc 10 _ rfl, by rw [← add_field _ _ 11 (by omega)]; exact hc 11 _ rfl, by rw [← add_field _ _ 12 (by omega)]; exact hc 12 _ rfl, by rw [← add_field _ _ 13 (by omega)]; exact hc 13 _ rfl, by rw [← add_field _ _ 14 (by omega)]; exact hc 14 _ rfl, by rw [← add_field _ _ 15 (by omega)]; exact hc 15 _ rfl, by rw [← add_field _ _ 16 (by omega)]; exact hc 16 _ rfl⟩
end Go.Proofs.Ytclbempnhelmoaa.P
namespace Go.Proofs.Ytclbempnhelmoaa.P
open Go.RowKit YtclbempnhelmoaaW.PrintWords YtclbempnhelmoaaW.PrintLast YtclbempnhelmoaaW.PrintMore
theorem at_store (b : Nat) (x y : Int) (w : World) (hc : w.cell? ⟨b, 0, none⟩ = some (.int .i32 x)) (hz : w.frozen? ⟨b, 0, none⟩ = false) :
  Calls Try.prog 29 #[.pointer (some ⟨b, 0, none⟩), .int .i32 y] w fun e w' => e = .returned (.tuple #[]) ∧ w' = w.setCell ⟨b, 0, none⟩ (.int .i32 y) := by
 have hst := run_call_store (P := Try.prog) Try.func53 (by kernel_rfl) (by kernel_rfl) (by kernel_rfl) (by kernel_rfl) (k := .i32) (y := y) hc hz
 go_enter Try.func29, Try.ntmps29
 go_wp2
 go_end0
 exact ⟨rfl, rfl⟩
theorem at_load (b : Nat) (x : Int) (w : World) (hc : w.cell? ⟨b, 0, none⟩ = some (.int .i32 x)) :
  Calls Try.prog 33 #[.pointer (some ⟨b, 0, none⟩)] w fun e w' => e = .returned (.int .i32 x) ∧ w' = w := by
 have hld := run_call_load (P := Try.prog) Try.func55 (by kernel_rfl) (by kernel_rfl) (by kernel_rfl) .i32 (by kernel_rfl) hc
 go_enter Try.func33, Try.ntmps33
 go_wp2
 go_ret
 exact ⟨rfl, rfl⟩
theorem at_add (b : Nat) (x y s : Int) (w : World) (hc : w.cell? ⟨b, 0, none⟩ = some (.int .i32 x)) (hz : w.frozen? ⟨b, 0, none⟩ = false) (hs : IntKind.i32.wrap (x + y) = s) :
  Calls Try.prog 34 #[.pointer (some ⟨b, 0, none⟩), .int .i32 y] w fun e w' => e = .returned (.int .i32 s) ∧ w' = w.setCell ⟨b, 0, none⟩ (.int .i32 s) := by
 have hadd := run_call_add (P := Try.prog) Try.func56 (by kernel_rfl) (by kernel_rfl) (by kernel_rfl) .i32 (by kernel_rfl) (y := y) (s := s) hc hz (by simp [go_sem, hs])
 go_enter Try.func34, Try.ntmps34
 go_wp2
 go_ret
 exact ⟨rfl, rfl⟩
theorem clo_nil (c : Nat) (Y : List S34) (w : World) (hr : Kd.C k34 w none Y.length Y) :
  Calls Try.prog 30 #[.slice none Y.length c] w fun e w' => ∃ v, e = .returned v ∧ Kd.R k34 34 w' w.heap.size (fun _ => True) v Y ∧ Below w.heap.size w w' := by
 have hY : Y = [] := by
  cases Y with
  | nil => rfl
  | cons o Y =>
   obtain ⟨ad, e, _⟩ := hr.2.2 (by simp)
   cases e
 subst hY
 clear hr
 have q22 := fun (w : World) (a : Option Addr) (n c n' c' : Nat) => Lib.run_eql_slice_nil (P := Try.prog) w 46 _ a n c n' c' Try.underlying46
 go_enter Try.func30, Try.ntmps30
 go_wp2
 go_ret
 exact ⟨_, rfl, Kd.R_nil _ _ _ _ _, Below.refl _ _⟩
theorem clo_some (ad : Addr) (c : Nat) (Y : List S34) (w : World) (hr : Kd.C k34 w (some ad) Y.length Y) (hl : Y.length ≤ 1000000000000) :
  Calls Try.prog 30 #[.slice (some ad) Y.length c] w fun e w' => ∃ v, e = .returned v ∧ Kd.R k34 34 w' w.heap.size (fun _ => True) v Y ∧ Below w.heap.size w w' := by
 have HR := Aside0.mk hr
 have HL := Aside0.mk hl
 clear hr hl
 have q22 := fun (w : World) (a : Option Addr) (n c n' c' : Nat) => Lib.run_eql_slice_nil (P := Try.prog) w 46 _ a n c n' c' Try.underlying46
 go_enter Try.func30, Try.ntmps30
 have HB5 := Aside0.mk (below_alloc (Below.refl w.heap.size w) (.cells #[] 34))
 have HO5 := Aside0.mk (show Kd.R k34 34 (w.alloc (.cells #[] 34)) w.heap.size (fun _ => True) (.slice (some ⟨w.heap.size, 0, none⟩) 0 0) [] from ⟨fun _ _ => trivial, [], World.ownsRow_made w #[] 0 (Nat.le_refl _) (Nat.zero_le _) (by simp), Reps.none _ _⟩)
 go_wp2_with (((with_reducible refine gate_builtin (b := .append) (xs := #[.tmp 5, .tmp 6]) rfl ?_); at_builtin; refine Kd.R_append_rows k34 (w0 := w) w.heap.size rfl (.tmp 5) (.tmp 6) 46 34 (.agg #[(.int .i64 0), (.int .i64 0), (.bool false), (.int .i64 0), (.int .i64 0), (.int .i64 0), (.int .i64 0), (.int .i64 0), (.int .i64 0), (.int .i64 0), (.int .i64 0), (.int .i64 0)]) 96 rfl Try.underlying46 info34 rfl (by decide) (by omega) (.slice (some ⟨w.heap.size, 0, none⟩) 0 0) ([] : List S34) Y _ _ _ (fun _ => True) (fun _ => False) rfl rfl ?aO ?aR (fun _ _ h => h) (fun _ h => h.elim) ?aF ?aB ?aS ?aL ?_; (case aR => exact Kd.C_below HR.out HB5.out); (case aB => exact HB5.out); (case aF => exact (fun _ _ => trivial)); (case aO => exact HO5.out); (case aS => exact below_size HB5.out); (case aL => have := HL.out; simp only [List.length_nil]; omega); intro v2 w2 ho hb hg hat; have HO := Aside0.mk ho; have HB := Aside0.mk hb; clear ho hb hg hat))
 go_ret
 rw [List.nil_append] at HO
 exact ⟨_, rfl, HO.out, HB.out⟩
def slices_CloneO.f (Y : List S34) : Option (List S34) := if Y.length ≤ 1000000000000 then some Y else none
theorem slices_CloneO.calls (A0 : Option Addr) (c0 : Nat) (l0 : List S34) (r : List S34) (w : World) (hr0 : Kd.C k34 w A0 l0.length l0) (h : slices_CloneO.f l0 = some r) :
  Calls Try.prog 30 #[.slice A0 l0.length c0] w fun e w' => ∃ v0_ : Value, e = .returned v0_ ∧ Kd.R k34 34 w' w.heap.size (fun _ => True) v0_ r ∧ Below w.heap.size w w' := by
 unfold slices_CloneO.f at h
 split at h
 ·rename_i hc
  cases h
  cases A0 with
  | none => exact clo_nil c0 l0 w hr0
  | some ad => exact clo_some ad c0 l0 w hr0 hc
 ·exact absurd h (by simp)
structure It where
 b : S48
 p : Nat
def zIt : It := ⟨z48, 0⟩
def kPt : Kd Nat := Kd.scalar (fun p : Nat => Value.pointer (some ⟨p, 0, none⟩)) (fun _ => rfl)
def kIt : Kd It := Kd.iso (Kd.pair k48 kPt) (fun x : It => (x.b, x.p))
theorem kIt_open {w : World} {x : It} {cs : List Value} (h : kIt.K w x cs) : ∃ A1 c1, cs = [.int .i64 x.b.f0, .slice A1 x.b.f1.length c1, .pointer (some ⟨x.p, 0, none⟩)] ∧ x.b.f1.length ≤ c1 ∧ k34.C w A1 x.b.f1.length x.b.f1 := by
 obtain ⟨_, _, rfl, h1, rfl⟩ := h
 obtain ⟨A1, c1, rfl, l1, g1⟩ := k48_open h1
 exact ⟨A1, c1, rfl, l1, g1⟩
theorem kIt_openM {w : World} {base : Nat} {ok : Nat → Prop} {x : It} {cs : List Value} (h : kIt.M w base ok x cs) : ∃ v1, cs = [.int .i64 x.b.f0, v1, .pointer (some ⟨x.p, 0, none⟩)] ∧ k34.R 34 w base ok v1 x.b.f1 := by
 obtain ⟨_, _, rfl, h1, rfl⟩ := h
 obtain ⟨v1, rfl, g1⟩ := k48_openM h1
 exact ⟨v1, rfl, g1⟩
theorem kIt_mkM (w : World) (base : Nat) (ok : Nat → Prop) (x : It) {v1 : Value} (g1 : k34.R 34 w base ok v1 x.b.f1) : kIt.M w base ok x [.int .i64 x.b.f0, v1, .pointer (some ⟨x.p, 0, none⟩)] := ⟨[.int .i64 x.b.f0, v1], [.pointer (some ⟨x.p, 0, none⟩)], rfl, k48_mkM w base ok x.b g1, rfl⟩
def rd_It (xs : List It) (i : Int) : It := xs.getD i.toNat zIt
theorem at_It {w : World} {A : Option Addr} {n : Nat} {xs : List It} (h : Kd.C kIt w A n xs) (i : Int) (h0 : 0 ≤ i) (h1 : i < n) : ∃ ad A1 c1, A = some ad ∧ w.cell? (ad.add (i.toNat * 3)) = some (.int .i64 (rd_It xs i).b.f0) ∧ w.cell? ⟨(ad.add (i.toNat * 3)).block, (ad.add (i.toNat * 3)).off + 1, none⟩ = some (.slice A1 (rd_It xs i).b.f1.length c1) ∧ w.cell? ⟨(ad.add (i.toNat * 3)).block, (ad.add (i.toNat * 3)).off + 2, none⟩ = some (.pointer (some ⟨(rd_It xs i).p, 0, none⟩)) ∧ (rd_It xs i).b.f1.length ≤ c1 ∧ k34.C w A1 (rd_It xs i).b.f1.length (rd_It xs i).b.f1 := by
 obtain ⟨ad, c, e, _, hK, hc0⟩ := Kd.C_get h zIt i h0 h1
 have hc : ∀ j u, c[j]? = some u → w.cell? (ad.add (i.toNat * 3 + j)) = some u := hc0
 obtain ⟨A1, c1, rfl, l1, g1⟩ := kIt_open hK
 exact ⟨ad, A1, c1, e, hc 0 _ rfl, by rw [← add_field _ _ 1 (by omega)]; exact hc 1 _ rfl, by rw [← add_field _ _ 2 (by omega)]; exact hc 2 _ rfl, l1, g1⟩
abbrev SdC (wn tr : Int) (vw vo : Value) (nx : Int) : Array Value := #[.int .i64 wn, .int .i64 tr, vw, vo, .int .i64 nx]
structure Sd (w0 w : World) (F : Nat → Prop) (g : Nat) (wn tr : Int) (W : List S34) (O : List (It × Int)) (nx : Int) (vw vo : Value) : Prop where
 bl : Below w0.heap.size w0 w
 blk : w.heap[g]? = some (.cells (SdC wn tr vw vo nx) 63 (0, 0))
 new : w0.heap.size ≤ g
 lt : ∀ k, F k → k < w.heap.size
 fg : F g
 roww : k34.R 34 w w0.heap.size (fun k => F k ∧ k ≠ g ∧ some k ≠ vo.ownBlock ∧ ∀ o ∈ O, k ≠ o.1.p) vw W
 rowo : kIt.R 73 w w0.heap.size (fun k => F k ∧ k ≠ g ∧ some k ≠ vw.ownBlock ∧ ∀ o ∈ O, k ≠ o.1.p) vo (O.map Prod.fst)
 cnt : ∀ o ∈ O, F o.1.p ∧ o.1.p ≠ g ∧ w0.heap.size ≤ o.1.p ∧ w.heap[o.1.p]? = some (.cells #[.int .i32 o.2] 71 (0, 0))
 apart : O.Pairwise (fun a b => a.1.p ≠ b.1.p)
theorem snew_bad (wn tr : Int) (w : World) (b1 b2 b3 b4 : Bool) (h1 : decide (wn < 1) = b1) (h2 : decide (wn > 16) = b2) (h3 : decide (tr < 1) = b3) (h4 : decide (tr > 100) = b4) (hb : (b1 || b2 || b3 || b4) = true) :
    Calls Try.prog 9 #[.int .i64 wn, .int .i64 tr] w fun e w' => e = .returned (.tuple #[.pointer none, .int .i64 1]) ∧ w = w' := by
  cases b1 <;> cases b2 <;> cases b3 <;> cases b4 <;> first
    | (exfalso; revert hb; decide)
    | (clear hb
       go_enter Try.func9, Try.ntmps9
       go_wp2
       go_ret2
       exact ⟨rfl, rfl⟩)
theorem snew_ok {w0 w : World} (hb : Below w0.heap.size w0 w) (wn tr : Int) (h1 : decide (wn < 1) = false) (h2 : decide (wn > 16) = false) (h3 : decide (tr < 1) = false) (h4 : decide (tr > 100) = false) :
  Calls Try.prog 9 #[.int .i64 wn, .int .i64 tr] w fun e w' => ∃ g F, e = .returned (.tuple #[.pointer (some ⟨g, 0, none⟩), .int .i64 0]) ∧ Sd w0 w' F g wn tr [] [] 0 (.slice none 0 0) (.slice none 0 0) ∧ (∀ k, F k → w.heap.size ≤ k) ∧ Below w.heap.size w w' := by
 have HB := Aside0.mk hb
 clear hb
 go_enter Try.func9, Try.ntmps9
 go_wp2_with ((with_reducible refine gate_dst (N := 23) rfl ?_); refine box_event ?hg (N := 23) ?hd (cs := SdC wn tr (.slice none 0 0) (.slice none 0 0) 0) (t := 63) ?hr ?_; (case hd => rfl); (case hg => rfl); (case hr => first | (go_simp; done) | (go_simp; rfl) | rfl | kernel_rfl); intro g hg w1 hbox hb; have B1 := Aside0.mk hbox; have L1 := Aside0.mk hb; have G1 := Aside0.mk hg; clear hb hbox hg)
 go_ret2
 refine ⟨g, fun k => k = g, rfl, ⟨below_step HB.out L1.out, B1.out, ?_, fun k hk => by rw [hk]; exact blk_lt B1.out, rfl, Kd.R_nil _ _ _ _ _, Kd.R_nil _ _ _ _ _, fun o ho => by simp at ho, List.Pairwise.nil⟩, fun k hk => by rw [hk, G1.out]; exact Nat.le_refl _, L1.out⟩
 rw [G1.out]
 exact below_size HB.out
theorem swait_s {w0 w : World} {F : Nat → Prop} {g : Nat} {wn tr nx : Int} {W : List S34} {O : List (It × Int)} {vw vo : Value} (h : Sd w0 w F g wn tr W O nx vw vo) (hl : W.length ≤ 1024) :
  Calls Try.prog 23 #[.pointer (some ⟨g, 0, none⟩)] w fun e w' => ∃ v, e = .returned v ∧ k34.R 34 w' w.heap.size (fun _ => True) v W ∧ Below w.heap.size w w' := by
 obtain ⟨A, c, rfl, hlc, hC⟩ := Kd.R_reads h.roww
 have hx : w.cell? ⟨g, 2, none⟩ = some (.slice A W.length c) := (blk_cell h.blk 2).trans rfl
 have HC := Aside0.mk hC
 have HL := Aside0.mk (show W.length ≤ 1000000000000 by omega)
 clear h hl hlc hC
 go_enter Try.func23, Try.ntmps23
 go_wp2_with (go_at_call 30; (refine (slices_CloneO.calls A c W W _ HC.out (if_pos HL.out)).mono ?_); rintro e w1 ⟨v, rfl, ho, hb⟩; have HO := Aside0.mk ho; have HB := Aside0.mk hb; clear ho hb)
 go_ret
 exact ⟨_, rfl, HO.out, HB.out⟩
def firstL (O : List (It × Int)) (nx : Int) : Int := match O with | [] => nx | o :: _ => o.1.b.f0
theorem sfirst_s {w0 w : World} {F : Nat → Prop} {g : Nat} {wn tr nx : Int} {W : List S34} {O : List (It × Int)} {vw vo : Value} (h : Sd w0 w F g wn tr W O nx vw vo) :
  Calls Try.prog 28 #[.pointer (some ⟨g, 0, none⟩)] w fun e w' => e = .returned (.int .i64 (firstL O nx)) ∧ w = w' := by
 obtain ⟨A, c, rfl, hlc, hC⟩ := Kd.R_reads h.rowo
 have hn : w.cell? ⟨g, 4, none⟩ = some (.int .i64 nx) := (blk_cell h.blk 4).trans rfl
 have hx : w.cell? ⟨g, 3, none⟩ = some (.slice A (O.map Prod.fst).length c) := (blk_cell h.blk 3).trans rfl
 cases O with
 | nil =>
  clear h hlc hC
  replace hx : w.cell? ⟨g, 3, none⟩ = some (.slice A 0 c) := hx
  go_enter Try.func28, Try.ntmps28
  go_wp2
  go_ret
  exact ⟨rfl, rfl⟩
 | cons o r =>
  obtain ⟨n, hn2⟩ : ∃ n, n = (((o :: r).map Prod.fst).length) := ⟨_, rfl⟩
  have hpos : (0 : Int) < (n : Int) := by rw [hn2]; simp <;> omega
  obtain ⟨ad, A1, c1, e_, hx0, _, _, _, _⟩ := at_It hC 0 (by omega) (by rw [← hn2]; exact hpos)
  cases e_
  have e0 : ad.add ((0 : Int).toNat * 3) = ad := by
   show ad.add 0 = ad
   cases ad
   simp [Addr.add]
  rw [e0] at hx0
  rw [← hn2] at hx
  have b0 : decide ((n : Int) > 0) = true := decide_eq_true hpos
  have hp := eq_true hpos
  clear h hlc hC hn2 e0
  go_enter Try.func28, Try.ntmps28
  go_wp2
  go_ret
  exact ⟨rfl, rfl⟩
theorem w64 {x : Int} (h0 : -9223372036854775808 ≤ x) (h1 : x < 9223372036854775808) : wrap64 x = x := by unfold wrap64; omega
theorem Ev.from {α : Type} {g : Nat → Option α} {r : α} (n : Nat) (h : ∀ k, g (k + n) = some r) : Ev g r := ⟨n, fun k hk => by
 obtain ⟨m, rfl⟩ : ∃ m, k = m + n := ⟨k - n, by omega⟩
 exact h m⟩
theorem bits_and_i64 (a b : Nat) (ha : a < 2 ^ 62) (hb : b < 2 ^ 62) : Go.bits .and .i64 (a : Int) (b : Int) = ((a &&& b : Nat) : Int) := (bits_nat .i64 62 (by decide) (by intro n h0 h1; rw [IntKind.wrap_i64]; omega) a b ha hb).1
theorem wrap_u64 (n : Int) : IntKind.u64.wrap n = n % 18446744073709551616 := by simp [IntKind.wrap, IntKind.bits, IntKind.signed]
def Bytes (l : List Int) : Prop := ∀ x ∈ l, 0 ≤ x ∧ x ≤ 255
def be : Nat → Int → List Int
 | 0, _ => []
 | n + 1, v => be n (v / 256) ++ [v % 256]
theorem be_length (n : Nat) (v : Int) : (be n v).length = n := by
 induction n generalizing v with
 | zero => rfl
 | succ n ih => simp [be, ih]
theorem be_cons (n : Nat) : ∀ v : Int, be (n + 1) v = (v / 256 ^ n % 256) :: be n v := by
 induction n with
 | zero => intro v; simp [be]
 | succ n ih =>
  intro v
  show be (n + 1) (v / 256) ++ [v % 256] = _
  rw [ih (v / 256), Int.ediv_ediv_of_nonneg (by decide), ← Int.pow_succ']
  rfl
theorem be_set (m : Nat) (x : Int) (t : List Int) : (List.replicate (m + 1) (0 : Int) ++ t).set m x = List.replicate m 0 ++ x :: t := by
 induction m with
 | zero => rfl
 | succ m ih => rw [List.replicate_succ, List.cons_append, List.set_cons_succ, ih, List.replicate_succ (n := m), List.cons_append]
theorem Bytes.cons {x : Int} {l : List Int} (h : Bytes (x :: l)) : (0 ≤ x ∧ x ≤ 255) ∧ Bytes l := ⟨h x (by simp), fun y hy => h y (by simp [hy])⟩
theorem Bytes.sub {l m : List Int} (h : Bytes l) (hm : ∀ x ∈ m, x ∈ l) : Bytes m := fun x hx => h x (hm x hx)
theorem Bytes.drop {l : List Int} (h : Bytes l) (n : Nat) : Bytes (l.drop n) := h.sub fun _ => List.mem_of_mem_drop
theorem Bytes.take {l : List Int} (h : Bytes l) (n : Nat) : Bytes (l.take n) := h.sub fun _ => List.mem_of_mem_take
theorem Bytes.append {l m : List Int} (h : Bytes l) (k : Bytes m) : Bytes (l ++ m) := fun x hx => (List.mem_append.1 hx).elim (h x) (k x)
theorem Bytes.nil : Bytes [] := fun x hx => by simp at hx
def intSpec (v : Int) : List Int := be 8 (v % 18446744073709551616)
end Go.Proofs.Ytclbempnhelmoaa.P
namespace Go.Proofs.Ytclbempnhelmoaa.P
open Go.RowKit YtclbempnhelmoaaW.PrintWords YtclbempnhelmoaaW.PrintLast YtclbempnhelmoaaW.PrintMore
attribute [local go_sem] max2_int min2_int max_two min_two max_three min_three max_four min_four
theorem eqA30 (d : Nat) (w : World) (x0 y0 : Bool) (x1 y1 : Int) (x2 y2 : Int) (x3 y3 : Int) (x4 y4 : Int) (x5 y5 : Int) :
  (Op.equalIn (d + 2) 30 (.agg #[.bool x0, .int .i64 x1, .int .i64 x2, .int .i64 x3, .int .i64 x4, .int .i64 x5]) (.agg #[.bool y0, .int .i64 y1, .int .i64 y2, .int .i64 y3, .int .i64 y4, .int .i64 y5])).run Try.prog w = .ok (x0 == y0 && (x1 == y1 && (x2 == y2 && (x3 == y3 && (x4 == y4 && (x5 == y5)))))) w := by
 refine eqA_of Try.underlying30 (by kernel_rfl) ?_
 refine eqf_cons (by rfl) (by go_simp; rfl) (by go_simp; rfl) (by go_simp) ?_
 refine eqf_cons (by rfl) (by go_simp; rfl) (by go_simp; rfl) (by go_simp) ?_
 refine eqf_cons (by rfl) (by go_simp; rfl) (by go_simp; rfl) (by go_simp) ?_
 refine eqf_cons (by rfl) (by go_simp; rfl) (by go_simp; rfl) (by go_simp) ?_
 refine eqf_cons (by rfl) (by go_simp; rfl) (by go_simp; rfl) (by go_simp) ?_
 exact eqf_last (by rfl) (by go_simp; rfl) (by go_simp; rfl) (by go_simp)
theorem eqA32 (d : Nat) (w : World) (x0 y0 : Int) (x1 y1 : Int) (x2 y2 : Int) :
  (Op.equalIn (d + 2) 32 (.agg #[.int .i64 x0, .int .i64 x1, .int .i64 x2]) (.agg #[.int .i64 y0, .int .i64 y1, .int .i64 y2])).run Try.prog w = .ok (x0 == y0 && (x1 == y1 && (x2 == y2))) w := by
 refine eqA_of Try.underlying32 (by kernel_rfl) ?_
 refine eqf_cons (by rfl) (by go_simp; rfl) (by go_simp; rfl) (by go_simp) ?_
 refine eqf_cons (by rfl) (by go_simp; rfl) (by go_simp; rfl) (by go_simp) ?_
 exact eqf_last (by rfl) (by go_simp; rfl) (by go_simp; rfl) (by go_simp)
theorem eqA34 (d : Nat) (w : World) (x0 y0 : Int) (x1 y1 : Int) (x2 y2 : Bool) (x3 y3 : Int) (x4 y4 : Int) (x5 y5 : Int) (x6 y6 : Int) (x7 y7 : Int) (x8 y8 : Int) (x9 y9 : Int) (x10 y10 : Int) (x11 y11 : Int) :
  (Op.equalIn (d + 3) 34 (.agg #[.int .i64 x0, .int .i64 x1, .bool x2, .int .i64 x3, .int .i64 x4, .int .i64 x5, .int .i64 x6, .int .i64 x7, .int .i64 x8, .int .i64 x9, .int .i64 x10, .int .i64 x11]) (.agg #[.int .i64 y0, .int .i64 y1, .bool y2, .int .i64 y3, .int .i64 y4, .int .i64 y5, .int .i64 y6, .int .i64 y7, .int .i64 y8, .int .i64 y9, .int .i64 y10, .int .i64 y11])).run Try.prog w = .ok (x0 == y0 && (x1 == y1 && ((x2 == y2 && (x3 == y3 && (x4 == y4 && (x5 == y5 && (x6 == y6 && (x7 == y7)))))) && ((x8 == y8 && (x9 == y9 && (x10 == y10))) && (x11 == y11))))) w := by
 refine eqA_of Try.underlying34 (by kernel_rfl) ?_
 refine eqf_cons (by rfl) (by go_simp; rfl) (by go_simp; rfl) (by go_simp) ?_
 refine eqf_cons (by rfl) (by go_simp; rfl) (by go_simp; rfl) (by go_simp) ?_
 refine eqf_cons (by rfl) (by go_simp) (by go_simp) (eqA30 (d + 0) w _ _ _ _ _ _ _ _ _ _ _ _) ?_
 refine eqf_cons (by rfl) (by go_simp) (by go_simp) (eqA32 (d + 0) w _ _ _ _ _ _) ?_
 exact eqf_last (by rfl) (by go_simp; rfl) (by go_simp; rfl) (by go_simp)
end Go.Proofs.Ytclbempnhelmoaa.P
namespace Go.Proofs.Ytclbempnhelmoaa.P
open Go.RowKit YtclbempnhelmoaaW.PrintWords YtclbempnhelmoaaW.PrintLast YtclbempnhelmoaaW.PrintMore
open YtclbempnhelmoaaW.PrintWords renaming below_alloc → YA, pw_below_drewN → YB, below_drew1 → YC, below_step → YD, below_size → YE, blk_drewN → YF, blk_drew → YG, blk_alloc → YH, blk_cell → YI, blk_frozen → YJ
open YtclbempnhelmoaaW.PrintWords.Aside0 renaming mk → YK
open YtclbempnhelmoaaW.PrintWords.Kd renaming R_alloc → YL, R_drewN → YM, R_drew → YN
attribute [local go_sem] max2_int min2_int max_two min_two max_three min_three max_four min_four
def serial_of.l0 : Nat → List Int → List Int → Int → Int → Option (List Int)
 | 0, _, _, _, _ => none
 | k + 1, x3, x9, x10, x11 => if x11 < x10 then (if 0 ≤ x11 then (if x11 < (x9.length : Int) then (if x3.length < 70368744177664 then (serial_of.l0 k (x3 ++ [IntKind.u16.wrap (rd x9 x11)]) x9 x10 (wrap64 (x11 + 1))) else (none)) else (none)) else (none)) else (some x3)
def serial_of.f (k : Nat) (l0 : List Int) : Option (List Int) := if 0 ≤ (l0.length : Int) then (if ((l0.length : Int) : Int).toNat ≤ 140737488355328 then (serial_of.l0 k (([] : List Int)) l0 (l0.length : Int) 0) else (none)) else (none)
theorem serial_of.mono_l : ∀ k, (∀ y0 y1 y2 y3, LeO (serial_of.l0 k y0 y1 y2 y3) (serial_of.l0 (k + 1) y0 y1 y2 y3))
 | 0 => fun _ _ _ _ r h => by simp [serial_of.l0] at h
 | k + 1 => by
  have ih0 := serial_of.mono_l k
  ·intro y0 y1 y2 y3
   unfold serial_of.l0
   repeat' first
   | (with_reducible exact ih0 _ _ _ _)
   | (with_reducible exact LeO.refl _)
   | (with_reducible exact LeO.none _)
   | (with_reducible refine LeO.ite ?_ ?_)
   | (with_reducible refine LeO.bind ?_ (fun _ => ?_))
   | exact ih0 _ _ _ _
   | exact LeO.none _
   | refine LeO.ite ?_ ?_
   | refine LeO.bind ?_ (fun _ => ?_)
theorem serial_of.mono : ∀ a0 k, LeO (serial_of.f k a0) (serial_of.f (k + 1) a0) := by
 intro a0 k
 have ih0 := serial_of.mono_l k
 unfold serial_of.f
 repeat' first
   | (with_reducible exact ih0 _ _ _ _)
   | (with_reducible exact LeO.refl _)
   | (with_reducible exact LeO.none _)
   | (with_reducible refine LeO.ite ?_ ?_)
   | (with_reducible refine LeO.bind ?_ (fun _ => ?_))
   | exact ih0 _ _ _ _
   | exact LeO.none _
   | refine LeO.ite ?_ ?_
   | refine LeO.bind ?_ (fun _ => ?_)
theorem serial_of.calls (k : Nat) (A0 : Option Addr) (c0 : Nat) (l0 : List Int) (r : List Int) (w : World) (hr0 : Kd.C (Kd.int .i64) w A0 l0.length l0) (hc0 : l0.length ≤ c0) (h : serial_of.f k l0 = some r) :
  Calls Try.prog 47 #[.slice A0 l0.length c0] w fun e w' => ∃ v0_ : Value, e = .returned (v0_) ∧ Kd.R (Kd.int .u16) 89 w' w.heap.size (fun _ => True) v0_ r ∧ Below w.heap.size w w' := by
 have HR0 := YK hr0; have HC0 := YK hc0; clear hr0 hc0
 have HB := YK (Below.refl w.heap.size w)
 have H : (if 0 ≤ (l0.length : Int) then (if ((l0.length : Int) : Int).toNat ≤ 140737488355328 then (serial_of.l0 k (([] : List Int)) l0 (l0.length : Int) 0) else (none)) else (none)) = some r := h
 clear h
 by_cases c2 : 0 ≤ (l0.length : Int)
 rotate_left
 ·rw [if_neg c2] at H
  exact absurd H (by simp)
 rw [if_pos c2] at H
 have c2b0 := eq_true c2
 have c2b1 : decide (0 ≤ (l0.length : Int)) = true := decide_eq_true c2
 clear c2
 by_cases c3 : ((l0.length : Int) : Int).toNat ≤ 140737488355328
 rotate_left
 ·rw [if_neg c3] at H
  exact absurd H (by simp)
 rw [if_pos c3] at H
 have c3b0 := eq_true c3
 have c3b1 : decide (((l0.length : Int) : Int).toNat ≤ 140737488355328) = true := decide_eq_true c3
 clear c3
 obtain ⟨y108, hy108⟩ : ∃ y_ : List Int, y_ = (([] : List Int)) := ⟨_, rfl⟩
 replace H : (serial_of.l0 k y108 l0 (l0.length : Int) 0) = some r := by first | (rw [hy108]; with_reducible exact H) | (have H2_ := (Option.bind_some _ _).symm.trans H; rw [hy108]; with_reducible exact H2_) | (have H2_ := (Option.bind_some _ _).symm.trans H; with_reducible exact H2_) | with_reducible exact H | (rw [hy108]; exact H) | exact H
 have Ny108 := YK hy108; clear hy108
 have H' := YK H
 clear H
 go_enter Try.func47, Try.ntmps47
 go_wp2_with (first | ((with_reducible refine gate_dst (N := 8) rfl ?_); refine Kd.R_make0 (Kd.int .u16) _ 89 rfl (N := 8) rfl 86 _ _ rfl (l0.length : Int) rfl rfl Try.underlying86 (.int .u16 0) 2 info89 (by decide) (ok := fun _ => True) trivial (of_decide_eq_true (by first | (with_reducible assumption) | assumption)) (Nat.le_trans (Nat.mul_le_mul_right _ (of_decide_eq_true (by first | (with_reducible assumption) | assumption) : (l0.length : Int).toNat ≤ 140737488355328)) (by omega)) (Below.refl _ _) (Nat.le_refl _) ?_; intro v109 w4 ho5 hb hg_ hnew_; clear hg_ hnew_; (first | rw [← Ny108.out] at ho5 | (simp only [Int.reduceToNat] at ho5; rw [← Ny108.out] at ho5)); have n0_ := YK (Kd.R_lower ho5 (YE (by repeat (first | (with_reducible first | exact HB.out | apply YA | apply YB | apply YC) | exact HB.out)))); have n1_ := YK (YD (by repeat (first | (with_reducible first | exact HB.out | apply YA | apply YB | apply YC) | exact HB.out)) hb); clear HB; have HO110 := n0_; have HB := n1_; clear n0_ n1_; clear hb ho5))
 go_loopg [3, 11] k (fun kq v3 v11 w' => ∃ (x3_1 : List Int) (x11_1 : Int), v11 = .int .i64 x11_1 ∧ Aside0 (serial_of.l0 kq x3_1 l0 (l0.length : Int) x11_1 = some r) ∧ Aside0 (kq ≤ k) ∧ Aside0 (Kd.R (Kd.int .u16) 89 w' w.heap.size (fun _ => True) v3 x3_1) ∧ Aside0 (Below w.heap.size w w'))
 case atStart => exact ⟨(y108), (0), (by first | rfl | (simp; done) | (simp [*]; done)), H', ⟨Nat.le_refl _⟩, ⟨by (with_reducible repeat (first | apply YL | apply YM | apply YN)); exact HO110.out⟩, ⟨by repeat (first | (with_reducible first | exact HB.out | apply YA | apply YB | apply YC) | exact HB.out)⟩⟩
 case round =>
  clear H'
  try clear c2; try clear c2b0
  try clear c2b1; try clear p2
  try clear c3; try clear c3b0
  try clear c3b1; try clear c4
  obtain ⟨x3_1, x11_1, rfl, HA, HK1, HO_3, HB⟩ := hrel
  cases gk with
  | zero => exact absurd HA.out (by simp [serial_of.l0])
  | succ k1 =>
   have H := HA.out
   clear HA
   simp only [serial_of.l0] at H
   by_cases c6 : x11_1 < (l0.length : Int)
   ·rw [if_pos c6] at H
    have c6b0 : decide (x11_1 < (l0.length : Int)) = true := decide_eq_true c6
    clear c6
    by_cases c7 : 0 ≤ x11_1
    rotate_left
    ·rw [if_neg c7] at H
     exact absurd H (by simp)
    rw [if_pos c7] at H; have c7b0 : decide (0 ≤ x11_1) = true := decide_eq_true c7; clear c7
    by_cases c8 : x11_1 < (l0.length : Int)
    rotate_left
    ·rw [if_neg c8] at H
     exact absurd H (by simp)
    rw [if_pos c8] at H
    have c8b0 : decide (x11_1 < (l0.length : Int)) = true := decide_eq_true c8
    clear c8
    by_cases c9 : x3_1.length < 70368744177664
    rotate_left
    ·rw [if_neg c9] at H
     exact absurd H (by simp)
    rw [if_pos c9] at H; have LMc9 := YK c9; clear c9
    obtain ⟨y112, hy112⟩ : ∃ y_ : List Int, y_ = (x3_1 ++ [IntKind.u16.wrap (rd l0 x11_1)]) := ⟨_, rfl⟩
    replace H : (serial_of.l0 k1 y112 l0 (l0.length : Int) (wrap64 (x11_1 + 1))) = some r := by first | (rw [hy112]; with_reducible exact H) | (have H2_ := (Option.bind_some _ _).symm.trans H; rw [hy112]; with_reducible exact H2_) | (have H2_ := (Option.bind_some _ _).symm.trans H; with_reducible exact H2_) | with_reducible exact H | (rw [hy112]; exact H) | exact H
    have Ny112 := YK hy112; clear hy112
    have H' := YK H
    clear H
    have p111 : 0 ≤ (x11_1 : Int) := of_decide_eq_true (by first | (with_reducible assumption) | assumption)
    have q111 : x11_1 < (l0.length : Int) := of_decide_eq_true (by first | (with_reducible assumption) | assumption)
    obtain ⟨ad111, e111, hx111_0⟩ := Kd.at_int HR0.out x11_1 p111 q111
    cases e111
    replace hx111_0 := (HB.out.cell (World.block_lt_of_cell? w _ hx111_0)).trans hx111_0
    replace p111 := eq_true p111
    replace q111 := eq_true q111
    go_wp2_with (first | ((with_reducible refine gate_builtin (b := .append) (xs := #[.tmp 15, .tmp 18]) rfl ?_); at_builtin; refine Kd.R_append (Kd.int .u16) (w0 := w) w.heap.size rfl (.tmp 15) (.tmp 18) 86 89 (.int .u16 0) 2 rfl Try.underlying86 info89 rfl (by decide) (by omega) u3 x3_1 (IntKind.u16.wrap (rd l0 x11_1)) [.int .u16 (IntKind.u16.wrap (rd l0 x11_1))] (fun _ => True) (fun _ => False) rfl rfl ?aP (fun _ hk => hk.elim) ?aF ?aO ?aB ?aS ?aL ?_; (case aP => exact rfl); (case aB => exact (by repeat (first | (with_reducible first | exact HB.out | apply YA | apply YB | apply YC) | exact HB.out))); (case aF => exact (fun _ _ => trivial)); (case aO => exact (by (with_reducible repeat (first | apply YL | apply YM | apply YN)); exact HO_3.out)); (case aS => exact (YE (by repeat (first | (with_reducible first | exact HB.out | apply YA | apply YB | apply YC) | exact HB.out)))); (case aL => have := LMc9.out; omega); intro v113 w10 ho hb hg hat; rw [← Ny112.out] at ho; have n0_ := YK (hb); have n1_ := YK (ho); clear HB; clear HO_3; have HB := n0_; have HO114 := n1_; clear n0_ n1_; clear ho hb hg hat))
    go_roundg k1
    case measure => have := HK1.out; omega
    case rel => exact ⟨(y112), (wrap64 (x11_1 + 1)), (by first | rfl | (simp; done) | (simp [*]; done)), H', ⟨by have := HK1.out; omega⟩, ⟨by (with_reducible repeat (first | apply YL | apply YM | apply YN)); exact HO114.out⟩, ⟨by repeat (first | (with_reducible first | exact HB.out | apply YA | apply YB | apply YC) | exact HB.out)⟩⟩
   rw [if_neg c6] at H
   have c6b0 : decide (x11_1 < (l0.length : Int)) = false := decide_eq_false c6
   clear c6
   obtain rfl := Option.some.inj H
   go_wp2
   go_ret
   exact ⟨_, by first | rfl | (simp [errW_none, errW_some] <;> rfl) | (simp [*, errW_none, errW_some] <;> rfl), by (with_reducible repeat (first | apply YL | apply YM | apply YN)); exact HO_3.out, by repeat (first | (with_reducible first | exact HB.out | apply YA | apply YB | apply YC) | exact HB.out)⟩
def serial_Far.f (k : Nat) (a0 : Int) (a1 : Int) : Option (Int) := (serial_of.f k (([a0, a1] : List Int))).bind fun t118 => (if 1 < (t118.length : Int) then (if 0 < (t118.length : Int) then (some (wrap64 (IntKind.u16.wrap ((rd t118 1) - (rd t118 0))))) else (none)) else (none))
theorem serial_Far.mono : ∀ a0 a1 k, LeO (serial_Far.f k a0 a1) (serial_Far.f (k + 1) a0 a1) := by
 intro a0 a1 k
 unfold serial_Far.f
 repeat' first
   | (with_reducible exact serial_of.mono _ _)
   | (with_reducible exact LeO.refl _)
   | (with_reducible exact LeO.none _)
   | (with_reducible refine LeO.ite ?_ ?_)
   | (with_reducible refine LeO.bind ?_ (fun _ => ?_))
   | exact serial_of.mono _ _
   | exact LeO.none _
   | refine LeO.ite ?_ ?_
   | refine LeO.bind ?_ (fun _ => ?_)
theorem serial_Far.calls (k : Nat) (a0 : Int) (a1 : Int) (r : Int) (w : World) (h : serial_Far.f k a0 a1 = some r) :
  Calls Try.prog 24 #[.int .i64 a0, .int .i64 a1] w fun e w' => e = .returned (.int .i64 r) ∧ Below w.heap.size w w' := by
 have HB := YK (Below.refl w.heap.size w)
 have H : ((serial_of.f k (([a0, a1] : List Int))).bind fun t118 => (if 1 < (t118.length : Int) then (if 0 < (t118.length : Int) then (some (wrap64 (IntKind.u16.wrap ((rd t118 1) - (rd t118 0))))) else (none)) else (none))) = some r := h
 clear h
 obtain ⟨y115, hy115⟩ : ∃ y_ : List Int, y_ = (([a0, a1] : List Int)) := ⟨_, rfl⟩
 replace H : ((serial_of.f k y115).bind fun t118 => (if 1 < (t118.length : Int) then (if 0 < (t118.length : Int) then (some (wrap64 (IntKind.u16.wrap ((rd t118 1) - (rd t118 0))))) else (none)) else (none))) = some r := by first | (rw [hy115]; with_reducible exact H) | (have H2_ := (Option.bind_some _ _).symm.trans H; rw [hy115]; with_reducible exact H2_) | (have H2_ := (Option.bind_some _ _).symm.trans H; with_reducible exact H2_) | with_reducible exact H | (rw [hy115]; exact H) | exact H
 have Ny115 := YK hy115; clear hy115; replace H := Option.bind_eq_some_iff.mp H; obtain ⟨t118, A30, H⟩ := H
 replace H : (if 1 < (t118.length : Int) then (if 0 < (t118.length : Int) then (some (wrap64 (IntKind.u16.wrap ((rd t118 1) - (rd t118 0))))) else (none)) else (none)) = some r := H
 have A3 := YK A30; clear A30
 by_cases c4 : 1 < (t118.length : Int)
 rotate_left
 ·rw [if_neg c4] at H
  exact absurd H (by simp)
 rw [if_pos c4] at H
 have c4b0 : decide (1 < (t118.length : Int)) = true := decide_eq_true c4
 have c4b1 : decide (1 < t118.length) = true := decide_eq_true (by omega)
 clear c4
 by_cases c5 : 0 < (t118.length : Int)
 rotate_left
 ·rw [if_neg c5] at H
  exact absurd H (by simp)
 rw [if_pos c5] at H
 have c5b0 : decide (0 < (t118.length : Int)) = true := decide_eq_true c5
 have c5b1 : decide (0 < t118.length) = true := decide_eq_true (by omega)
 clear c5
 obtain rfl := Option.some.inj H
 go_enter Try.func24, Try.ntmps24
 go_wp2_with (first | ((with_reducible refine gate_dst (N := 8) rfl ?_); refine Kd.R_lit (Kd.int .i64) _ 3 ?hg (N := 8) ?hd (xs := ([a0, a1] : List Int)) (inner := [.int .i64 a0, .int .i64 a1]) (ok := fun _ => True) (okp := fun _ => True) ?hr ?hp (fun _ hk => hk) trivial (Below.refl _ _) (Nat.le_refl _) (by simp) ?_; (case hd => rfl); (case hg => rfl); (case hr => first | (go_simp; done) | (go_simp; rfl)); (case hp => exact (Reps.one (show Kd.M (Kd.int .i64) _ _ _ a0 [.int .i64 a0] from rfl) (Reps.one (show Kd.M (Kd.int .i64) _ _ _ a1 [.int .i64 a1] from rfl) (Reps.none _ _)))); intro v116 w6 ho7 hb hg_ hnew_; clear hg_ hnew_; (first | rw [← Ny115.out] at ho7 | (simp only [Int.reduceToNat] at ho7; rw [← Ny115.out] at ho7)); have n0_ := YK (Kd.R_lower ho7 (YE (by repeat (first | (with_reducible first | exact HB.out | apply YA | apply YB | apply YC) | exact HB.out)))); have n1_ := YK (YD (by repeat (first | (with_reducible first | exact HB.out | apply YA | apply YB | apply YC) | exact HB.out)) hb); clear HB; have HO117 := n0_; have HB := n1_; clear n0_ n1_; clear hb ho7; obtain ⟨Ao8, co8, eo8⟩ := Kd.R_slice HO117.out; subst eo8) | (go_at_call 47; (with_reducible refine (serial_of.calls k _ _ y115 t118 _ ?side1 ?side2 A3.out).mono ?_); (case side1 => repeat (first | exact (Kd.R_reads' HO117.out).2.2 | (with_reducible refine Kd.C_alloc ?_ _) | (with_reducible refine Kd.C_drewN ?_ _) | (with_reducible refine Kd.C_drew ?_))); (case side2 => exact (Kd.R_reads' HO117.out).2.1); rintro e w9 ⟨v119, rfl, ho0, hb⟩; have n0_ := YK (Kd.R_below (by (with_reducible repeat (first | apply YL | apply YM | apply YN)); exact HO117.out) hb); have n1_ := YK (Kd.R_lower ho0 (YE (by repeat (first | (with_reducible first | exact HB.out | apply YA | apply YB | apply YC) | exact HB.out)))); have n2_ := YK (YD (by repeat (first | (with_reducible first | exact HB.out | apply YA | apply YB | apply YC) | exact HB.out)) hb); clear HO117; clear HB; have HO117 := n0_; have HO120 := n1_; have HB := n2_; clear n0_ n1_ n2_; (try clear hb); (try clear hb2); (try clear hk); (try clear hi); (try clear ho0); obtain ⟨Ao10, co10, eo10⟩ := Kd.R_slice HO120.out; subst eo10; have p121 : 0 ≤ (1 : Int) := (by omega); have q121 : 1 < (t118.length : Int) := of_decide_eq_true (by first | (with_reducible assumption) | assumption); obtain ⟨ad121, e121, hx121_0⟩ := Kd.at_int (Kd.R_reads' HO120.out).2.2 1 p121 q121; cases e121; (try simp only [show (1 : Int).toNat = 1 from rfl, Nat.reduceMul, Nat.reduceEqDiff, Go.Addr.add, ↓reduceIte] at hx121_0); have qi121 : (1 < t118.length) = True := eq_true (by omega); (try rw [show ((1 : Int)).toNat = 1 from rfl] at hx121_0); replace p121 := eq_true p121; replace q121 := eq_true q121; have p122 : 0 ≤ (0 : Int) := (by omega); have q122 : 0 < (t118.length : Int) := of_decide_eq_true (by first | (with_reducible assumption) | assumption); obtain ⟨ad122, e122, hx122_0⟩ := Kd.at_int (Kd.R_reads' HO120.out).2.2 0 p122 q122; obtain rfl : ad121 = ad122 := (by injection e122); have qi122 : (0 < t118.length) = True := eq_true (by omega); (try rw [show ((0 : Int)).toNat = 0 from rfl] at hx122_0); (try rw [Addr.add_zero'] at hx122_0); replace p122 := eq_true p122; replace q122 := eq_true q122))
 repeat (go_quiet (first | ((with_reducible refine gate_dst (N := 8) rfl ?_); refine Kd.R_lit (Kd.int .i64) _ 3 ?hg (N := 8) ?hd (xs := ([a0, a1] : List Int)) (inner := [.int .i64 a0, .int .i64 a1]) (ok := fun _ => True) (okp := fun _ => True) ?hr ?hp (fun _ hk => hk) trivial (Below.refl _ _) (Nat.le_refl _) (by simp) ?_; (case hd => rfl); (case hg => rfl); (case hr => first | (go_simp; done) | (go_simp; rfl)); (case hp => exact (Reps.one (show Kd.M (Kd.int .i64) _ _ _ a0 [.int .i64 a0] from rfl) (Reps.one (show Kd.M (Kd.int .i64) _ _ _ a1 [.int .i64 a1] from rfl) (Reps.none _ _)))); intro v116 w6 ho7 hb hg_ hnew_; clear hg_ hnew_; (first | rw [← Ny115.out] at ho7 | (simp only [Int.reduceToNat] at ho7; rw [← Ny115.out] at ho7)); have n0_ := YK (Kd.R_lower ho7 (YE (by repeat (first | (with_reducible first | exact HB.out | apply YA | apply YB | apply YC) | exact HB.out)))); have n1_ := YK (YD (by repeat (first | (with_reducible first | exact HB.out | apply YA | apply YB | apply YC) | exact HB.out)) hb); clear HB; have HO117 := n0_; have HB := n1_; clear n0_ n1_; clear hb ho7; obtain ⟨Ao8, co8, eo8⟩ := Kd.R_slice HO117.out; subst eo8) | (go_at_call 47; (with_reducible refine (serial_of.calls k _ _ y115 t118 _ ?side1 ?side2 A3.out).mono ?_); (case side1 => repeat (first | exact (Kd.R_reads' HO117.out).2.2 | (with_reducible refine Kd.C_alloc ?_ _) | (with_reducible refine Kd.C_drewN ?_ _) | (with_reducible refine Kd.C_drew ?_))); (case side2 => exact (Kd.R_reads' HO117.out).2.1); rintro e w9 ⟨v119, rfl, ho0, hb⟩; have n0_ := YK (Kd.R_below (by (with_reducible repeat (first | apply YL | apply YM | apply YN)); exact HO117.out) hb); have n1_ := YK (Kd.R_lower ho0 (YE (by repeat (first | (with_reducible first | exact HB.out | apply YA | apply YB | apply YC) | exact HB.out)))); have n2_ := YK (YD (by repeat (first | (with_reducible first | exact HB.out | apply YA | apply YB | apply YC) | exact HB.out)) hb); clear HO117; clear HB; have HO117 := n0_; have HO120 := n1_; have HB := n2_; clear n0_ n1_ n2_; (try clear hb); (try clear hb2); (try clear hk); (try clear hi); (try clear ho0); obtain ⟨Ao10, co10, eo10⟩ := Kd.R_slice HO120.out; subst eo10; have p121 : 0 ≤ (1 : Int) := (by omega); have q121 : 1 < (t118.length : Int) := of_decide_eq_true (by first | (with_reducible assumption) | assumption); obtain ⟨ad121, e121, hx121_0⟩ := Kd.at_int (Kd.R_reads' HO120.out).2.2 1 p121 q121; cases e121; (try simp only [show (1 : Int).toNat = 1 from rfl, Nat.reduceMul, Nat.reduceEqDiff, Go.Addr.add, ↓reduceIte] at hx121_0); have qi121 : (1 < t118.length) = True := eq_true (by omega); (try rw [show ((1 : Int)).toNat = 1 from rfl] at hx121_0); replace p121 := eq_true p121; replace q121 := eq_true q121; have p122 : 0 ≤ (0 : Int) := (by omega); have q122 : 0 < (t118.length : Int) := of_decide_eq_true (by first | (with_reducible assumption) | assumption); obtain ⟨ad122, e122, hx122_0⟩ := Kd.at_int (Kd.R_reads' HO120.out).2.2 0 p122 q122; obtain rfl : ad121 = ad122 := (by injection e122); have qi122 : (0 < t118.length) = True := eq_true (by omega); (try rw [show ((0 : Int)).toNat = 0 from rfl] at hx122_0); (try rw [Addr.add_zero'] at hx122_0); replace p122 := eq_true p122; replace q122 := eq_true q122)); try go_wp2_with (first | ((with_reducible refine gate_dst (N := 8) rfl ?_); refine Kd.R_lit (Kd.int .i64) _ 3 ?hg (N := 8) ?hd (xs := ([a0, a1] : List Int)) (inner := [.int .i64 a0, .int .i64 a1]) (ok := fun _ => True) (okp := fun _ => True) ?hr ?hp (fun _ hk => hk) trivial (Below.refl _ _) (Nat.le_refl _) (by simp) ?_; (case hd => rfl); (case hg => rfl); (case hr => first | (go_simp; done) | (go_simp; rfl)); (case hp => exact (Reps.one (show Kd.M (Kd.int .i64) _ _ _ a0 [.int .i64 a0] from rfl) (Reps.one (show Kd.M (Kd.int .i64) _ _ _ a1 [.int .i64 a1] from rfl) (Reps.none _ _)))); intro v116 w6 ho7 hb hg_ hnew_; clear hg_ hnew_; (first | rw [← Ny115.out] at ho7 | (simp only [Int.reduceToNat] at ho7; rw [← Ny115.out] at ho7)); have n0_ := YK (Kd.R_lower ho7 (YE (by repeat (first | (with_reducible first | exact HB.out | apply YA | apply YB | apply YC) | exact HB.out)))); have n1_ := YK (YD (by repeat (first | (with_reducible first | exact HB.out | apply YA | apply YB | apply YC) | exact HB.out)) hb); clear HB; have HO117 := n0_; have HB := n1_; clear n0_ n1_; clear hb ho7; obtain ⟨Ao8, co8, eo8⟩ := Kd.R_slice HO117.out; subst eo8) | (go_at_call 47; (with_reducible refine (serial_of.calls k _ _ y115 t118 _ ?side1 ?side2 A3.out).mono ?_); (case side1 => repeat (first | exact (Kd.R_reads' HO117.out).2.2 | (with_reducible refine Kd.C_alloc ?_ _) | (with_reducible refine Kd.C_drewN ?_ _) | (with_reducible refine Kd.C_drew ?_))); (case side2 => exact (Kd.R_reads' HO117.out).2.1); rintro e w9 ⟨v119, rfl, ho0, hb⟩; have n0_ := YK (Kd.R_below (by (with_reducible repeat (first | apply YL | apply YM | apply YN)); exact HO117.out) hb); have n1_ := YK (Kd.R_lower ho0 (YE (by repeat (first | (with_reducible first | exact HB.out | apply YA | apply YB | apply YC) | exact HB.out)))); have n2_ := YK (YD (by repeat (first | (with_reducible first | exact HB.out | apply YA | apply YB | apply YC) | exact HB.out)) hb); clear HO117; clear HB; have HO117 := n0_; have HO120 := n1_; have HB := n2_; clear n0_ n1_ n2_; (try clear hb); (try clear hb2); (try clear hk); (try clear hi); (try clear ho0); obtain ⟨Ao10, co10, eo10⟩ := Kd.R_slice HO120.out; subst eo10; have p121 : 0 ≤ (1 : Int) := (by omega); have q121 : 1 < (t118.length : Int) := of_decide_eq_true (by first | (with_reducible assumption) | assumption); obtain ⟨ad121, e121, hx121_0⟩ := Kd.at_int (Kd.R_reads' HO120.out).2.2 1 p121 q121; cases e121; (try simp only [show (1 : Int).toNat = 1 from rfl, Nat.reduceMul, Nat.reduceEqDiff, Go.Addr.add, ↓reduceIte] at hx121_0); have qi121 : (1 < t118.length) = True := eq_true (by omega); (try rw [show ((1 : Int)).toNat = 1 from rfl] at hx121_0); replace p121 := eq_true p121; replace q121 := eq_true q121; have p122 : 0 ≤ (0 : Int) := (by omega); have q122 : 0 < (t118.length : Int) := of_decide_eq_true (by first | (with_reducible assumption) | assumption); obtain ⟨ad122, e122, hx122_0⟩ := Kd.at_int (Kd.R_reads' HO120.out).2.2 0 p122 q122; obtain rfl : ad121 = ad122 := (by injection e122); have qi122 : (0 < t118.length) = True := eq_true (by omega); (try rw [show ((0 : Int)).toNat = 0 from rfl] at hx122_0); (try rw [Addr.add_zero'] at hx122_0); replace p122 := eq_true p122; replace q122 := eq_true q122)))
 go_ret
 exact ⟨by first | rfl | (simp [errW_none, errW_some] <;> rfl) | (simp [*, errW_none, errW_some] <;> rfl), by repeat (first | (with_reducible first | exact HB.out | apply YA | apply YB | apply YC) | exact HB.out)⟩
def serial_Within.f (k : Nat) (a0 : Int) (a1 : Int) (a2 : Int) : Option (Bool) := (serial_Far.f k a1 a0).bind fun t123 => (some (decide (t123 < a2)))
theorem serial_Within.mono : ∀ a0 a1 a2 k, LeO (serial_Within.f k a0 a1 a2) (serial_Within.f (k + 1) a0 a1 a2) := by
 intro a0 a1 a2 k
 unfold serial_Within.f
 repeat' first
   | (with_reducible exact serial_Far.mono _ _ _)
   | (with_reducible exact LeO.refl _)
   | (with_reducible exact LeO.none _)
   | (with_reducible refine LeO.ite ?_ ?_)
   | (with_reducible refine LeO.bind ?_ (fun _ => ?_))
   | exact serial_Far.mono _ _ _
   | exact LeO.none _
   | refine LeO.ite ?_ ?_
   | refine LeO.bind ?_ (fun _ => ?_)
theorem serial_Within.calls (k : Nat) (a0 : Int) (a1 : Int) (a2 : Int) (r : Bool) (w : World) (h : serial_Within.f k a0 a1 a2 = some r) :
  Calls Try.prog 17 #[.int .i64 a0, .int .i64 a1, .int .i64 a2] w fun e w' => e = .returned (.bool r) ∧ Below w.heap.size w w' := by
 have HB := YK (Below.refl w.heap.size w)
 have H : ((serial_Far.f k a1 a0).bind fun t123 => (some (decide (t123 < a2)))) = some r := h
 clear h; replace H := Option.bind_eq_some_iff.mp H; obtain ⟨t123, A40, H⟩ := H
 replace H : (some (decide (t123 < a2))) = some r := H
 have A4 := YK A40; clear A40
 obtain rfl := Option.some.inj H
 go_enter Try.func17, Try.ntmps17
 go_wp2_with (first | ((with_reducible refine gate_callee (f := 24) rfl ?_); refine goesL_ (some 9) rfl rfl Try.func24 (by kernel_rfl) rfl #[.int .i64 a1, .int .i64 a0] rfl (by (try simp only [List.map_toArray, List.map_cons, List.map_nil]); first | done | rfl | (simp only [List.length_drop, List.length_take]; rfl)) ?_; (with_reducible refine (serial_Far.calls k a1 a0 t123 _ A4.out).mono ?_); rintro e w5 ⟨rfl, hb⟩; refine ⟨_, rfl, ?_⟩; have n0_ := YK (YD (by repeat (first | (with_reducible first | exact HB.out | apply YA | apply YB | apply YC) | exact HB.out)) hb); clear HB; have HB := n0_; clear n0_; (try clear hb); (try clear hb2); (try clear hk); (try clear hi)))
 go_ret
 exact ⟨by first | rfl | (simp [errW_none, errW_some] <;> rfl) | (simp [*, errW_none, errW_some] <;> rfl), by repeat (first | (with_reducible first | exact HB.out | apply YA | apply YB | apply YC) | exact HB.out)⟩
def serial_Next.f (a0 : Int) : Option (Int) := some (wrap64 (IntKind.u16.wrap ((IntKind.u16.wrap (a0)) + 1)))
theorem serial_Next.calls (a0 : Int) (r : Int) (w : World) (h : serial_Next.f a0 = some r) :
  Calls Try.prog 25 #[.int .i64 a0] w fun e w' => e = .returned (.int .i64 r) ∧ Drawn0 w w' := by
 have H : (some (wrap64 (IntKind.u16.wrap ((IntKind.u16.wrap (a0)) + 1)))) = some r := h
 clear h
 obtain rfl := Option.some.inj H
 go_enter Try.func25, Try.ntmps25
 go_wp2
 go_ret
 exact ⟨by first | rfl | (simp; done) | (simp [*]; done), by repeat (first | exact Drawn0.refl _ | apply Drawn0.step)⟩
def height_Null.f (a0 : Int) : Option (Bool × Int × Int × Int × Int × Int) := some (true, 0, 0, 0, 0, a0)
theorem height_Null.calls (a0 : Int) (r1 : Bool) (r2 : Int) (r3 : Int) (r4 : Int) (r5 : Int) (r6 : Int) (w : World) (h : height_Null.f a0 = some (r1, r2, r3, r4, r5, r6)) :
  Calls Try.prog 65 #[.int .i64 a0] w fun e w' => e = .returned (.agg #[.bool r1, .int .i64 r2, .int .i64 r3, .int .i64 r4, .int .i64 r5, .int .i64 r6]) ∧ Below w.heap.size w w' := by
 have hu30 := Try.underlying30
 have HB := YK (Below.refl w.heap.size w)
 have H : (some (true, 0, 0, 0, 0, a0)) = some (r1, r2, r3, r4, r5, r6) := h
 clear h
 simp only [Option.some.injEq, Prod.mk.injEq] at H
 obtain ⟨rfl, rfl, rfl, rfl, rfl, rfl⟩ := H
 go_enter Try.func65, Try.ntmps65
 go_wp2_with (first | ((with_reducible refine gate_dst (N := 2) rfl ?_); refine box_event ?hg (N := 2) ?hd (cs := #[.bool false, .int .i64 0, .int .i64 0, .int .i64 0, .int .i64 0, .int .i64 0]) (t := 30) ?hr ?_; (case hd => rfl); (case hg => rfl); (case hr => first | (go_simp; done) | (go_simp; rfl)); intro gb124 hg w2 hbox hb; have n0_ := YK (YD (by repeat (first | (with_reducible first | exact HB.out | apply YA | apply YB | apply YC) | exact HB.out)) hb); have n1_ := YK (hbox); have n2_ := YK ((by rw [hg]; exact (YE (by repeat (first | (with_reducible first | exact HB.out | apply YA | apply YB | apply YC) | exact HB.out))) : w.heap.size ≤ gb124)); have n3_ := YK ((by rw [hg]; exact (YE (by repeat (first | (with_reducible first | exact HB.out | apply YA | apply YB | apply YC) | exact HB.out))) : w.heap.size ≤ gb124)); clear HB; have HB := n0_; have BK124 := n1_; have GW124 := n2_; have GE124 := n3_; clear n0_ n1_ n2_ n3_; clear hb hbox hg; have q3_0 : w2.cell? ⟨gb124, 0, none⟩ = some (.bool false) := (YI BK124.out 0).trans rfl; have q3_1 : w2.cell? ⟨gb124, 1, none⟩ = some (.int .i64 0) := (YI BK124.out 1).trans rfl; have q3_2 : w2.cell? ⟨gb124, 2, none⟩ = some (.int .i64 0) := (YI BK124.out 2).trans rfl; have q3_3 : w2.cell? ⟨gb124, 3, none⟩ = some (.int .i64 0) := (YI BK124.out 3).trans rfl; have q3_4 : w2.cell? ⟨gb124, 4, none⟩ = some (.int .i64 0) := (YI BK124.out 4).trans rfl; have q3_5 : w2.cell? ⟨gb124, 5, none⟩ = some (.int .i64 0) := (YI BK124.out 5).trans rfl; have f3_0 := YJ BK124.out 0; have f3_1 := YJ BK124.out 1; have f3_2 := YJ BK124.out 2; have f3_3 := YJ BK124.out 3; have f3_4 := YJ BK124.out 4; have f3_5 := YJ BK124.out 5))
 refine bodyPost_ret (results_cell_row rfl _ _ gb124 30 #[.bool true, .int .i64 0, .int .i64 0, .int .i64 0, .int .i64 0, .int .i64 a0] (0, 0) _ rfl (by (with_reducible repeat (first | refine YF ?_ _ | refine YG ?_ | refine YH ?_ _)); refine blk_put (cs := #[.bool true, .int .i64 0, .int .i64 0, .int .i64 0, .int .i64 0, .int .i64 0]) ?_ 5 _ rfl; (with_reducible repeat (first | refine YF ?_ _ | refine YG ?_ | refine YH ?_ _)); refine blk_put (cs := #[.bool true, .int .i64 0, .int .i64 0, .int .i64 0, .int .i64 0, .int .i64 0]) ?_ 4 _ rfl; (with_reducible repeat (first | refine YF ?_ _ | refine YG ?_ | refine YH ?_ _)); refine blk_put (cs := #[.bool true, .int .i64 0, .int .i64 0, .int .i64 0, .int .i64 0, .int .i64 0]) ?_ 3 _ rfl; (with_reducible repeat (first | refine YF ?_ _ | refine YG ?_ | refine YH ?_ _)); refine blk_put (cs := #[.bool true, .int .i64 0, .int .i64 0, .int .i64 0, .int .i64 0, .int .i64 0]) ?_ 2 _ rfl; (with_reducible repeat (first | refine YF ?_ _ | refine YG ?_ | refine YH ?_ _)); refine blk_put (cs := #[.bool true, .int .i64 0, .int .i64 0, .int .i64 0, .int .i64 0, .int .i64 0]) ?_ 1 _ rfl; (with_reducible repeat (first | refine YF ?_ _ | refine YG ?_ | refine YH ?_ _)); refine blk_put (cs := #[.bool false, .int .i64 0, .int .i64 0, .int .i64 0, .int .i64 0, .int .i64 0]) ?_ 0 _ rfl; (with_reducible repeat (first | refine YF ?_ _ | refine YG ?_ | refine YH ?_ _)); exact BK124.out) Try.underlying30 rfl (by kernel_rfl)) rfl ?_
 exact ⟨by first | rfl | (simp [errW_none, errW_some] <;> rfl) | (simp [*, errW_none, errW_some] <;> rfl), by repeat (first | (with_reducible first | exact HB.out | apply YA | apply YB | apply YC | refine below_set ?_ GE124.out) | exact HB.out)⟩
end Go.Proofs.Ytclbempnhelmoaa.P
namespace Go.Proofs.Ytclbempnhelmoaa.P
open Go.RowKit YtclbempnhelmoaaW.PrintWords YtclbempnhelmoaaW.PrintLast YtclbempnhelmoaaW.PrintMore
open YtclbempnhelmoaaW.PrintWords renaming below_alloc → YA, pw_below_drewN → YB, below_drew1 → YC, blk_drewN → YD, blk_drew → YE, blk_alloc → YF, blk_cell → YG, blk_frozen → YH
open YtclbempnhelmoaaW.PrintWords.Aside0 renaming mk → YI
open List renaming setIfInBounds_toArray → YJ, set_cons_zero → YK, set_cons_succ → YL
attribute [local go_sem] max2_int min2_int max_two min_two max_three min_three max_four min_four
attribute [local go_sem high] eqA30
def height_Check.j0 : Nat → Bool → Bool → Int → Int → Int → Int → Int → Option (Int)
 | 0, _, _, _, _, _, _, _ => none
 | k + 1, x3, x126000, x126001, x126002, x126003, x126004, x126005 => if x126000 = true then (if x3 = true then ((height_Null.f x126005).bind fun bt126 => (if ((bt126.1 && (x126001 == bt126.2.1 && (x126002 == bt126.2.2.1 && (x126003 == bt126.2.2.2.1 && (x126004 == bt126.2.2.2.2.1 && (x126005 == bt126.2.2.2.2.2)))))) = true) then (some 0) else (some 1))) else (some 1)) else (if x3 = true then (if x126001 ≥ 0 then (if x126001 ≤ 4611686018427387903 then (if x126002 ≥ 0 then (if x126002 < 64 then (if (x126003 / 2) = 0 then (if x126004 ≥ (-1099511627776) then (if x126004 ≤ 1099511627776 then (some 0) else (some 1)) else (some 1)) else (some 1)) else (some 1)) else (some 1)) else (some 1)) else (some 1)) else (some 1))
def height_Check.f (k : Nat) (a0_0 : Bool) (a0_1 : Int) (a0_2 : Int) (a0_3 : Int) (a0_4 : Int) (a0_5 : Int) : Option (Int) := if a0_5 ≥ 0 then (height_Check.j0 k (decide (a0_5 < 64)) a0_0 a0_1 a0_2 a0_3 a0_4 a0_5) else (height_Check.j0 k false a0_0 a0_1 a0_2 a0_3 a0_4 a0_5)
theorem height_Check.mono_l : ∀ k, (∀ y0 y1 y2 y3 y4 y5 y6, LeO (height_Check.j0 k y0 y1 y2 y3 y4 y5 y6) (height_Check.j0 (k + 1) y0 y1 y2 y3 y4 y5 y6))
 | 0 => fun _ _ _ _ _ _ _ r h => by simp [height_Check.j0] at h
 | k + 1 => by
  have ih0 := height_Check.mono_l k
  ·intro y0 y1 y2 y3 y4 y5 y6
   unfold height_Check.j0
   repeat' first
   | (with_reducible exact ih0 _ _ _ _ _ _ _)
   | (with_reducible exact LeO.refl _)
   | (with_reducible exact LeO.none _)
   | (with_reducible refine LeO.ite ?_ ?_)
   | (with_reducible refine LeO.bind ?_ (fun _ => ?_))
   | exact ih0 _ _ _ _ _ _ _
   | exact LeO.none _
   | refine LeO.ite ?_ ?_
   | refine LeO.bind ?_ (fun _ => ?_)
theorem height_Check.mono : ∀ a0 a1 a2 a3 a4 a5 k, LeO (height_Check.f k a0 a1 a2 a3 a4 a5) (height_Check.f (k + 1) a0 a1 a2 a3 a4 a5) := by
 intro a0 a1 a2 a3 a4 a5 k
 have ih0 := height_Check.mono_l k
 unfold height_Check.f
 repeat' first
   | (with_reducible exact ih0 _ _ _ _ _ _ _)
   | (with_reducible exact LeO.refl _)
   | (with_reducible exact LeO.none _)
   | (with_reducible refine LeO.ite ?_ ?_)
   | (with_reducible refine LeO.bind ?_ (fun _ => ?_))
   | exact ih0 _ _ _ _ _ _ _
   | exact LeO.none _
   | refine LeO.ite ?_ ?_
   | refine LeO.bind ?_ (fun _ => ?_)
def height_Check.T3 : Bool × List (List Nat × List Nat) := (true, [([], []), ([0], [0]), ([1], [1]), ([1], [1]), ([3, 1], [1, 3]), ([4, 1, 1], [1, 4]), ([2, 5, 1], [1, 2, 5]), ([1, 6], [1, 6]), ([7, 5, 0, 1, 2, 3, 4, 5, 6, 7], [0, 7])])
def height_Check.B3 : List Nat := [0, 1, 3, 3, 11, 27, 63, 127, 255]
theorem height_Check.tab3 : rtab .any (opsOf Try.f48 3) = height_Check.T3 := by kernel_rfl
theorem height_Check.bits3 : waitsOk height_Check.T3.2 height_Check.B3 = true := by kernel_rfl
theorem height_Check.calls (k : Nat) (a0_0 : Bool) (a0_1 : Int) (a0_2 : Int) (a0_3 : Int) (a0_4 : Int) (a0_5 : Int) (r : Int) (w : World) (h : height_Check.f k a0_0 a0_1 a0_2 a0_3 a0_4 a0_5 = some r) :
  Calls Try.prog 48 #[.agg #[.bool a0_0, .int .i64 a0_1, .int .i64 a0_2, .int .i64 a0_3, .int .i64 a0_4, .int .i64 a0_5]] w fun e w' => e = .returned (.int .i64 r) ∧ Below w.heap.size w w' := by
 have hu30 := Try.underlying30
 have HB := YI (Below.refl w.heap.size w)
 have H : (if a0_5 ≥ 0 then (height_Check.j0 k (decide (a0_5 < 64)) a0_0 a0_1 a0_2 a0_3 a0_4 a0_5) else (height_Check.j0 k false a0_0 a0_1 a0_2 a0_3 a0_4 a0_5)) = some r := h
 clear h; have HC2 := YI H; clear H
 go_enter Try.func48, Try.ntmps48
 go_upto_region 1 with (first | ((with_reducible refine gate_dst (N := 1) rfl ?_); refine box_event ?hg (N := 1) ?hd (cs := #[.bool a0_0, .int .i64 a0_1, .int .i64 a0_2, .int .i64 a0_3, .int .i64 a0_4, .int .i64 a0_5]) (t := 30) ?hr ?_; (case hd => rfl); (case hg => rfl); (case hr => first | (go_simp; done) | (go_simp; rfl)); intro gb125 hg w3 hbox hb; have n0_ := YI (below_step (by repeat (first | (with_reducible first | exact HB.out | apply YA | apply YB | apply YC) | exact HB.out)) hb); have n1_ := YI (hbox); have n2_ := YI ((by rw [hg]; exact (below_size (by repeat (first | (with_reducible first | exact HB.out | apply YA | apply YB | apply YC) | exact HB.out))) : w.heap.size ≤ gb125)); have n3_ := YI ((by rw [hg]; exact (below_size (by repeat (first | (with_reducible first | exact HB.out | apply YA | apply YB | apply YC) | exact HB.out))) : w.heap.size ≤ gb125)); clear HB; have HB := n0_; have BK125 := n1_; have GW125 := n2_; have GE125 := n3_; clear n0_ n1_ n2_ n3_; clear hb hbox hg))
 (try simp only [Act.put, YJ, YK, YL])
 go_cut [3] (fun v3 wc => ∃ (kq : Nat) (x3_1 : Bool), v3 = .bool x3_1 ∧ Aside0 (height_Check.j0 kq x3_1 a0_0 a0_1 a0_2 a0_3 a0_4 a0_5 = some r) ∧ Aside0 (kq ≤ k) ∧ Aside0 (wc.heap[gb125]? = some (.cells #[.bool a0_0, .int .i64 a0_1, .int .i64 a0_2, .int .i64 a0_3, .int .i64 a0_4, .int .i64 a0_5] 30 (0, 0))) ∧ Aside0 (Below w.heap.size w wc))
 case first =>
  have H := HC2.out
  clear HC2
  by_cases c4 : a0_5 ≥ 0
  ·rw [if_pos c4] at H
   have c4b0 : decide (0 ≤ a0_5) = true := decide_eq_true c4; clear c4
   (first | rw [c4b0] | (simp only [i64_w, i32_w]; rw [c4b0]) | rw [c4b1] | skip)
   have H' := YI H
   clear H
   have q5_0 : w3.cell? ⟨gb125, 0, none⟩ = some (.bool a0_0) := (YG BK125.out 0).trans rfl
   have q5_1 : w3.cell? ⟨gb125, 1, none⟩ = some (.int .i64 a0_1) := (YG BK125.out 1).trans rfl
   have q5_2 : w3.cell? ⟨gb125, 2, none⟩ = some (.int .i64 a0_2) := (YG BK125.out 2).trans rfl
   have q5_3 : w3.cell? ⟨gb125, 3, none⟩ = some (.int .i64 a0_3) := (YG BK125.out 3).trans rfl
   have q5_4 : w3.cell? ⟨gb125, 4, none⟩ = some (.int .i64 a0_4) := (YG BK125.out 4).trans rfl
   have q5_5 : w3.cell? ⟨gb125, 5, none⟩ = some (.int .i64 a0_5) := (YG BK125.out 5).trans rfl
   have f5_0 := YH BK125.out 0
   have f5_1 := YH BK125.out 1
   have f5_2 := YH BK125.out 2
   have f5_3 := YH BK125.out 3
   have f5_4 := YH BK125.out 4
   have f5_5 := YH BK125.out 5
   go_wp2
   go_meet
   case rel => exact ⟨_, (decide (a0_5 < 64)), (by first | rfl | (simp; done) | (simp [*]; done)), H', ⟨by first | omega | exact Nat.le_refl _⟩, ⟨by (with_reducible repeat (first | refine YD ?_ _ | refine YE ?_ | refine YF ?_ _)); exact BK125.out⟩, ⟨by repeat (first | (with_reducible first | exact HB.out | apply YA | apply YB | apply YC | refine below_set ?_ GE125.out) | exact HB.out)⟩⟩
  rw [if_neg c4] at H; have c4b0 : decide (0 ≤ a0_5) = false := decide_eq_false c4; clear c4
  (first | rw [c4b0] | (simp only [i64_w, i32_w]; rw [c4b0]) | rw [c4b1] | skip)
  have H' := YI H
  clear H
  have q6_0 : w3.cell? ⟨gb125, 0, none⟩ = some (.bool a0_0) := (YG BK125.out 0).trans rfl
  have q6_1 : w3.cell? ⟨gb125, 1, none⟩ = some (.int .i64 a0_1) := (YG BK125.out 1).trans rfl
  have q6_2 : w3.cell? ⟨gb125, 2, none⟩ = some (.int .i64 a0_2) := (YG BK125.out 2).trans rfl
  have q6_3 : w3.cell? ⟨gb125, 3, none⟩ = some (.int .i64 a0_3) := (YG BK125.out 3).trans rfl
  have q6_4 : w3.cell? ⟨gb125, 4, none⟩ = some (.int .i64 a0_4) := (YG BK125.out 4).trans rfl
  have q6_5 : w3.cell? ⟨gb125, 5, none⟩ = some (.int .i64 a0_5) := (YG BK125.out 5).trans rfl
  have f6_0 := YH BK125.out 0
  have f6_1 := YH BK125.out 1
  have f6_2 := YH BK125.out 2
  have f6_3 := YH BK125.out 3
  have f6_4 := YH BK125.out 4
  have f6_5 := YH BK125.out 5
  go_wp2
  go_meet
  case rel => exact ⟨_, (false), (by first | rfl | (simp; done) | (simp [*]; done)), H', ⟨by first | omega | exact Nat.le_refl _⟩, ⟨by (with_reducible repeat (first | refine YD ?_ _ | refine YE ?_ | refine YF ?_ _)); exact BK125.out⟩, ⟨by repeat (first | (with_reducible first | exact HB.out | apply YA | apply YB | apply YC | refine below_set ?_ GE125.out) | exact HB.out)⟩⟩
 case rest =>
  clear HC2
  try clear p2; try clear c4
  try clear c4b0; try clear q5_0
  try clear q5_1; try clear q5_2
  try clear q5_3; try clear q5_4
  try clear q5_5; try clear q6_0
  try clear q6_1; try clear q6_2
  try clear q6_3; try clear q6_4
  try clear q6_5; try clear f5_0
  try clear f5_1; try clear f5_2
  try clear f5_3; try clear f5_4
  try clear f5_5; try clear f6_0
  try clear f6_1; try clear f6_2
  try clear f6_3; try clear f6_4; try clear f6_5
  obtain ⟨kq, x3_1, rfl, HA, HJ1, BK125, HB⟩ := hcut
  cases kq with
  | zero => exact absurd HA.out (by simp [height_Check.j0])
  | succ kj1 =>
   have H := HA.out
   clear HA
   simp only [height_Check.j0] at H
   by_cases c7 : a0_0 = true
   ·subst c7
    have H1 : (if x3_1 = true then ((height_Null.f a0_5).bind fun bt126 => (if ((bt126.1 && (a0_1 == bt126.2.1 && (a0_2 == bt126.2.2.1 && (a0_3 == bt126.2.2.2.1 && (a0_4 == bt126.2.2.2.2.1 && (a0_5 == bt126.2.2.2.2.2)))))) = true) then (some 0) else (some 1))) else (some 1)) = some r := by rw [if_pos rfl] at H; exact H
    clear H
    have H := H1
    clear H1
    by_cases c8 : x3_1 = true
    ·subst c8
     have H1 : ((height_Null.f a0_5).bind fun bt126 => (if ((bt126.1 && (a0_1 == bt126.2.1 && (a0_2 == bt126.2.2.1 && (a0_3 == bt126.2.2.2.1 && (a0_4 == bt126.2.2.2.2.1 && (a0_5 == bt126.2.2.2.2.2)))))) = true) then (some 0) else (some 1))) = some r := by rw [if_pos rfl] at H; exact H
     clear H
     have H := H1
     clear H1; replace H := Option.bind_eq_some_iff.mp H
     obtain ⟨⟨t126, t127, t128, t129, t130, t131⟩, A90, H⟩ := H
     replace H : (if ((t126 && (a0_1 == t127 && (a0_2 == t128 && (a0_3 == t129 && (a0_4 == t130 && (a0_5 == t131)))))) = true) then (some 0) else (some 1)) = some r := H
     have A9 := YI A90; clear A90
     by_cases c10 : ((t126 && (a0_1 == t127 && (a0_2 == t128 && (a0_3 == t129 && (a0_4 == t130 && (a0_5 == t131)))))) = true)
     ·rw [if_pos c10] at H
      have c10b0 : (t126 && (a0_1 == t127 && (a0_2 == t128 && (a0_3 == t129 && (a0_4 == t130 && (a0_5 == t131)))))) = true := c10
      clear c10
      obtain rfl := Option.some.inj H
      have q11_0 : wc.cell? ⟨gb125, 0, none⟩ = some (.bool true) := (YG BK125.out 0).trans rfl
      have q11_1 : wc.cell? ⟨gb125, 1, none⟩ = some (.int .i64 a0_1) := (YG BK125.out 1).trans rfl
      have q11_2 : wc.cell? ⟨gb125, 2, none⟩ = some (.int .i64 a0_2) := (YG BK125.out 2).trans rfl
      have q11_3 : wc.cell? ⟨gb125, 3, none⟩ = some (.int .i64 a0_3) := (YG BK125.out 3).trans rfl
      have q11_4 : wc.cell? ⟨gb125, 4, none⟩ = some (.int .i64 a0_4) := (YG BK125.out 4).trans rfl
      have q11_5 : wc.cell? ⟨gb125, 5, none⟩ = some (.int .i64 a0_5) := (YG BK125.out 5).trans rfl
      have f11_0 := YH BK125.out 0
      have f11_1 := YH BK125.out 1
      have f11_2 := YH BK125.out 2
      have f11_3 := YH BK125.out 3
      have f11_4 := YH BK125.out 4
      have f11_5 := YH BK125.out 5
      try go_wp2
      have n0_ := YI (YE BK125.out)
      have n1_ := YI (YC HB.out)
      clear BK125; clear HB; have BK125 := n0_; have HB := n1_; clear n0_ n1_
      refine start_ (n := 9) (S := fun w' => w'.cell? ⟨gb125, 0, none⟩ = some (.bool true) ∧ w'.cell? ⟨gb125, 1, none⟩ = some (.int .i64 a0_1) ∧ w'.cell? ⟨gb125, 2, none⟩ = some (.int .i64 a0_2) ∧ w'.cell? ⟨gb125, 3, none⟩ = some (.int .i64 a0_3) ∧ w'.cell? ⟨gb125, 4, none⟩ = some (.int .i64 a0_4) ∧ w'.cell? ⟨gb125, 5, none⟩ = some (.int .i64 a0_5)) (ds := []) #[false, false, false, false, false, false, false, false, false] (by kernel_rfl) rfl rfl ⟨(YG BK125.out 0).trans rfl, (YG BK125.out 1).trans rfl, (YG BK125.out 2).trans rfl, (YG BK125.out 3).trans rfl, (YG BK125.out 4).trans rfl, (YG BK125.out 5).trans rfl⟩ (fun hHeld => ?_); refine with_tabW height_Check.tab3 height_Check.bits3 (fun HT_ HW_ => ?_)
      generalize wc.drew = w12 at BK125 HB hHeld ⊢
      refine pure_ (i := 0) (N := some 14) (v := ?_) (a' := ?_) #[true, false, false, false, false, false, false, false, false] rfl rfl (any_of HT_.out (by kernel_rfl)) (fun _ _ _ h => h) (Or.inl ⟨by rfl, ?_⟩) ?_ ?_
      rotate_left
      ·intro w'
       go_simp; with_reducible rfl
      rotate_left
      ·simp only [Act.put, YJ, YK, YL, i64_w, i32_w]
       rfl
      refine pure_ (i := 1) (N := some 15) (v := ?_) (a' := ?_) #[true, true, false, false, false, false, false, false, false] rfl rfl (any_of HT_.out (by kernel_rfl)) (fun _ _ _ h => h) (Or.inl ⟨by rfl, ?_⟩) ?_ ?_
      rotate_left
      ·intro w'
       go_simp; with_reducible rfl
      rotate_left
      ·simp only [Act.put, YJ, YK, YL, i64_w, i32_w]
       rfl
      refine pure_ (i := 3) (N := some 17) (v := ?_) (a' := ?_) #[true, true, false, true, false, false, false, false, false] rfl rfl (any_of HT_.out (by kernel_rfl)) (fun _ _ _ h => h) (Or.inl ⟨by rfl, ?_⟩) ?_ ?_
      rotate_left
      ·intro w'
       go_simp; with_reducible rfl
      rotate_left
      ·simp only [Act.put, YJ, YK, YL, i64_w, i32_w]
       rfl
      refine take_ (i := 2) (N := some 16) (v := ?_) (a' := ?_) #[true, true, true, true, false, false, false, false, false] rfl rfl (take_ofW HT_.out HW_.out (by kernel_rfl)) (fun _ _ _ h => h) (Or.inl ⟨by rfl, ?_⟩) hHeld ?_ ?_
      rotate_left
      ·rintro w' ⟨s0, s1, s2, s3, s4, s5⟩
       go_simp; with_reducible rfl
      rotate_left
      ·simp only [Act.put, YJ, YK, YL, i64_w, i32_w]
       rfl
      refine take_ (i := 4) (N := some 18) (v := ?_) (a' := ?_) #[true, true, true, true, true, false, false, false, false] rfl rfl (take_ofW HT_.out HW_.out (by kernel_rfl)) (fun _ _ _ h => h) (Or.inl ⟨by rfl, ?_⟩) hHeld ?_ ?_
      rotate_left
      ·rintro w' ⟨s0, s1, s2, s3, s4, s5⟩
       go_simp; with_reducible rfl
      rotate_left
      ·simp only [Act.put, YJ, YK, YL, i64_w, i32_w]
       rfl
      refine one_ (i := 5) (N := some 19) #[true, true, true, true, true, true, false, false, false] rfl rfl (one_of HT_.out (by kernel_rfl)) (by decide) (fun K hK => ?_)
      refine goes_ Try.func65 (by kernel_rfl) rfl #[.int .i64 a0_5] (by rfl) rfl rfl (by (try simp only [List.map_toArray, List.map_cons, List.map_nil]); first | done | rfl | (simp only [List.length_drop, List.length_take]; rfl)) ?_
      with_reducible refine (height_Null.calls a0_5 t126 t127 t128 t129 t130 t131 _ A9.out).mono ?_
      rintro e w13 ⟨rfl, hb⟩
      refine ⟨_, rfl, ?_⟩
      have n0_ := YI (blk_below (g := gb125) (o := .cells #[.bool true, .int .i64 a0_1, .int .i64 a0_2, .int .i64 a0_3, .int .i64 a0_4, .int .i64 a0_5] 30 (0, 0)) (by (with_reducible repeat (first | refine YD ?_ _ | refine YE ?_ | refine YF ?_ _)); exact BK125.out) hb)
      have n1_ := YI (below_step (by repeat (first | (with_reducible first | exact HB.out | apply YA | apply YB | apply YC | refine below_set ?_ GE125.out) | exact HB.out)) hb)
      clear BK125; clear HB; have BK125 := n0_; have HB := n1_; clear n0_ n1_; (try clear hb); (try clear hb2); (try clear hk); (try clear hi)
      refine hK.out _ _ ⟨(YG BK125.out 0).trans rfl, (YG BK125.out 1).trans rfl, (YG BK125.out 2).trans rfl, (YG BK125.out 3).trans rfl, (YG BK125.out 4).trans rfl, (YG BK125.out 5).trans rfl⟩ (fun hHeld => ?_)
      clear hK K
      refine norm_ (a' := ?_) ?_ ?_
      rotate_left
      ·show Act.put _ (some 19) _ = _
       simp only [Act.put, YJ, YK, YL, i64_w, i32_w]
       rfl
      refine pure_ (i := 6) (N := some 20) (v := ?_) (a' := ?_) #[true, true, true, true, true, true, true, false, false] rfl rfl (any_of HT_.out (by kernel_rfl)) (fun _ _ _ h => h) (Or.inl ⟨by rfl, ?_⟩) ?_ ?_
      rotate_left
      ·intro w'
       go_simp; with_reducible rfl
      rotate_left
      ·simp only [Act.put, YJ, YK, YL, i64_w, i32_w]
       rfl
      refine pure_ (i := 7) (N := some 21) (v := ?_) (a' := ?_) #[true, true, true, true, true, true, true, true, false] rfl rfl (any_of HT_.out (by kernel_rfl)) (fun _ _ _ h => h) (Or.inl ⟨by rfl, ?_⟩) ?_ ?_
      rotate_left
      ·intro w'
       go_simp; with_reducible rfl
      rotate_left
      ·simp only [Act.put, YJ, YK, YL, i64_w, i32_w]
       rfl
      refine pure_ (i := 8) (N := some 3) (v := ?_) (a' := ?_) #[true, true, true, true, true, true, true, true, true] rfl rfl (any_of HT_.out (by kernel_rfl)) (fun _ _ _ h => h) (Or.inl ⟨by rfl, ?_⟩) ?_ ?_
      rotate_left
      ·intro w'
       go_simp; with_reducible rfl
      rotate_left
      ·simp only [Act.put, YJ, YK, YL, i64_w, i32_w]
       rfl
      refine done_ (done_of HT_.out (by kernel_rfl)) ?_
      try go_wp2
      go_ret
      exact ⟨by first | rfl | (simp [errW_none, errW_some] <;> rfl) | (simp [*, errW_none, errW_some] <;> rfl), by repeat (first | (with_reducible first | exact HB.out | apply YA | apply YB | apply YC | refine below_set ?_ GE125.out) | exact HB.out)⟩
     rw [if_neg c10] at H
     have c10b0 : (t126 && (a0_1 == t127 && (a0_2 == t128 && (a0_3 == t129 && (a0_4 == t130 && (a0_5 == t131)))))) = false := by simpa using c10
     clear c10
     obtain rfl := Option.some.inj H
     have q14_0 : wc.cell? ⟨gb125, 0, none⟩ = some (.bool true) := (YG BK125.out 0).trans rfl
     have q14_1 : wc.cell? ⟨gb125, 1, none⟩ = some (.int .i64 a0_1) := (YG BK125.out 1).trans rfl
     have q14_2 : wc.cell? ⟨gb125, 2, none⟩ = some (.int .i64 a0_2) := (YG BK125.out 2).trans rfl
     have q14_3 : wc.cell? ⟨gb125, 3, none⟩ = some (.int .i64 a0_3) := (YG BK125.out 3).trans rfl
     have q14_4 : wc.cell? ⟨gb125, 4, none⟩ = some (.int .i64 a0_4) := (YG BK125.out 4).trans rfl
     have q14_5 : wc.cell? ⟨gb125, 5, none⟩ = some (.int .i64 a0_5) := (YG BK125.out 5).trans rfl
     have f14_0 := YH BK125.out 0
     have f14_1 := YH BK125.out 1
     have f14_2 := YH BK125.out 2
     have f14_3 := YH BK125.out 3
     have f14_4 := YH BK125.out 4
     have f14_5 := YH BK125.out 5
     try go_wp2
     have n0_ := YI (YE BK125.out)
     have n1_ := YI (YC HB.out)
     clear BK125; clear HB; have BK125 := n0_; have HB := n1_; clear n0_ n1_
     refine start_ (n := 9) (S := fun w' => w'.cell? ⟨gb125, 0, none⟩ = some (.bool true) ∧ w'.cell? ⟨gb125, 1, none⟩ = some (.int .i64 a0_1) ∧ w'.cell? ⟨gb125, 2, none⟩ = some (.int .i64 a0_2) ∧ w'.cell? ⟨gb125, 3, none⟩ = some (.int .i64 a0_3) ∧ w'.cell? ⟨gb125, 4, none⟩ = some (.int .i64 a0_4) ∧ w'.cell? ⟨gb125, 5, none⟩ = some (.int .i64 a0_5)) (ds := []) #[false, false, false, false, false, false, false, false, false] (by kernel_rfl) rfl rfl ⟨(YG BK125.out 0).trans rfl, (YG BK125.out 1).trans rfl, (YG BK125.out 2).trans rfl, (YG BK125.out 3).trans rfl, (YG BK125.out 4).trans rfl, (YG BK125.out 5).trans rfl⟩ (fun hHeld => ?_); refine with_tabW height_Check.tab3 height_Check.bits3 (fun HT_ HW_ => ?_)
     generalize wc.drew = w15 at BK125 HB hHeld ⊢
     refine pure_ (i := 0) (N := some 14) (v := ?_) (a' := ?_) #[true, false, false, false, false, false, false, false, false] rfl rfl (any_of HT_.out (by kernel_rfl)) (fun _ _ _ h => h) (Or.inl ⟨by rfl, ?_⟩) ?_ ?_
     rotate_left
     ·intro w'
      go_simp; with_reducible rfl
     rotate_left
     ·simp only [Act.put, YJ, YK, YL, i64_w, i32_w]
      rfl
     refine pure_ (i := 1) (N := some 15) (v := ?_) (a' := ?_) #[true, true, false, false, false, false, false, false, false] rfl rfl (any_of HT_.out (by kernel_rfl)) (fun _ _ _ h => h) (Or.inl ⟨by rfl, ?_⟩) ?_ ?_
     rotate_left
     ·intro w'
      go_simp; with_reducible rfl
     rotate_left
     ·simp only [Act.put, YJ, YK, YL, i64_w, i32_w]
      rfl
     refine pure_ (i := 3) (N := some 17) (v := ?_) (a' := ?_) #[true, true, false, true, false, false, false, false, false] rfl rfl (any_of HT_.out (by kernel_rfl)) (fun _ _ _ h => h) (Or.inl ⟨by rfl, ?_⟩) ?_ ?_
     rotate_left
     ·intro w'
      go_simp; with_reducible rfl
     rotate_left
     ·simp only [Act.put, YJ, YK, YL, i64_w, i32_w]
      rfl
     refine take_ (i := 2) (N := some 16) (v := ?_) (a' := ?_) #[true, true, true, true, false, false, false, false, false] rfl rfl (take_ofW HT_.out HW_.out (by kernel_rfl)) (fun _ _ _ h => h) (Or.inl ⟨by rfl, ?_⟩) hHeld ?_ ?_
     rotate_left
     ·rintro w' ⟨s0, s1, s2, s3, s4, s5⟩
      go_simp; with_reducible rfl
     rotate_left
     ·simp only [Act.put, YJ, YK, YL, i64_w, i32_w]
      rfl
     refine take_ (i := 4) (N := some 18) (v := ?_) (a' := ?_) #[true, true, true, true, true, false, false, false, false] rfl rfl (take_ofW HT_.out HW_.out (by kernel_rfl)) (fun _ _ _ h => h) (Or.inl ⟨by rfl, ?_⟩) hHeld ?_ ?_
     rotate_left
     ·rintro w' ⟨s0, s1, s2, s3, s4, s5⟩
      go_simp; with_reducible rfl
     rotate_left
     ·simp only [Act.put, YJ, YK, YL, i64_w, i32_w]
      rfl
     refine one_ (i := 5) (N := some 19) #[true, true, true, true, true, true, false, false, false] rfl rfl (one_of HT_.out (by kernel_rfl)) (by decide) (fun K hK => ?_)
     refine goes_ Try.func65 (by kernel_rfl) rfl #[.int .i64 a0_5] (by rfl) rfl rfl (by (try simp only [List.map_toArray, List.map_cons, List.map_nil]); first | done | rfl | (simp only [List.length_drop, List.length_take]; rfl)) ?_
     with_reducible refine (height_Null.calls a0_5 t126 t127 t128 t129 t130 t131 _ A9.out).mono ?_
     rintro e w16 ⟨rfl, hb⟩
     refine ⟨_, rfl, ?_⟩
     have n0_ := YI (blk_below (g := gb125) (o := .cells #[.bool true, .int .i64 a0_1, .int .i64 a0_2, .int .i64 a0_3, .int .i64 a0_4, .int .i64 a0_5] 30 (0, 0)) (by (with_reducible repeat (first | refine YD ?_ _ | refine YE ?_ | refine YF ?_ _)); exact BK125.out) hb)
     have n1_ := YI (below_step (by repeat (first | (with_reducible first | exact HB.out | apply YA | apply YB | apply YC | refine below_set ?_ GE125.out) | exact HB.out)) hb)
     clear BK125; clear HB; have BK125 := n0_; have HB := n1_; clear n0_ n1_; (try clear hb); (try clear hb2); (try clear hk); (try clear hi)
     refine hK.out _ _ ⟨(YG BK125.out 0).trans rfl, (YG BK125.out 1).trans rfl, (YG BK125.out 2).trans rfl, (YG BK125.out 3).trans rfl, (YG BK125.out 4).trans rfl, (YG BK125.out 5).trans rfl⟩ (fun hHeld => ?_)
     clear hK K
     refine norm_ (a' := ?_) ?_ ?_
     rotate_left
     ·show Act.put _ (some 19) _ = _
      simp only [Act.put, YJ, YK, YL, i64_w, i32_w]
      rfl
     refine pure_ (i := 6) (N := some 20) (v := ?_) (a' := ?_) #[true, true, true, true, true, true, true, false, false] rfl rfl (any_of HT_.out (by kernel_rfl)) (fun _ _ _ h => h) (Or.inl ⟨by rfl, ?_⟩) ?_ ?_
     rotate_left
     ·intro w'
      go_simp; with_reducible rfl
     rotate_left
     ·simp only [Act.put, YJ, YK, YL, i64_w, i32_w]
      rfl
     refine pure_ (i := 7) (N := some 21) (v := ?_) (a' := ?_) #[true, true, true, true, true, true, true, true, false] rfl rfl (any_of HT_.out (by kernel_rfl)) (fun _ _ _ h => h) (Or.inl ⟨by rfl, ?_⟩) ?_ ?_
     rotate_left
     ·intro w'
      go_simp; with_reducible rfl
     rotate_left
     ·simp only [Act.put, YJ, YK, YL, i64_w, i32_w]
      rfl
     refine pure_ (i := 8) (N := some 3) (v := ?_) (a' := ?_) #[true, true, true, true, true, true, true, true, true] rfl rfl (any_of HT_.out (by kernel_rfl)) (fun _ _ _ h => h) (Or.inl ⟨by rfl, ?_⟩) ?_ ?_
     rotate_left
     ·intro w'
      go_simp; with_reducible rfl
     rotate_left
     ·simp only [Act.put, YJ, YK, YL, i64_w, i32_w]
      rfl
     refine done_ (done_of HT_.out (by kernel_rfl)) ?_
     try go_wp2
     go_ret
     exact ⟨by first | rfl | (simp [errW_none, errW_some] <;> rfl) | (simp [*, errW_none, errW_some] <;> rfl), by repeat (first | (with_reducible first | exact HB.out | apply YA | apply YB | apply YC | refine below_set ?_ GE125.out) | exact HB.out)⟩
    replace c8 := Bool.eq_false_iff.mpr c8
    subst c8
    have H1 : (some 1) = some r := by rw [if_neg (show ¬ (false = true) by decide)] at H; exact H
    clear H
    have H := H1
    clear H1
    obtain rfl := Option.some.inj H
    have q17_0 : wc.cell? ⟨gb125, 0, none⟩ = some (.bool true) := (YG BK125.out 0).trans rfl
    have q17_1 : wc.cell? ⟨gb125, 1, none⟩ = some (.int .i64 a0_1) := (YG BK125.out 1).trans rfl
    have q17_2 : wc.cell? ⟨gb125, 2, none⟩ = some (.int .i64 a0_2) := (YG BK125.out 2).trans rfl
    have q17_3 : wc.cell? ⟨gb125, 3, none⟩ = some (.int .i64 a0_3) := (YG BK125.out 3).trans rfl
    have q17_4 : wc.cell? ⟨gb125, 4, none⟩ = some (.int .i64 a0_4) := (YG BK125.out 4).trans rfl
    have q17_5 : wc.cell? ⟨gb125, 5, none⟩ = some (.int .i64 a0_5) := (YG BK125.out 5).trans rfl
    have f17_0 := YH BK125.out 0
    have f17_1 := YH BK125.out 1
    have f17_2 := YH BK125.out 2
    have f17_3 := YH BK125.out 3
    have f17_4 := YH BK125.out 4
    have f17_5 := YH BK125.out 5
    try go_wp2
    have n0_ := YI (YE BK125.out)
    have n1_ := YI (YC HB.out)
    clear BK125; clear HB; have BK125 := n0_; have HB := n1_; clear n0_ n1_
    refine start_ (n := 9) (S := fun w' => True) (ds := []) #[false, false, false, false, false, false, false, false, false] (by kernel_rfl) rfl rfl trivial (fun hHeld => ?_); refine with_tabW height_Check.tab3 height_Check.bits3 (fun HT_ HW_ => ?_)
    generalize wc.drew = w18 at BK125 HB hHeld ⊢
    refine pure_ (i := 0) (N := some 14) (v := ?_) (a' := ?_) #[true, false, false, false, false, false, false, false, false] rfl rfl (any_of HT_.out (by kernel_rfl)) (fun _ _ _ h => h) (Or.inl ⟨by rfl, ?_⟩) ?_ ?_
    rotate_left
    ·intro w'
     go_simp; with_reducible rfl
    rotate_left
    ·simp only [Act.put, YJ, YK, YL, i64_w, i32_w]
     rfl
    refine pure_ (i := 1) (N := some 15) (v := ?_) (a' := ?_) #[true, true, false, false, false, false, false, false, false] rfl rfl (any_of HT_.out (by kernel_rfl)) (fun _ _ _ h => h) (Or.inl ⟨by rfl, ?_⟩) ?_ ?_
    rotate_left
    ·intro w'
     go_simp; with_reducible rfl
    rotate_left
    ·simp only [Act.put, YJ, YK, YL, i64_w, i32_w]
     rfl
    refine pure_ (i := 2) (N := some 16) (v := undef) (a' := ?_) #[true, true, true, false, false, false, false, false, false] rfl rfl (any_of HT_.out (by kernel_rfl)) (fun _ _ _ h => h) (Or.inr ⟨by rfl, rfl⟩) ?_ ?_
    rotate_left
    ·simp only [Act.put, YJ, YK, YL, i64_w, i32_w]
     rfl
    refine pure_ (i := 3) (N := some 17) (v := undef) (a' := ?_) #[true, true, true, true, false, false, false, false, false] rfl rfl (any_of HT_.out (by kernel_rfl)) (fun _ _ _ h => h) (Or.inr ⟨by rfl, rfl⟩) ?_ ?_
    rotate_left
    ·simp only [Act.put, YJ, YK, YL, i64_w, i32_w]
     rfl
    refine pure_ (i := 4) (N := some 18) (v := undef) (a' := ?_) #[true, true, true, true, true, false, false, false, false] rfl rfl (any_of HT_.out (by kernel_rfl)) (fun _ _ _ h => h) (Or.inr ⟨by rfl, rfl⟩) ?_ ?_
    rotate_left
    ·simp only [Act.put, YJ, YK, YL, i64_w, i32_w]
     rfl
    refine pure_ (i := 5) (N := some 19) (v := undef) (a' := ?_) #[true, true, true, true, true, true, false, false, false] rfl rfl (any_of HT_.out (by kernel_rfl)) (fun _ _ _ h => h) (Or.inr ⟨by rfl, rfl⟩) ?_ ?_
    rotate_left
    ·simp only [Act.put, YJ, YK, YL, i64_w, i32_w]
     rfl
    refine pure_ (i := 6) (N := some 20) (v := undef) (a' := ?_) #[true, true, true, true, true, true, true, false, false] rfl rfl (any_of HT_.out (by kernel_rfl)) (fun _ _ _ h => h) (Or.inr ⟨by rfl, rfl⟩) ?_ ?_
    rotate_left
    ·simp only [Act.put, YJ, YK, YL, i64_w, i32_w]
     rfl
    refine pure_ (i := 7) (N := some 21) (v := ?_) (a' := ?_) #[true, true, true, true, true, true, true, true, false] rfl rfl (any_of HT_.out (by kernel_rfl)) (fun _ _ _ h => h) (Or.inl ⟨by rfl, ?_⟩) ?_ ?_
    rotate_left
    ·intro w'
     go_simp; with_reducible rfl
    rotate_left
    ·simp only [Act.put, YJ, YK, YL, i64_w, i32_w]
     rfl
    refine pure_ (i := 8) (N := some 3) (v := ?_) (a' := ?_) #[true, true, true, true, true, true, true, true, true] rfl rfl (any_of HT_.out (by kernel_rfl)) (fun _ _ _ h => h) (Or.inl ⟨by rfl, ?_⟩) ?_ ?_
    rotate_left
    ·intro w'
     go_simp; with_reducible rfl
    rotate_left
    ·simp only [Act.put, YJ, YK, YL, i64_w, i32_w]
     rfl
    refine done_ (done_of HT_.out (by kernel_rfl)) ?_
    try go_wp2
    go_ret
    exact ⟨by first | rfl | (simp [errW_none, errW_some] <;> rfl) | (simp [*, errW_none, errW_some] <;> rfl), by repeat (first | (with_reducible first | exact HB.out | apply YA | apply YB | apply YC | refine below_set ?_ GE125.out) | exact HB.out)⟩
   replace c7 := Bool.eq_false_iff.mpr c7
   subst c7
   have H1 : (if x3_1 = true then (if a0_1 ≥ 0 then (if a0_1 ≤ 4611686018427387903 then (if a0_2 ≥ 0 then (if a0_2 < 64 then (if (a0_3 / 2) = 0 then (if a0_4 ≥ (-1099511627776) then (if a0_4 ≤ 1099511627776 then (some 0) else (some 1)) else (some 1)) else (some 1)) else (some 1)) else (some 1)) else (some 1)) else (some 1)) else (some 1)) = some r := by rw [if_neg (show ¬ (false = true) by decide)] at H; exact H
   clear H
   have H := H1
   clear H1
   by_cases c19 : x3_1 = true
   ·subst c19
    have H1 : (if a0_1 ≥ 0 then (if a0_1 ≤ 4611686018427387903 then (if a0_2 ≥ 0 then (if a0_2 < 64 then (if (a0_3 / 2) = 0 then (if a0_4 ≥ (-1099511627776) then (if a0_4 ≤ 1099511627776 then (some 0) else (some 1)) else (some 1)) else (some 1)) else (some 1)) else (some 1)) else (some 1)) else (some 1)) = some r := by rw [if_pos rfl] at H; exact H
    clear H
    have H := H1
    clear H1
    by_cases c20 : a0_1 ≥ 0
    ·rw [if_pos c20] at H
     have c20b0 : decide (0 ≤ a0_1) = true := decide_eq_true c20; clear c20
     by_cases c21 : a0_1 ≤ 4611686018427387903
     ·rw [if_pos c21] at H
      have c21b0 : decide (a0_1 ≤ 4611686018427387903) = true := decide_eq_true c21; clear c21
      by_cases c22 : a0_2 ≥ 0
      ·rw [if_pos c22] at H
       have c22b0 : decide (0 ≤ a0_2) = true := decide_eq_true c22; clear c22
       by_cases c23 : a0_2 < 64
       ·rw [if_pos c23] at H
        have c23b0 : decide (a0_2 < 64) = true := decide_eq_true c23; clear c23
        by_cases c24 : (a0_3 / 2) = 0
        ·rw [if_pos c24] at H
         have c24b0 : ((a0_3 / 2) == 0) = true := beq_iff_eq.mpr c24
         have c24b1 : ((a0_3 / 2) != 0) = false := bne_eq_false_iff_eq.mpr c24
         clear c24
         by_cases c25 : a0_4 ≥ (-1099511627776)
         ·rw [if_pos c25] at H
          have c25b0 : decide ((-1099511627776) ≤ a0_4) = true := decide_eq_true c25; clear c25
          by_cases c26 : a0_4 ≤ 1099511627776
          ·rw [if_pos c26] at H
           have c26b0 : decide (a0_4 ≤ 1099511627776) = true := decide_eq_true c26; clear c26
           obtain rfl := Option.some.inj H
           have q27_0 : wc.cell? ⟨gb125, 0, none⟩ = some (.bool false) := (YG BK125.out 0).trans rfl
           have q27_1 : wc.cell? ⟨gb125, 1, none⟩ = some (.int .i64 a0_1) := (YG BK125.out 1).trans rfl
           have q27_2 : wc.cell? ⟨gb125, 2, none⟩ = some (.int .i64 a0_2) := (YG BK125.out 2).trans rfl
           have q27_3 : wc.cell? ⟨gb125, 3, none⟩ = some (.int .i64 a0_3) := (YG BK125.out 3).trans rfl
           have q27_4 : wc.cell? ⟨gb125, 4, none⟩ = some (.int .i64 a0_4) := (YG BK125.out 4).trans rfl
           have q27_5 : wc.cell? ⟨gb125, 5, none⟩ = some (.int .i64 a0_5) := (YG BK125.out 5).trans rfl
           have f27_0 := YH BK125.out 0
           have f27_1 := YH BK125.out 1
           have f27_2 := YH BK125.out 2
           have f27_3 := YH BK125.out 3
           have f27_4 := YH BK125.out 4
           have f27_5 := YH BK125.out 5
           go_wp2
           go_ret
           exact ⟨by first | rfl | (simp [errW_none, errW_some] <;> rfl) | (simp [*, errW_none, errW_some] <;> rfl), by repeat (first | (with_reducible first | exact HB.out | apply YA | apply YB | apply YC | refine below_set ?_ GE125.out) | exact HB.out)⟩
          rw [if_neg c26] at H; have c26b0 : decide (a0_4 ≤ 1099511627776) = false := decide_eq_false c26; clear c26
          obtain rfl := Option.some.inj H
          have q28_0 : wc.cell? ⟨gb125, 0, none⟩ = some (.bool false) := (YG BK125.out 0).trans rfl
          have q28_1 : wc.cell? ⟨gb125, 1, none⟩ = some (.int .i64 a0_1) := (YG BK125.out 1).trans rfl
          have q28_2 : wc.cell? ⟨gb125, 2, none⟩ = some (.int .i64 a0_2) := (YG BK125.out 2).trans rfl
          have q28_3 : wc.cell? ⟨gb125, 3, none⟩ = some (.int .i64 a0_3) := (YG BK125.out 3).trans rfl
          have q28_4 : wc.cell? ⟨gb125, 4, none⟩ = some (.int .i64 a0_4) := (YG BK125.out 4).trans rfl
          have q28_5 : wc.cell? ⟨gb125, 5, none⟩ = some (.int .i64 a0_5) := (YG BK125.out 5).trans rfl
          have f28_0 := YH BK125.out 0
          have f28_1 := YH BK125.out 1
          have f28_2 := YH BK125.out 2
          have f28_3 := YH BK125.out 3
          have f28_4 := YH BK125.out 4
          have f28_5 := YH BK125.out 5
          go_wp2
          go_ret
          exact ⟨by first | rfl | (simp [errW_none, errW_some] <;> rfl) | (simp [*, errW_none, errW_some] <;> rfl), by repeat (first | (with_reducible first | exact HB.out | apply YA | apply YB | apply YC | refine below_set ?_ GE125.out) | exact HB.out)⟩
         rw [if_neg c25] at H; have c25b0 : decide ((-1099511627776) ≤ a0_4) = false := decide_eq_false c25; clear c25
         obtain rfl := Option.some.inj H
         have q29_0 : wc.cell? ⟨gb125, 0, none⟩ = some (.bool false) := (YG BK125.out 0).trans rfl
         have q29_1 : wc.cell? ⟨gb125, 1, none⟩ = some (.int .i64 a0_1) := (YG BK125.out 1).trans rfl
         have q29_2 : wc.cell? ⟨gb125, 2, none⟩ = some (.int .i64 a0_2) := (YG BK125.out 2).trans rfl
         have q29_3 : wc.cell? ⟨gb125, 3, none⟩ = some (.int .i64 a0_3) := (YG BK125.out 3).trans rfl
         have q29_4 : wc.cell? ⟨gb125, 4, none⟩ = some (.int .i64 a0_4) := (YG BK125.out 4).trans rfl
         have q29_5 : wc.cell? ⟨gb125, 5, none⟩ = some (.int .i64 a0_5) := (YG BK125.out 5).trans rfl
         have f29_0 := YH BK125.out 0
         have f29_1 := YH BK125.out 1
         have f29_2 := YH BK125.out 2
         have f29_3 := YH BK125.out 3
         have f29_4 := YH BK125.out 4
         have f29_5 := YH BK125.out 5
         go_wp2
         go_ret
         exact ⟨by first | rfl | (simp [errW_none, errW_some] <;> rfl) | (simp [*, errW_none, errW_some] <;> rfl), by repeat (first | (with_reducible first | exact HB.out | apply YA | apply YB | apply YC | refine below_set ?_ GE125.out) | exact HB.out)⟩
        rw [if_neg c24] at H
        have c24b0 : ((a0_3 / 2) == 0) = false := beq_eq_false_iff_ne.mpr c24
        have c24b1 : ((a0_3 / 2) != 0) = true := bne_iff_ne.mpr c24
        obtain rfl := Option.some.inj H
        have q30_0 : wc.cell? ⟨gb125, 0, none⟩ = some (.bool false) := (YG BK125.out 0).trans rfl
        have q30_1 : wc.cell? ⟨gb125, 1, none⟩ = some (.int .i64 a0_1) := (YG BK125.out 1).trans rfl
        have q30_2 : wc.cell? ⟨gb125, 2, none⟩ = some (.int .i64 a0_2) := (YG BK125.out 2).trans rfl
        have q30_3 : wc.cell? ⟨gb125, 3, none⟩ = some (.int .i64 a0_3) := (YG BK125.out 3).trans rfl
        have q30_4 : wc.cell? ⟨gb125, 4, none⟩ = some (.int .i64 a0_4) := (YG BK125.out 4).trans rfl
        have q30_5 : wc.cell? ⟨gb125, 5, none⟩ = some (.int .i64 a0_5) := (YG BK125.out 5).trans rfl
        have f30_0 := YH BK125.out 0
        have f30_1 := YH BK125.out 1
        have f30_2 := YH BK125.out 2
        have f30_3 := YH BK125.out 3
        have f30_4 := YH BK125.out 4
        have f30_5 := YH BK125.out 5
        go_wp2
        go_ret
        exact ⟨by first | rfl | (simp [errW_none, errW_some] <;> rfl) | (simp [*, errW_none, errW_some] <;> rfl), by repeat (first | (with_reducible first | exact HB.out | apply YA | apply YB | apply YC | refine below_set ?_ GE125.out) | exact HB.out)⟩
       rw [if_neg c23] at H; have c23b0 : decide (a0_2 < 64) = false := decide_eq_false c23; clear c23
       obtain rfl := Option.some.inj H
       have q31_0 : wc.cell? ⟨gb125, 0, none⟩ = some (.bool false) := (YG BK125.out 0).trans rfl
       have q31_1 : wc.cell? ⟨gb125, 1, none⟩ = some (.int .i64 a0_1) := (YG BK125.out 1).trans rfl
       have q31_2 : wc.cell? ⟨gb125, 2, none⟩ = some (.int .i64 a0_2) := (YG BK125.out 2).trans rfl
       have q31_3 : wc.cell? ⟨gb125, 3, none⟩ = some (.int .i64 a0_3) := (YG BK125.out 3).trans rfl
       have q31_4 : wc.cell? ⟨gb125, 4, none⟩ = some (.int .i64 a0_4) := (YG BK125.out 4).trans rfl
       have q31_5 : wc.cell? ⟨gb125, 5, none⟩ = some (.int .i64 a0_5) := (YG BK125.out 5).trans rfl
       have f31_0 := YH BK125.out 0
       have f31_1 := YH BK125.out 1
       have f31_2 := YH BK125.out 2
       have f31_3 := YH BK125.out 3
       have f31_4 := YH BK125.out 4
       have f31_5 := YH BK125.out 5
       go_wp2
       go_ret
       exact ⟨by first | rfl | (simp [errW_none, errW_some] <;> rfl) | (simp [*, errW_none, errW_some] <;> rfl), by repeat (first | (with_reducible first | exact HB.out | apply YA | apply YB | apply YC | refine below_set ?_ GE125.out) | exact HB.out)⟩
      rw [if_neg c22] at H; have c22b0 : decide (0 ≤ a0_2) = false := decide_eq_false c22; clear c22
      obtain rfl := Option.some.inj H
      have q32_0 : wc.cell? ⟨gb125, 0, none⟩ = some (.bool false) := (YG BK125.out 0).trans rfl
      have q32_1 : wc.cell? ⟨gb125, 1, none⟩ = some (.int .i64 a0_1) := (YG BK125.out 1).trans rfl
      have q32_2 : wc.cell? ⟨gb125, 2, none⟩ = some (.int .i64 a0_2) := (YG BK125.out 2).trans rfl
      have q32_3 : wc.cell? ⟨gb125, 3, none⟩ = some (.int .i64 a0_3) := (YG BK125.out 3).trans rfl
      have q32_4 : wc.cell? ⟨gb125, 4, none⟩ = some (.int .i64 a0_4) := (YG BK125.out 4).trans rfl
      have q32_5 : wc.cell? ⟨gb125, 5, none⟩ = some (.int .i64 a0_5) := (YG BK125.out 5).trans rfl
      have f32_0 := YH BK125.out 0
      have f32_1 := YH BK125.out 1
      have f32_2 := YH BK125.out 2
      have f32_3 := YH BK125.out 3
      have f32_4 := YH BK125.out 4
      have f32_5 := YH BK125.out 5
      go_wp2
      go_ret
      exact ⟨by first | rfl | (simp [errW_none, errW_some] <;> rfl) | (simp [*, errW_none, errW_some] <;> rfl), by repeat (first | (with_reducible first | exact HB.out | apply YA | apply YB | apply YC | refine below_set ?_ GE125.out) | exact HB.out)⟩
     rw [if_neg c21] at H; have c21b0 : decide (a0_1 ≤ 4611686018427387903) = false := decide_eq_false c21; clear c21
     obtain rfl := Option.some.inj H
     have q33_0 : wc.cell? ⟨gb125, 0, none⟩ = some (.bool false) := (YG BK125.out 0).trans rfl
     have q33_1 : wc.cell? ⟨gb125, 1, none⟩ = some (.int .i64 a0_1) := (YG BK125.out 1).trans rfl
     have q33_2 : wc.cell? ⟨gb125, 2, none⟩ = some (.int .i64 a0_2) := (YG BK125.out 2).trans rfl
     have q33_3 : wc.cell? ⟨gb125, 3, none⟩ = some (.int .i64 a0_3) := (YG BK125.out 3).trans rfl
     have q33_4 : wc.cell? ⟨gb125, 4, none⟩ = some (.int .i64 a0_4) := (YG BK125.out 4).trans rfl
     have q33_5 : wc.cell? ⟨gb125, 5, none⟩ = some (.int .i64 a0_5) := (YG BK125.out 5).trans rfl
     have f33_0 := YH BK125.out 0
     have f33_1 := YH BK125.out 1
     have f33_2 := YH BK125.out 2
     have f33_3 := YH BK125.out 3
     have f33_4 := YH BK125.out 4
     have f33_5 := YH BK125.out 5
     go_wp2
     go_ret
     exact ⟨by first | rfl | (simp [errW_none, errW_some] <;> rfl) | (simp [*, errW_none, errW_some] <;> rfl), by repeat (first | (with_reducible first | exact HB.out | apply YA | apply YB | apply YC | refine below_set ?_ GE125.out) | exact HB.out)⟩
    rw [if_neg c20] at H; have c20b0 : decide (0 ≤ a0_1) = false := decide_eq_false c20; clear c20
    obtain rfl := Option.some.inj H
    have q34_0 : wc.cell? ⟨gb125, 0, none⟩ = some (.bool false) := (YG BK125.out 0).trans rfl
    have q34_1 : wc.cell? ⟨gb125, 1, none⟩ = some (.int .i64 a0_1) := (YG BK125.out 1).trans rfl
    have q34_2 : wc.cell? ⟨gb125, 2, none⟩ = some (.int .i64 a0_2) := (YG BK125.out 2).trans rfl
    have q34_3 : wc.cell? ⟨gb125, 3, none⟩ = some (.int .i64 a0_3) := (YG BK125.out 3).trans rfl
    have q34_4 : wc.cell? ⟨gb125, 4, none⟩ = some (.int .i64 a0_4) := (YG BK125.out 4).trans rfl
    have q34_5 : wc.cell? ⟨gb125, 5, none⟩ = some (.int .i64 a0_5) := (YG BK125.out 5).trans rfl
    have f34_0 := YH BK125.out 0
    have f34_1 := YH BK125.out 1
    have f34_2 := YH BK125.out 2
    have f34_3 := YH BK125.out 3
    have f34_4 := YH BK125.out 4
    have f34_5 := YH BK125.out 5
    go_wp2
    go_ret
    exact ⟨by first | rfl | (simp [errW_none, errW_some] <;> rfl) | (simp [*, errW_none, errW_some] <;> rfl), by repeat (first | (with_reducible first | exact HB.out | apply YA | apply YB | apply YC | refine below_set ?_ GE125.out) | exact HB.out)⟩
   replace c19 := Bool.eq_false_iff.mpr c19
   subst c19
   have H1 : (some 1) = some r := by rw [if_neg (show ¬ (false = true) by decide)] at H; exact H
   clear H
   have H := H1
   clear H1
   obtain rfl := Option.some.inj H
   have q35_0 : wc.cell? ⟨gb125, 0, none⟩ = some (.bool false) := (YG BK125.out 0).trans rfl
   have q35_1 : wc.cell? ⟨gb125, 1, none⟩ = some (.int .i64 a0_1) := (YG BK125.out 1).trans rfl
   have q35_2 : wc.cell? ⟨gb125, 2, none⟩ = some (.int .i64 a0_2) := (YG BK125.out 2).trans rfl
   have q35_3 : wc.cell? ⟨gb125, 3, none⟩ = some (.int .i64 a0_3) := (YG BK125.out 3).trans rfl
   have q35_4 : wc.cell? ⟨gb125, 4, none⟩ = some (.int .i64 a0_4) := (YG BK125.out 4).trans rfl
   have q35_5 : wc.cell? ⟨gb125, 5, none⟩ = some (.int .i64 a0_5) := (YG BK125.out 5).trans rfl
   have f35_0 := YH BK125.out 0
   have f35_1 := YH BK125.out 1
   have f35_2 := YH BK125.out 2
   have f35_3 := YH BK125.out 3
   have f35_4 := YH BK125.out 4
   have f35_5 := YH BK125.out 5
   go_wp2
   go_ret
   exact ⟨by first | rfl | (simp [errW_none, errW_some] <;> rfl) | (simp [*, errW_none, errW_some] <;> rfl), by repeat (first | (with_reducible first | exact HB.out | apply YA | apply YB | apply YC | refine below_set ?_ GE125.out) | exact HB.out)⟩
end Go.Proofs.Ytclbempnhelmoaa.P
namespace Go.Proofs.Ytclbempnhelmoaa.P
open Go.RowKit YtclbempnhelmoaaW.PrintWords YtclbempnhelmoaaW.PrintLast YtclbempnhelmoaaW.PrintMore
open YtclbempnhelmoaaW.PrintWords renaming below_alloc → YA, pw_below_drewN → YB, below_drew1 → YC, below_step → YD, below_size → YE, blk_drewN → YF, blk_drew → YG, blk_alloc → YH, blk_cell → YI, blk_frozen → YJ, blk_below → YK
open YtclbempnhelmoaaW.PrintWords.Aside0 renaming mk → YL
attribute [local go_sem] max2_int min2_int max_two min_two max_three min_three max_four min_four
def height_At.f (k : Nat) (a0_0 : Int) (a0_1 : Int) (a0_2 : Int) (a1 : Int) (a2 : Int) : Option (Bool × Int × Int × Int × Int × Int × Int) := (height_Check.f k false a0_0 a0_1 a0_2 a1 a2).bind fun t135 => (if t135 = 0 then (some (false, a0_0, a0_1, a0_2, a1, a2, 0)) else (some (false, 0, 0, 0, 0, 0, t135)))
theorem height_At.mono : ∀ a0 a1 a2 a3 a4 k, LeO (height_At.f k a0 a1 a2 a3 a4) (height_At.f (k + 1) a0 a1 a2 a3 a4) := by
 intro a0 a1 a2 a3 a4 k
 unfold height_At.f
 repeat' first
   | (with_reducible exact height_Check.mono _ _ _ _ _ _ _)
   | (with_reducible exact LeO.refl _)
   | (with_reducible exact LeO.none _)
   | (with_reducible refine LeO.ite ?_ ?_)
   | (with_reducible refine LeO.bind ?_ (fun _ => ?_))
   | exact height_Check.mono _ _ _ _ _ _ _
   | exact LeO.none _
   | refine LeO.ite ?_ ?_
   | refine LeO.bind ?_ (fun _ => ?_)
theorem height_At.calls (k : Nat) (a0_0 : Int) (a0_1 : Int) (a0_2 : Int) (a1 : Int) (a2 : Int) (r1 : Bool) (r2 : Int) (r3 : Int) (r4 : Int) (r5 : Int) (r6 : Int) (r7 : Int) (w : World) (h : height_At.f k a0_0 a0_1 a0_2 a1 a2 = some (r1, r2, r3, r4, r5, r6, r7)) :
  Calls Try.prog 49 #[.agg #[.int .i64 a0_0, .int .i64 a0_1, .int .i64 a0_2], .int .i64 a1, .int .i64 a2] w fun e w' => e = .returned (.tuple #[.agg #[.bool r1, .int .i64 r2, .int .i64 r3, .int .i64 r4, .int .i64 r5, .int .i64 r6], .int .i64 r7]) ∧ Below w.heap.size w w' := by
 have hu32 := Try.underlying32
 have hu30 := Try.underlying30
 have HB := YL (Below.refl w.heap.size w)
 have H : ((height_Check.f k false a0_0 a0_1 a0_2 a1 a2).bind fun t135 => (if t135 = 0 then (some (false, a0_0, a0_1, a0_2, a1, a2, 0)) else (some (false, 0, 0, 0, 0, 0, t135)))) = some (r1, r2, r3, r4, r5, r6, r7) := h
 clear h; replace H := Option.bind_eq_some_iff.mp H; obtain ⟨t135, A40, H⟩ := H
 replace H : (if t135 = 0 then (some (false, a0_0, a0_1, a0_2, a1, a2, 0)) else (some (false, 0, 0, 0, 0, 0, t135))) = some (r1, r2, r3, r4, r5, r6, r7) := H
 have A4 := YL A40; clear A40
 by_cases c5 : t135 = 0
 ·rw [if_pos c5] at H
  have c5b0 : (t135 == 0) = true := beq_iff_eq.mpr c5
  have c5b1 : (t135 != 0) = false := bne_eq_false_iff_eq.mpr c5
  clear c5
  simp only [Option.some.injEq, Prod.mk.injEq] at H
  obtain ⟨rfl, rfl, rfl, rfl, rfl, rfl, rfl⟩ := H
  go_enter Try.func49, Try.ntmps49
  go_wp2_with (first | ((with_reducible refine gate_dst (N := 3) rfl ?_); refine box_event ?hg (N := 3) ?hd (cs := #[.int .i64 a0_0, .int .i64 a0_1, .int .i64 a0_2]) (t := 32) ?hr ?_; (case hd => rfl); (case hg => rfl); (case hr => first | (go_simp; done) | (go_simp; rfl)); intro gb132 hg w6 hbox hb; have n0_ := YL (YD (by repeat (first | (with_reducible first | exact HB.out | apply YA | apply YB | apply YC) | exact HB.out)) hb); have n1_ := YL (hbox); have n2_ := YL ((by rw [hg]; exact (YE (by repeat (first | (with_reducible first | exact HB.out | apply YA | apply YB | apply YC) | exact HB.out))) : w.heap.size ≤ gb132)); have n3_ := YL ((by rw [hg]; exact (YE (by repeat (first | (with_reducible first | exact HB.out | apply YA | apply YB | apply YC) | exact HB.out))) : w.heap.size ≤ gb132)); clear HB; have HB := n0_; have BK132 := n1_; have GW132 := n2_; have GE132 := n3_; clear n0_ n1_ n2_ n3_; clear hb hbox hg) | ((with_reducible refine gate_dst (N := 6) rfl ?_); refine box_event ?hg (N := 6) ?hd (cs := #[.bool false, .int .i64 0, .int .i64 0, .int .i64 0, .int .i64 0, .int .i64 0]) (t := 30) ?hr ?_; (case hd => rfl); (case hg => rfl); (case hr => first | (go_simp; done) | (go_simp; rfl)); intro gb133 hg w7 hbox hb; have n0_ := YL (YK (g := gb132) (o := .cells #[.int .i64 a0_0, .int .i64 a0_1, .int .i64 a0_2] 32 (0, 0)) (by (with_reducible repeat (first | refine YF ?_ _ | refine YG ?_ | refine YH ?_ _)); exact BK132.out) hb); have n1_ := YL (YD (by repeat (first | (with_reducible first | exact HB.out | apply YA | apply YB | apply YC | refine below_set ?_ GE132.out) | exact HB.out)) hb); have n2_ := YL (hbox); have n3_ := YL ((by rw [hg]; exact (YE (by repeat (first | (with_reducible first | exact HB.out | apply YA | apply YB | apply YC | refine below_set ?_ GE132.out) | exact HB.out))) : w.heap.size ≤ gb133)); have n4_ := YL ((by rw [hg]; exact (YE (by repeat (first | (with_reducible first | exact HB.out | apply YA | apply YB | apply YC | refine below_set ?_ GE132.out) | exact HB.out))) : w.heap.size ≤ gb133)); have n5_ := YL ((by rw [hg]; exact Nat.ne_of_lt (blk_lt (g := gb132) (o := .cells #[.int .i64 a0_0, .int .i64 a0_1, .int .i64 a0_2] 32 (0, 0)) (by (with_reducible repeat (first | refine YF ?_ _ | refine YG ?_ | refine YH ?_ _)); exact BK132.out)) : gb132 ≠ gb133)); have n6_ := YL ((by rw [hg]; exact Nat.ne_of_gt (blk_lt (g := gb132) (o := .cells #[.int .i64 a0_0, .int .i64 a0_1, .int .i64 a0_2] 32 (0, 0)) (by (with_reducible repeat (first | refine YF ?_ _ | refine YG ?_ | refine YH ?_ _)); exact BK132.out)) : gb133 ≠ gb132)); clear BK132; clear HB; have BK132 := n0_; have HB := n1_; have BK133 := n2_; have GW133 := n3_; have GE133 := n4_; have NB132_133 := n5_; have NB133_132 := n6_; clear n0_ n1_ n2_ n3_ n4_ n5_ n6_; clear hb hbox hg; have hnb8 := NB132_133.out; have hnc8 := NB133_132.out; have q9_0 : w7.cell? ⟨gb132, 0, none⟩ = some (.int .i64 a0_0) := (YI BK132.out 0).trans rfl; have q9_1 : w7.cell? ⟨gb132, 1, none⟩ = some (.int .i64 a0_1) := (YI BK132.out 1).trans rfl; have q9_2 : w7.cell? ⟨gb132, 2, none⟩ = some (.int .i64 a0_2) := (YI BK132.out 2).trans rfl; have f9_0 := YJ BK132.out 0; have f9_1 := YJ BK132.out 1; have f9_2 := YJ BK132.out 2) | ((with_reducible refine gate_dst (N := 8) rfl ?_); refine box_event ?hg (N := 8) ?hd (cs := #[.bool false, .int .i64 0, .int .i64 0, .int .i64 0, .int .i64 0, .int .i64 0]) (t := 30) ?hr ?_; (case hd => rfl); (case hg => rfl); (case hr => first | (go_simp; done) | (go_simp; rfl)); intro gb134 hg w10 hbox hb; have n0_ := YL (YK (g := gb132) (o := .cells #[.int .i64 a0_0, .int .i64 a0_1, .int .i64 a0_2] 32 (0, 0)) (by (with_reducible repeat (first | refine YF ?_ _ | refine YG ?_ | refine YH ?_ _)); exact BK132.out) hb); have n1_ := YL (YK (g := gb133) (o := .cells #[.bool false, .int .i64 0, .int .i64 0, .int .i64 0, .int .i64 0, .int .i64 0] 30 (0, 0)) (by (with_reducible repeat (first | refine YF ?_ _ | refine YG ?_ | refine YH ?_ _)); exact BK133.out) hb); have n2_ := YL (YD (by repeat (first | (with_reducible first | exact HB.out | apply YA | apply YB | apply YC | refine below_set ?_ GE132.out | refine below_set ?_ GE133.out) | exact HB.out)) hb); have n3_ := YL (hbox); have n4_ := YL ((by rw [hg]; exact (YE (by repeat (first | (with_reducible first | exact HB.out | apply YA | apply YB | apply YC | refine below_set ?_ GE132.out | refine below_set ?_ GE133.out) | exact HB.out))) : w.heap.size ≤ gb134)); have n5_ := YL ((by rw [hg]; exact (YE (by repeat (first | (with_reducible first | exact HB.out | apply YA | apply YB | apply YC | refine below_set ?_ GE132.out | refine below_set ?_ GE133.out) | exact HB.out))) : w.heap.size ≤ gb134)); have n6_ := YL ((by rw [hg]; exact Nat.ne_of_lt (blk_lt (g := gb132) (o := .cells #[.int .i64 a0_0, .int .i64 a0_1, .int .i64 a0_2] 32 (0, 0)) (by (with_reducible repeat (first | refine YF ?_ _ | refine YG ?_ | refine YH ?_ _)); exact BK132.out)) : gb132 ≠ gb134)); have n7_ := YL ((by rw [hg]; exact Nat.ne_of_gt (blk_lt (g := gb132) (o := .cells #[.int .i64 a0_0, .int .i64 a0_1, .int .i64 a0_2] 32 (0, 0)) (by (with_reducible repeat (first | refine YF ?_ _ | refine YG ?_ | refine YH ?_ _)); exact BK132.out)) : gb134 ≠ gb132)); have n8_ := YL ((by rw [hg]; exact Nat.ne_of_lt (blk_lt (g := gb133) (o := .cells #[.bool false, .int .i64 0, .int .i64 0, .int .i64 0, .int .i64 0, .int .i64 0] 30 (0, 0)) (by (with_reducible repeat (first | refine YF ?_ _ | refine YG ?_ | refine YH ?_ _)); exact BK133.out)) : gb133 ≠ gb134)); have n9_ := YL ((by rw [hg]; exact Nat.ne_of_gt (blk_lt (g := gb133) (o := .cells #[.bool false, .int .i64 0, .int .i64 0, .int .i64 0, .int .i64 0, .int .i64 0] 30 (0, 0)) (by (with_reducible repeat (first | refine YF ?_ _ | refine YG ?_ | refine YH ?_ _)); exact BK133.out)) : gb134 ≠ gb133)); clear BK132; clear BK133; clear HB; have BK132 := n0_; have BK133 := n1_; have HB := n2_; have BK134 := n3_; have GW134 := n4_; have GE134 := n5_; have NB132_134 := n6_; have NB134_132 := n7_; have NB133_134 := n8_; have NB134_133 := n9_; clear n0_ n1_ n2_ n3_ n4_ n5_ n6_ n7_ n8_ n9_; clear hb hbox hg; have hnb11 := NB134_132.out; have hnc11 := NB132_134.out; have hnb12 := NB134_133.out; have hnc12 := NB133_134.out; have q13_0 : w10.cell? ⟨gb134, 0, none⟩ = some (.bool false) := (YI BK134.out 0).trans rfl; have q13_1 : w10.cell? ⟨gb134, 1, none⟩ = some (.int .i64 0) := (YI BK134.out 1).trans rfl; have q13_2 : w10.cell? ⟨gb134, 2, none⟩ = some (.int .i64 0) := (YI BK134.out 2).trans rfl; have q13_3 : w10.cell? ⟨gb134, 3, none⟩ = some (.int .i64 0) := (YI BK134.out 3).trans rfl; have q13_4 : w10.cell? ⟨gb134, 4, none⟩ = some (.int .i64 0) := (YI BK134.out 4).trans rfl; have q13_5 : w10.cell? ⟨gb134, 5, none⟩ = some (.int .i64 0) := (YI BK134.out 5).trans rfl; have f13_0 := YJ BK134.out 0; have f13_1 := YJ BK134.out 1; have f13_2 := YJ BK134.out 2; have f13_3 := YJ BK134.out 3; have f13_4 := YJ BK134.out 4; have f13_5 := YJ BK134.out 5) | ((with_reducible refine gate_callee (f := 48) rfl ?_); refine goesL_ (some 20) rfl rfl Try.func48 (by kernel_rfl) rfl #[.agg #[.bool false, .int .i64 a0_0, .int .i64 a0_1, .int .i64 a0_2, .int .i64 a1, .int .i64 a2]] rfl (by (try simp only [List.map_toArray, List.map_cons, List.map_nil]); first | done | rfl | (simp only [List.length_drop, List.length_take]; rfl)) ?_; (with_reducible refine (height_Check.calls k false a0_0 a0_1 a0_2 a1 a2 t135 _ A4.out).mono ?_); rintro e w14 ⟨rfl, hb⟩; refine ⟨_, rfl, ?_⟩; have n0_ := YL (YK (g := gb132) (o := .cells #[.int .i64 a0_0, .int .i64 a0_1, .int .i64 a0_2] 32 (0, 0)) (by (with_reducible repeat (first | refine YF ?_ _ | refine YG ?_ | refine YH ?_ _)); refine blk_far ?_ NB132_134.out _; (with_reducible repeat (first | refine YF ?_ _ | refine YG ?_ | refine YH ?_ _)); refine blk_far ?_ NB132_134.out _; (with_reducible repeat (first | refine YF ?_ _ | refine YG ?_ | refine YH ?_ _)); refine blk_far ?_ NB132_134.out _; (with_reducible repeat (first | refine YF ?_ _ | refine YG ?_ | refine YH ?_ _)); refine blk_far ?_ NB132_134.out _; (with_reducible repeat (first | refine YF ?_ _ | refine YG ?_ | refine YH ?_ _)); refine blk_far ?_ NB132_134.out _; (with_reducible repeat (first | refine YF ?_ _ | refine YG ?_ | refine YH ?_ _)); refine blk_far ?_ NB132_134.out _; (with_reducible repeat (first | refine YF ?_ _ | refine YG ?_ | refine YH ?_ _)); exact BK132.out) hb); have n1_ := YL (YK (g := gb133) (o := .cells #[.bool false, .int .i64 0, .int .i64 0, .int .i64 0, .int .i64 0, .int .i64 0] 30 (0, 0)) (by (with_reducible repeat (first | refine YF ?_ _ | refine YG ?_ | refine YH ?_ _)); refine blk_far ?_ NB133_134.out _; (with_reducible repeat (first | refine YF ?_ _ | refine YG ?_ | refine YH ?_ _)); refine blk_far ?_ NB133_134.out _; (with_reducible repeat (first | refine YF ?_ _ | refine YG ?_ | refine YH ?_ _)); refine blk_far ?_ NB133_134.out _; (with_reducible repeat (first | refine YF ?_ _ | refine YG ?_ | refine YH ?_ _)); refine blk_far ?_ NB133_134.out _; (with_reducible repeat (first | refine YF ?_ _ | refine YG ?_ | refine YH ?_ _)); refine blk_far ?_ NB133_134.out _; (with_reducible repeat (first | refine YF ?_ _ | refine YG ?_ | refine YH ?_ _)); refine blk_far ?_ NB133_134.out _; (with_reducible repeat (first | refine YF ?_ _ | refine YG ?_ | refine YH ?_ _)); exact BK133.out) hb); have n2_ := YL (YK (g := gb134) (o := .cells #[.bool false, .int .i64 a0_0, .int .i64 a0_1, .int .i64 a0_2, .int .i64 a1, .int .i64 a2] 30 (0, 0)) (by (with_reducible repeat (first | refine YF ?_ _ | refine YG ?_ | refine YH ?_ _)); refine blk_put (cs := #[.bool false, .int .i64 a0_0, .int .i64 a0_1, .int .i64 a0_2, .int .i64 a1, .int .i64 0]) ?_ 5 _ rfl; (with_reducible repeat (first | refine YF ?_ _ | refine YG ?_ | refine YH ?_ _)); refine blk_put (cs := #[.bool false, .int .i64 a0_0, .int .i64 a0_1, .int .i64 a0_2, .int .i64 0, .int .i64 0]) ?_ 4 _ rfl; (with_reducible repeat (first | refine YF ?_ _ | refine YG ?_ | refine YH ?_ _)); refine blk_put (cs := #[.bool false, .int .i64 a0_0, .int .i64 a0_1, .int .i64 0, .int .i64 0, .int .i64 0]) ?_ 3 _ rfl; (with_reducible repeat (first | refine YF ?_ _ | refine YG ?_ | refine YH ?_ _)); refine blk_put (cs := #[.bool false, .int .i64 a0_0, .int .i64 0, .int .i64 0, .int .i64 0, .int .i64 0]) ?_ 2 _ rfl; (with_reducible repeat (first | refine YF ?_ _ | refine YG ?_ | refine YH ?_ _)); refine blk_put (cs := #[.bool false, .int .i64 0, .int .i64 0, .int .i64 0, .int .i64 0, .int .i64 0]) ?_ 1 _ rfl; (with_reducible repeat (first | refine YF ?_ _ | refine YG ?_ | refine YH ?_ _)); refine blk_put (cs := #[.bool false, .int .i64 0, .int .i64 0, .int .i64 0, .int .i64 0, .int .i64 0]) ?_ 0 _ rfl; (with_reducible repeat (first | refine YF ?_ _ | refine YG ?_ | refine YH ?_ _)); exact BK134.out) hb); have n3_ := YL (YD (by repeat (first | (with_reducible first | exact HB.out | apply YA | apply YB | apply YC | refine below_set ?_ GE132.out | refine below_set ?_ GE133.out | refine below_set ?_ GE134.out) | exact HB.out)) hb); clear BK132; clear BK133; clear BK134; clear HB; have BK132 := n0_; have BK133 := n1_; have BK134 := n2_; have HB := n3_; clear n0_ n1_ n2_ n3_; (try clear hb); (try clear hb2); (try clear hk); (try clear hi); have q15_0 : w14.cell? ⟨gb134, 0, none⟩ = some (.bool false) := (YI BK134.out 0).trans rfl; have q15_1 : w14.cell? ⟨gb134, 1, none⟩ = some (.int .i64 a0_0) := (YI BK134.out 1).trans rfl; have q15_2 : w14.cell? ⟨gb134, 2, none⟩ = some (.int .i64 a0_1) := (YI BK134.out 2).trans rfl; have q15_3 : w14.cell? ⟨gb134, 3, none⟩ = some (.int .i64 a0_2) := (YI BK134.out 3).trans rfl; have q15_4 : w14.cell? ⟨gb134, 4, none⟩ = some (.int .i64 a1) := (YI BK134.out 4).trans rfl; have q15_5 : w14.cell? ⟨gb134, 5, none⟩ = some (.int .i64 a2) := (YI BK134.out 5).trans rfl; have f15_0 := YJ BK134.out 0; have f15_1 := YJ BK134.out 1; have f15_2 := YJ BK134.out 2; have f15_3 := YJ BK134.out 3; have f15_4 := YJ BK134.out 4; have f15_5 := YJ BK134.out 5; have q16_0 : w14.cell? ⟨gb133, 0, none⟩ = some (.bool false) := (YI BK133.out 0).trans rfl; have q16_1 : w14.cell? ⟨gb133, 1, none⟩ = some (.int .i64 0) := (YI BK133.out 1).trans rfl; have q16_2 : w14.cell? ⟨gb133, 2, none⟩ = some (.int .i64 0) := (YI BK133.out 2).trans rfl; have q16_3 : w14.cell? ⟨gb133, 3, none⟩ = some (.int .i64 0) := (YI BK133.out 3).trans rfl; have q16_4 : w14.cell? ⟨gb133, 4, none⟩ = some (.int .i64 0) := (YI BK133.out 4).trans rfl; have q16_5 : w14.cell? ⟨gb133, 5, none⟩ = some (.int .i64 0) := (YI BK133.out 5).trans rfl; have f16_0 := YJ BK133.out 0; have f16_1 := YJ BK133.out 1; have f16_2 := YJ BK133.out 2; have f16_3 := YJ BK133.out 3; have f16_4 := YJ BK133.out 4; have f16_5 := YJ BK133.out 5))
  refine bodyPost_ret (results_ct rfl _ _ gb133 30 #[.bool false, .int .i64 a0_0, .int .i64 a0_1, .int .i64 a0_2, .int .i64 a1, .int .i64 a2] (0, 0) _ rfl (by (with_reducible repeat (first | refine YF ?_ _ | refine YG ?_ | refine YH ?_ _)); refine blk_put (cs := #[.bool false, .int .i64 a0_0, .int .i64 a0_1, .int .i64 a0_2, .int .i64 a1, .int .i64 0]) ?_ 5 _ rfl; (with_reducible repeat (first | refine YF ?_ _ | refine YG ?_ | refine YH ?_ _)); refine blk_put (cs := #[.bool false, .int .i64 a0_0, .int .i64 a0_1, .int .i64 a0_2, .int .i64 0, .int .i64 0]) ?_ 4 _ rfl; (with_reducible repeat (first | refine YF ?_ _ | refine YG ?_ | refine YH ?_ _)); refine blk_put (cs := #[.bool false, .int .i64 a0_0, .int .i64 a0_1, .int .i64 0, .int .i64 0, .int .i64 0]) ?_ 3 _ rfl; (with_reducible repeat (first | refine YF ?_ _ | refine YG ?_ | refine YH ?_ _)); refine blk_put (cs := #[.bool false, .int .i64 a0_0, .int .i64 0, .int .i64 0, .int .i64 0, .int .i64 0]) ?_ 2 _ rfl; (with_reducible repeat (first | refine YF ?_ _ | refine YG ?_ | refine YH ?_ _)); refine blk_put (cs := #[.bool false, .int .i64 0, .int .i64 0, .int .i64 0, .int .i64 0, .int .i64 0]) ?_ 1 _ rfl; (with_reducible repeat (first | refine YF ?_ _ | refine YG ?_ | refine YH ?_ _)); refine blk_put (cs := #[.bool false, .int .i64 0, .int .i64 0, .int .i64 0, .int .i64 0, .int .i64 0]) ?_ 0 _ rfl; (with_reducible repeat (first | refine YF ?_ _ | refine YG ?_ | refine YH ?_ _)); exact BK133.out) Try.underlying30 rfl (by kernel_rfl)) rfl ?_
  exact ⟨by first | rfl | (simp [errW_none, errW_some] <;> rfl) | (simp [*, errW_none, errW_some] <;> rfl), by repeat (first | (with_reducible first | exact HB.out | apply YA | apply YB | apply YC | refine below_set ?_ GE132.out | refine below_set ?_ GE133.out | refine below_set ?_ GE134.out) | exact HB.out)⟩
 rw [if_neg c5] at H
 have c5b0 : (t135 == 0) = false := beq_eq_false_iff_ne.mpr c5
 have c5b1 : (t135 != 0) = true := bne_iff_ne.mpr c5
 simp only [Option.some.injEq, Prod.mk.injEq] at H
 obtain ⟨rfl, rfl, rfl, rfl, rfl, rfl, rfl⟩ := H
 go_enter Try.func49, Try.ntmps49
 go_wp2_with (first | ((with_reducible refine gate_dst (N := 3) rfl ?_); refine box_event ?hg (N := 3) ?hd (cs := #[.int .i64 a0_0, .int .i64 a0_1, .int .i64 a0_2]) (t := 32) ?hr ?_; (case hd => rfl); (case hg => rfl); (case hr => first | (go_simp; done) | (go_simp; rfl)); intro gb132 hg w17 hbox hb; have n0_ := YL (YD (by repeat (first | (with_reducible first | exact HB.out | apply YA | apply YB | apply YC) | exact HB.out)) hb); have n1_ := YL (hbox); have n2_ := YL ((by rw [hg]; exact (YE (by repeat (first | (with_reducible first | exact HB.out | apply YA | apply YB | apply YC) | exact HB.out))) : w.heap.size ≤ gb132)); have n3_ := YL ((by rw [hg]; exact (YE (by repeat (first | (with_reducible first | exact HB.out | apply YA | apply YB | apply YC) | exact HB.out))) : w.heap.size ≤ gb132)); clear HB; have HB := n0_; have BK132 := n1_; have GW132 := n2_; have GE132 := n3_; clear n0_ n1_ n2_ n3_; clear hb hbox hg) | ((with_reducible refine gate_dst (N := 6) rfl ?_); refine box_event ?hg (N := 6) ?hd (cs := #[.bool false, .int .i64 0, .int .i64 0, .int .i64 0, .int .i64 0, .int .i64 0]) (t := 30) ?hr ?_; (case hd => rfl); (case hg => rfl); (case hr => first | (go_simp; done) | (go_simp; rfl)); intro gb133 hg w18 hbox hb; have n0_ := YL (YK (g := gb132) (o := .cells #[.int .i64 a0_0, .int .i64 a0_1, .int .i64 a0_2] 32 (0, 0)) (by (with_reducible repeat (first | refine YF ?_ _ | refine YG ?_ | refine YH ?_ _)); exact BK132.out) hb); have n1_ := YL (YD (by repeat (first | (with_reducible first | exact HB.out | apply YA | apply YB | apply YC | refine below_set ?_ GE132.out) | exact HB.out)) hb); have n2_ := YL (hbox); have n3_ := YL ((by rw [hg]; exact (YE (by repeat (first | (with_reducible first | exact HB.out | apply YA | apply YB | apply YC | refine below_set ?_ GE132.out) | exact HB.out))) : w.heap.size ≤ gb133)); have n4_ := YL ((by rw [hg]; exact (YE (by repeat (first | (with_reducible first | exact HB.out | apply YA | apply YB | apply YC | refine below_set ?_ GE132.out) | exact HB.out))) : w.heap.size ≤ gb133)); have n5_ := YL ((by rw [hg]; exact Nat.ne_of_lt (blk_lt (g := gb132) (o := .cells #[.int .i64 a0_0, .int .i64 a0_1, .int .i64 a0_2] 32 (0, 0)) (by (with_reducible repeat (first | refine YF ?_ _ | refine YG ?_ | refine YH ?_ _)); exact BK132.out)) : gb132 ≠ gb133)); have n6_ := YL ((by rw [hg]; exact Nat.ne_of_gt (blk_lt (g := gb132) (o := .cells #[.int .i64 a0_0, .int .i64 a0_1, .int .i64 a0_2] 32 (0, 0)) (by (with_reducible repeat (first | refine YF ?_ _ | refine YG ?_ | refine YH ?_ _)); exact BK132.out)) : gb133 ≠ gb132)); clear BK132; clear HB; have BK132 := n0_; have HB := n1_; have BK133 := n2_; have GW133 := n3_; have GE133 := n4_; have NB132_133 := n5_; have NB133_132 := n6_; clear n0_ n1_ n2_ n3_ n4_ n5_ n6_; clear hb hbox hg; have hnb19 := NB132_133.out; have hnc19 := NB133_132.out; have q20_0 : w18.cell? ⟨gb132, 0, none⟩ = some (.int .i64 a0_0) := (YI BK132.out 0).trans rfl; have q20_1 : w18.cell? ⟨gb132, 1, none⟩ = some (.int .i64 a0_1) := (YI BK132.out 1).trans rfl; have q20_2 : w18.cell? ⟨gb132, 2, none⟩ = some (.int .i64 a0_2) := (YI BK132.out 2).trans rfl; have f20_0 := YJ BK132.out 0; have f20_1 := YJ BK132.out 1; have f20_2 := YJ BK132.out 2) | ((with_reducible refine gate_dst (N := 8) rfl ?_); refine box_event ?hg (N := 8) ?hd (cs := #[.bool false, .int .i64 0, .int .i64 0, .int .i64 0, .int .i64 0, .int .i64 0]) (t := 30) ?hr ?_; (case hd => rfl); (case hg => rfl); (case hr => first | (go_simp; done) | (go_simp; rfl)); intro gb134 hg w21 hbox hb; have n0_ := YL (YK (g := gb132) (o := .cells #[.int .i64 a0_0, .int .i64 a0_1, .int .i64 a0_2] 32 (0, 0)) (by (with_reducible repeat (first | refine YF ?_ _ | refine YG ?_ | refine YH ?_ _)); exact BK132.out) hb); have n1_ := YL (YK (g := gb133) (o := .cells #[.bool false, .int .i64 0, .int .i64 0, .int .i64 0, .int .i64 0, .int .i64 0] 30 (0, 0)) (by (with_reducible repeat (first | refine YF ?_ _ | refine YG ?_ | refine YH ?_ _)); exact BK133.out) hb); have n2_ := YL (YD (by repeat (first | (with_reducible first | exact HB.out | apply YA | apply YB | apply YC | refine below_set ?_ GE132.out | refine below_set ?_ GE133.out) | exact HB.out)) hb); have n3_ := YL (hbox); have n4_ := YL ((by rw [hg]; exact (YE (by repeat (first | (with_reducible first | exact HB.out | apply YA | apply YB | apply YC | refine below_set ?_ GE132.out | refine below_set ?_ GE133.out) | exact HB.out))) : w.heap.size ≤ gb134)); have n5_ := YL ((by rw [hg]; exact (YE (by repeat (first | (with_reducible first | exact HB.out | apply YA | apply YB | apply YC | refine below_set ?_ GE132.out | refine below_set ?_ GE133.out) | exact HB.out))) : w.heap.size ≤ gb134)); have n6_ := YL ((by rw [hg]; exact Nat.ne_of_lt (blk_lt (g := gb132) (o := .cells #[.int .i64 a0_0, .int .i64 a0_1, .int .i64 a0_2] 32 (0, 0)) (by (with_reducible repeat (first | refine YF ?_ _ | refine YG ?_ | refine YH ?_ _)); exact BK132.out)) : gb132 ≠ gb134)); have n7_ := YL ((by rw [hg]; exact Nat.ne_of_gt (blk_lt (g := gb132) (o := .cells #[.int .i64 a0_0, .int .i64 a0_1, .int .i64 a0_2] 32 (0, 0)) (by (with_reducible repeat (first | refine YF ?_ _ | refine YG ?_ | refine YH ?_ _)); exact BK132.out)) : gb134 ≠ gb132)); have n8_ := YL ((by rw [hg]; exact Nat.ne_of_lt (blk_lt (g := gb133) (o := .cells #[.bool false, .int .i64 0, .int .i64 0, .int .i64 0, .int .i64 0, .int .i64 0] 30 (0, 0)) (by (with_reducible repeat (first | refine YF ?_ _ | refine YG ?_ | refine YH ?_ _)); exact BK133.out)) : gb133 ≠ gb134)); have n9_ := YL ((by rw [hg]; exact Nat.ne_of_gt (blk_lt (g := gb133) (o := .cells #[.bool false, .int .i64 0, .int .i64 0, .int .i64 0, .int .i64 0, .int .i64 0] 30 (0, 0)) (by (with_reducible repeat (first | refine YF ?_ _ | refine YG ?_ | refine YH ?_ _)); exact BK133.out)) : gb134 ≠ gb133)); clear BK132; clear BK133; clear HB; have BK132 := n0_; have BK133 := n1_; have HB := n2_; have BK134 := n3_; have GW134 := n4_; have GE134 := n5_; have NB132_134 := n6_; have NB134_132 := n7_; have NB133_134 := n8_; have NB134_133 := n9_; clear n0_ n1_ n2_ n3_ n4_ n5_ n6_ n7_ n8_ n9_; clear hb hbox hg; have hnb22 := NB134_132.out; have hnc22 := NB132_134.out; have hnb23 := NB134_133.out; have hnc23 := NB133_134.out; have q24_0 : w21.cell? ⟨gb134, 0, none⟩ = some (.bool false) := (YI BK134.out 0).trans rfl; have q24_1 : w21.cell? ⟨gb134, 1, none⟩ = some (.int .i64 0) := (YI BK134.out 1).trans rfl; have q24_2 : w21.cell? ⟨gb134, 2, none⟩ = some (.int .i64 0) := (YI BK134.out 2).trans rfl; have q24_3 : w21.cell? ⟨gb134, 3, none⟩ = some (.int .i64 0) := (YI BK134.out 3).trans rfl; have q24_4 : w21.cell? ⟨gb134, 4, none⟩ = some (.int .i64 0) := (YI BK134.out 4).trans rfl; have q24_5 : w21.cell? ⟨gb134, 5, none⟩ = some (.int .i64 0) := (YI BK134.out 5).trans rfl; have f24_0 := YJ BK134.out 0; have f24_1 := YJ BK134.out 1; have f24_2 := YJ BK134.out 2; have f24_3 := YJ BK134.out 3; have f24_4 := YJ BK134.out 4; have f24_5 := YJ BK134.out 5) | ((with_reducible refine gate_callee (f := 48) rfl ?_); refine goesL_ (some 20) rfl rfl Try.func48 (by kernel_rfl) rfl #[.agg #[.bool false, .int .i64 a0_0, .int .i64 a0_1, .int .i64 a0_2, .int .i64 a1, .int .i64 a2]] rfl (by (try simp only [List.map_toArray, List.map_cons, List.map_nil]); first | done | rfl | (simp only [List.length_drop, List.length_take]; rfl)) ?_; (with_reducible refine (height_Check.calls k false a0_0 a0_1 a0_2 a1 a2 t135 _ A4.out).mono ?_); rintro e w25 ⟨rfl, hb⟩; refine ⟨_, rfl, ?_⟩; have n0_ := YL (YK (g := gb132) (o := .cells #[.int .i64 a0_0, .int .i64 a0_1, .int .i64 a0_2] 32 (0, 0)) (by (with_reducible repeat (first | refine YF ?_ _ | refine YG ?_ | refine YH ?_ _)); refine blk_far ?_ NB132_134.out _; (with_reducible repeat (first | refine YF ?_ _ | refine YG ?_ | refine YH ?_ _)); refine blk_far ?_ NB132_134.out _; (with_reducible repeat (first | refine YF ?_ _ | refine YG ?_ | refine YH ?_ _)); refine blk_far ?_ NB132_134.out _; (with_reducible repeat (first | refine YF ?_ _ | refine YG ?_ | refine YH ?_ _)); refine blk_far ?_ NB132_134.out _; (with_reducible repeat (first | refine YF ?_ _ | refine YG ?_ | refine YH ?_ _)); refine blk_far ?_ NB132_134.out _; (with_reducible repeat (first | refine YF ?_ _ | refine YG ?_ | refine YH ?_ _)); refine blk_far ?_ NB132_134.out _; (with_reducible repeat (first | refine YF ?_ _ | refine YG ?_ | refine YH ?_ _)); exact BK132.out) hb); have n1_ := YL (YK (g := gb133) (o := .cells #[.bool false, .int .i64 0, .int .i64 0, .int .i64 0, .int .i64 0, .int .i64 0] 30 (0, 0)) (by (with_reducible repeat (first | refine YF ?_ _ | refine YG ?_ | refine YH ?_ _)); refine blk_far ?_ NB133_134.out _; (with_reducible repeat (first | refine YF ?_ _ | refine YG ?_ | refine YH ?_ _)); refine blk_far ?_ NB133_134.out _; (with_reducible repeat (first | refine YF ?_ _ | refine YG ?_ | refine YH ?_ _)); refine blk_far ?_ NB133_134.out _; (with_reducible repeat (first | refine YF ?_ _ | refine YG ?_ | refine YH ?_ _)); refine blk_far ?_ NB133_134.out _; (with_reducible repeat (first | refine YF ?_ _ | refine YG ?_ | refine YH ?_ _)); refine blk_far ?_ NB133_134.out _; (with_reducible repeat (first | refine YF ?_ _ | refine YG ?_ | refine YH ?_ _)); refine blk_far ?_ NB133_134.out _; (with_reducible repeat (first | refine YF ?_ _ | refine YG ?_ | refine YH ?_ _)); exact BK133.out) hb); have n2_ := YL (YK (g := gb134) (o := .cells #[.bool false, .int .i64 a0_0, .int .i64 a0_1, .int .i64 a0_2, .int .i64 a1, .int .i64 a2] 30 (0, 0)) (by (with_reducible repeat (first | refine YF ?_ _ | refine YG ?_ | refine YH ?_ _)); refine blk_put (cs := #[.bool false, .int .i64 a0_0, .int .i64 a0_1, .int .i64 a0_2, .int .i64 a1, .int .i64 0]) ?_ 5 _ rfl; (with_reducible repeat (first | refine YF ?_ _ | refine YG ?_ | refine YH ?_ _)); refine blk_put (cs := #[.bool false, .int .i64 a0_0, .int .i64 a0_1, .int .i64 a0_2, .int .i64 0, .int .i64 0]) ?_ 4 _ rfl; (with_reducible repeat (first | refine YF ?_ _ | refine YG ?_ | refine YH ?_ _)); refine blk_put (cs := #[.bool false, .int .i64 a0_0, .int .i64 a0_1, .int .i64 0, .int .i64 0, .int .i64 0]) ?_ 3 _ rfl; (with_reducible repeat (first | refine YF ?_ _ | refine YG ?_ | refine YH ?_ _)); refine blk_put (cs := #[.bool false, .int .i64 a0_0, .int .i64 0, .int .i64 0, .int .i64 0, .int .i64 0]) ?_ 2 _ rfl; (with_reducible repeat (first | refine YF ?_ _ | refine YG ?_ | refine YH ?_ _)); refine blk_put (cs := #[.bool false, .int .i64 0, .int .i64 0, .int .i64 0, .int .i64 0, .int .i64 0]) ?_ 1 _ rfl; (with_reducible repeat (first | refine YF ?_ _ | refine YG ?_ | refine YH ?_ _)); refine blk_put (cs := #[.bool false, .int .i64 0, .int .i64 0, .int .i64 0, .int .i64 0, .int .i64 0]) ?_ 0 _ rfl; (with_reducible repeat (first | refine YF ?_ _ | refine YG ?_ | refine YH ?_ _)); exact BK134.out) hb); have n3_ := YL (YD (by repeat (first | (with_reducible first | exact HB.out | apply YA | apply YB | apply YC | refine below_set ?_ GE132.out | refine below_set ?_ GE133.out | refine below_set ?_ GE134.out) | exact HB.out)) hb); clear BK132; clear BK133; clear BK134; clear HB; have BK132 := n0_; have BK133 := n1_; have BK134 := n2_; have HB := n3_; clear n0_ n1_ n2_ n3_; (try clear hb); (try clear hb2); (try clear hk); (try clear hi); have q26_0 : w25.cell? ⟨gb133, 0, none⟩ = some (.bool false) := (YI BK133.out 0).trans rfl; have q26_1 : w25.cell? ⟨gb133, 1, none⟩ = some (.int .i64 0) := (YI BK133.out 1).trans rfl; have q26_2 : w25.cell? ⟨gb133, 2, none⟩ = some (.int .i64 0) := (YI BK133.out 2).trans rfl; have q26_3 : w25.cell? ⟨gb133, 3, none⟩ = some (.int .i64 0) := (YI BK133.out 3).trans rfl; have q26_4 : w25.cell? ⟨gb133, 4, none⟩ = some (.int .i64 0) := (YI BK133.out 4).trans rfl; have q26_5 : w25.cell? ⟨gb133, 5, none⟩ = some (.int .i64 0) := (YI BK133.out 5).trans rfl; have f26_0 := YJ BK133.out 0; have f26_1 := YJ BK133.out 1; have f26_2 := YJ BK133.out 2; have f26_3 := YJ BK133.out 3; have f26_4 := YJ BK133.out 4; have f26_5 := YJ BK133.out 5))
 refine bodyPost_ret (results_ct rfl _ _ gb133 30 #[.bool false, .int .i64 0, .int .i64 0, .int .i64 0, .int .i64 0, .int .i64 0] (0, 0) _ rfl (by (with_reducible repeat (first | refine YF ?_ _ | refine YG ?_ | refine YH ?_ _)); refine blk_put (cs := #[.bool false, .int .i64 0, .int .i64 0, .int .i64 0, .int .i64 0, .int .i64 0]) ?_ 5 _ rfl; (with_reducible repeat (first | refine YF ?_ _ | refine YG ?_ | refine YH ?_ _)); refine blk_put (cs := #[.bool false, .int .i64 0, .int .i64 0, .int .i64 0, .int .i64 0, .int .i64 0]) ?_ 4 _ rfl; (with_reducible repeat (first | refine YF ?_ _ | refine YG ?_ | refine YH ?_ _)); refine blk_put (cs := #[.bool false, .int .i64 0, .int .i64 0, .int .i64 0, .int .i64 0, .int .i64 0]) ?_ 3 _ rfl; (with_reducible repeat (first | refine YF ?_ _ | refine YG ?_ | refine YH ?_ _)); refine blk_put (cs := #[.bool false, .int .i64 0, .int .i64 0, .int .i64 0, .int .i64 0, .int .i64 0]) ?_ 2 _ rfl; (with_reducible repeat (first | refine YF ?_ _ | refine YG ?_ | refine YH ?_ _)); refine blk_put (cs := #[.bool false, .int .i64 0, .int .i64 0, .int .i64 0, .int .i64 0, .int .i64 0]) ?_ 1 _ rfl; (with_reducible repeat (first | refine YF ?_ _ | refine YG ?_ | refine YH ?_ _)); refine blk_put (cs := #[.bool false, .int .i64 0, .int .i64 0, .int .i64 0, .int .i64 0, .int .i64 0]) ?_ 0 _ rfl; (with_reducible repeat (first | refine YF ?_ _ | refine YG ?_ | refine YH ?_ _)); exact BK133.out) Try.underlying30 rfl (by kernel_rfl)) rfl ?_
 exact ⟨by first | rfl | (simp [errW_none, errW_some] <;> rfl) | (simp [*, errW_none, errW_some] <;> rfl), by repeat (first | (with_reducible first | exact HB.out | apply YA | apply YB | apply YC | refine below_set ?_ GE132.out | refine below_set ?_ GE133.out | refine below_set ?_ GE134.out) | exact HB.out)⟩
end Go.Proofs.Ytclbempnhelmoaa.P
