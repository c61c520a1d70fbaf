/- Walks. -/
import Derived.Test.YtpgmmnlkiogamaaProg
import Derived.Below
import Derived.Deep.Draws
import Derived.Deep.AppendLies
import Derived.Maps.AppendAt
import Derived.OwnWalk
import Derived.Laws.BytesArg
import Derived.Laws.MakeOwn
import Derived.Laws.OwnMore
import Derived.Deep.OwnRows
import Derived.Tactics
import Derived.Lib.ConvBytes
import Derived.Laws.Slices
import Derived.WalkKit
import Derived.KernelRfl
import Derived.RowKit3
import Derived.Deep.LoopGhost
import Derived.Deep.QuietTactic
import Derived.BigQuiet
import Derived.WideLaws
import Derived.Deep.DeepCutAuto
import Derived.Deep.CutBlock
import Derived.Deep.RegionHeld3
import Derived.Laws.Rows
import Derived.Lib.AppendStr
import Derived.ArgAppend
import Derived.Laws.IdiomCopy
import Derived.OrdersHeld
import Derived.Laws.BitsLemmas
import Derived.RowKit
import Derived.Test.YtpgmmnlkiogamaaXFramePartsWWords
import Derived.Test.YtpgmmnlkiogamaaXFramePartsWLast
import Derived.Test.YtpgmmnlkiogamaaXFramePartsWTab
import Derived.Test.YtpgmmnlkiogamaaXFramePartsWFour
import Derived.Test.YtpgmmnlkiogamaaXFramePartsWQPut
import Derived.Test.YtpgmmnlkiogamaaXFramePartsWApart
import Derived.Test.YtpgmmnlkiogamaaXFramePartsWArr
import Derived.Test.YtpgmmnlkiogamaaXFramePartsWZeros
import Derived.Test.YtpgmmnlkiogamaaXFramePartsWFoot
import Derived.Test.YtpgmmnlkiogamaaXFramePartsWKept
import Derived.Test.YtpgmmnlkiogamaaXFramePartsWShare
import Derived.Test.YtpgmmnlkiogamaaXFramePartsWN
import Derived.Test.YtpgmmnlkiogamaaXFramePartsWFootNe
import Derived.Test.YtpgmmnlkiogamaaXFramePartsWAt
import Derived.Test.YtpgmmnlkiogamaaXFramePartsWEqStruct
import Derived.Test.YtpgmmnlkiogamaaXFramePartsWRepsOne
import Derived.Test.YtpgmmnlkiogamaaXFramePartsWInv
import Derived.Test.YtpgmmnlkiogamaaXFramePartsWInvWords
import Derived.Test.YtpgmmnlkiogamaaXFramePartsWGuard
import Derived.Test.YtpgmmnlkiogamaaXFramePartsWNEv
import Derived.Test.YtpgmmnlkiogamaaXFramePartsWMore
import Derived.Laws.BitsAllLaws
import Derived.OpenShut
import Derived.Laws.LoneSync
import Derived.MapKept
set_option linter.unusedVariables false
set_option linter.unusedSimpArgs false
set_option maxHeartbeats 8000000
set_option maxRecDepth 100000
namespace Go.Proofs.Ytpgmmnlkiogamaa.P
open Go.RowKit YtpgmmnlkiogamaaW.PrintWords YtpgmmnlkiogamaaW.PrintLast YtpgmmnlkiogamaaW.PrintMore
attribute [local go_sem] max2_int min2_int max_two min_two max_three min_three max_four min_four
def errW : Option Int → Value
 | none => .nilIface
 | some c => .iface 0 (.int .i64 c)
theorem errW_none : errW none = .nilIface := rfl
theorem errW_some (c : Int) : errW (some c) = .iface 0 (.int .i64 c) := rfl
theorem info5 : (Try.prog.info? 5).map (fun i => (i.zero, i.size, i.bytes)) = some (some (.int .u8 0), 1, 1) := by kernel_rfl
theorem info50 : (Try.prog.info? 50).map (fun i => (i.zero, i.size, i.bytes)) = some (some (.agg #[(.int .i64 0), (.int .i64 0), (.slice none 0 0), (.int .i64 0), (.slice none 0 0), (.slice none 0 0), (.int .i64 0), (.int .i64 0), (.int .i64 0), (.int .i64 0), (.string ⟨#[]⟩)]), 11, 144) := by kernel_rfl
theorem info62 : (Try.prog.info? 62).map (fun i => (i.zero, i.size, i.bytes)) = some (some (.agg #[(.int .i64 0), (.int .i64 0), (.bool false), (.int .i64 0), (.int .i64 0), (.int .i64 0), (.int .i64 0), (.int .i64 0), (.int .i64 0), (.int .i64 0), (.int .i64 0), (.int .i64 0)]), 12, 96) := by kernel_rfl
structure S101 where
 f0 : Int
 f1 : Int
def z101 : S101 := ⟨(0 : Int), (0 : Int)⟩
def k101 : Kd S101 := Kd.iso (Kd.pair (Kd.int .i64) (Kd.int .i64)) (fun x : S101 => (x.f0, x.f1))
theorem k101_open {w : World} {x : S101} {cs : List Value} (h : k101.K w x cs) : cs = [.int .i64 x.f0, .int .i64 x.f1] := by
 obtain ⟨_, _, rfl, rfl, rfl⟩ := h
 exact rfl
def rd_T101 (xs : List S101) (i : Int) : S101 := xs.getD i.toNat z101
theorem at_T101 {w : World} {A : Option Addr} {n : Nat} {xs : List S101} (h : Kd.C k101 w A n xs) (i : Int) (h0 : 0 ≤ i) (h1 : i < n) : ∃ ad , A = some ad ∧ w.cell? (ad.add (i.toNat * 2)) = some (.int .i64 (rd_T101 xs i).f0) ∧ w.cell? ⟨(ad.add (i.toNat * 2)).block, (ad.add (i.toNat * 2)).off + 1, none⟩ = some (.int .i64 (rd_T101 xs i).f1) := by
 obtain ⟨ad, c, e, _, hK, hc0⟩ := Kd.C_get h z101 i h0 h1
 have hc : ∀ j u, c[j]? = some u → w.cell? (ad.add (i.toNat * 2 + j)) = some u := hc0
 obtain rfl := k101_open hK
 exact ⟨ad, e, hc 0 _ rfl, by rw [← add_field _ _ 1 (by omega)]; exact hc 1 _ rfl⟩
structure S42 where
 f0 : Int
 f1 : (List S101)
def z42 : S42 := ⟨(0 : Int), ([] : List S101)⟩
def k42 : Kd S42 := Kd.iso (Kd.pair (Kd.int .i64) (Kd.slice 101 k101)) (fun x : S42 => (x.f0, x.f1))
theorem k42_open {w : World} {x : S42} {cs : List Value} (h : k42.K w x cs) : ∃ A1 c1, cs = [.int .i64 x.f0, .slice A1 x.f1.length c1] ∧ x.f1.length ≤ c1 ∧ k101.C w A1 x.f1.length x.f1 := by
 obtain ⟨_, _, rfl, rfl, ⟨A1, c1, rfl, l1, g1⟩⟩ := h
 exact ⟨A1, c1, rfl, l1, g1⟩
theorem k42_mk (w : World) (x : S42) {A1 : Option Addr} {c1 : Nat} (l1 : x.f1.length ≤ c1) (g1 : k101.C w A1 x.f1.length x.f1) : k42.K w x [.int .i64 x.f0, .slice A1 x.f1.length c1] := ⟨[.int .i64 x.f0], [.slice A1 x.f1.length c1], rfl, rfl, ⟨A1, c1, rfl, l1, g1⟩⟩
theorem k42_mkM (w : World) (base : Nat) (ok : Nat → Prop) (x : S42) {v1 : Value} (g1 : k101.R 101 w base ok v1 x.f1) : k42.M w base ok x [.int .i64 x.f0, v1] := ⟨[.int .i64 x.f0], [v1], rfl, rfl, ⟨v1, rfl, g1⟩⟩
structure S58 where
 f0 : Bool
 f1 : Int
 f2 : Int
 f3 : Int
 f4 : Int
 f5 : Int
def z58 : S58 := ⟨false, (0 : Int), (0 : Int), (0 : Int), (0 : Int), (0 : Int)⟩
def k58 : Kd S58 := Kd.iso (Kd.pair Kd.bool (Kd.pair (Kd.int .i64) (Kd.pair (Kd.int .i64) (Kd.pair (Kd.int .i64) (Kd.pair (Kd.int .i64) (Kd.int .i64)))))) (fun x : S58 => (x.f0, x.f1, x.f2, x.f3, x.f4, x.f5))
theorem k58_heap : Kd.Heap k58 := Kd.heap_iso _ (Kd.heap_pair Kd.heap_bool (Kd.heap_pair (Kd.heap_int .i64) (Kd.heap_pair (Kd.heap_int .i64) (Kd.heap_pair (Kd.heap_int .i64) (Kd.heap_pair (Kd.heap_int .i64) (Kd.heap_int .i64))))))
theorem k58_open {w : World} {x : S58} {cs : List Value} (h : k58.K w x cs) : cs = [.bool x.f0, .int .i64 x.f1, .int .i64 x.f2, .int .i64 x.f3, .int .i64 x.f4, .int .i64 x.f5] := by
 obtain ⟨_, _, rfl, rfl, ⟨_, _, rfl, rfl, ⟨_, _, rfl, rfl, ⟨_, _, rfl, rfl, ⟨_, _, rfl, rfl, rfl⟩⟩⟩⟩⟩ := h
 exact rfl
theorem k58_mkM (w : World) (base : Nat) (ok : Nat → Prop) (x : S58)  : k58.M w base ok x [.bool x.f0, .int .i64 x.f1, .int .i64 x.f2, .int .i64 x.f3, .int .i64 x.f4, .int .i64 x.f5] := ⟨[.bool x.f0], [.int .i64 x.f1, .int .i64 x.f2, .int .i64 x.f3, .int .i64 x.f4, .int .i64 x.f5], rfl, rfl, ⟨[.int .i64 x.f1], [.int .i64 x.f2, .int .i64 x.f3, .int .i64 x.f4, .int .i64 x.f5], rfl, rfl, ⟨[.int .i64 x.f2], [.int .i64 x.f3, .int .i64 x.f4, .int .i64 x.f5], rfl, rfl, ⟨[.int .i64 x.f3], [.int .i64 x.f4, .int .i64 x.f5], rfl, rfl, ⟨[.int .i64 x.f4], [.int .i64 x.f5], rfl, rfl, rfl⟩⟩⟩⟩⟩
structure S60 where
 f0 : Int
 f1 : Int
 f2 : Int
def z60 : S60 := ⟨(0 : Int), (0 : Int), (0 : Int)⟩
def k60 : Kd S60 := Kd.iso (Kd.pair (Kd.int .i64) (Kd.pair (Kd.int .i64) (Kd.int .i64))) (fun x : S60 => (x.f0, x.f1, x.f2))
theorem k60_heap : Kd.Heap k60 := Kd.heap_iso _ (Kd.heap_pair (Kd.heap_int .i64) (Kd.heap_pair (Kd.heap_int .i64) (Kd.heap_int .i64)))
theorem k60_open {w : World} {x : S60} {cs : List Value} (h : k60.K w x cs) : cs = [.int .i64 x.f0, .int .i64 x.f1, .int .i64 x.f2] := by
 obtain ⟨_, _, rfl, rfl, ⟨_, _, rfl, rfl, rfl⟩⟩ := h
 exact rfl
theorem k60_mkM (w : World) (base : Nat) (ok : Nat → Prop) (x : S60)  : k60.M w base ok x [.int .i64 x.f0, .int .i64 x.f1, .int .i64 x.f2] := ⟨[.int .i64 x.f0], [.int .i64 x.f1, .int .i64 x.f2], rfl, rfl, ⟨[.int .i64 x.f1], [.int .i64 x.f2], rfl, rfl, rfl⟩⟩
structure S62 where
 f0 : Int
 f1 : Int
 f2 : S58
 f3 : S60
 f4 : Int
def z62 : S62 := ⟨(0 : Int), (0 : Int), z58, z60, (0 : Int)⟩
def k62 : Kd S62 := Kd.iso (Kd.pair (Kd.int .i64) (Kd.pair (Kd.int .i64) (Kd.pair k58 (Kd.pair k60 (Kd.int .i64))))) (fun x : S62 => (x.f0, x.f1, x.f2, x.f3, x.f4))
theorem k62_heap : Kd.Heap k62 := Kd.heap_iso _ (Kd.heap_pair (Kd.heap_int .i64) (Kd.heap_pair (Kd.heap_int .i64) (Kd.heap_pair k58_heap (Kd.heap_pair k60_heap (Kd.heap_int .i64)))))
theorem k62_open {w : World} {x : S62} {cs : List Value} (h : k62.K w x cs) : cs = [.int .i64 x.f0, .int .i64 x.f1, .bool x.f2.f0, .int .i64 x.f2.f1, .int .i64 x.f2.f2, .int .i64 x.f2.f3, .int .i64 x.f2.f4, .int .i64 x.f2.f5, .int .i64 x.f3.f0, .int .i64 x.f3.f1, .int .i64 x.f3.f2, .int .i64 x.f4] := by
 obtain ⟨_, _, rfl, rfl, ⟨_, _, rfl, rfl, ⟨_, _, rfl, s2, ⟨_, _, rfl, s8, rfl⟩⟩⟩⟩ := h
 obtain rfl := k58_open s2
 obtain rfl := k60_open s8
 exact rfl
theorem k62_mkM (w : World) (base : Nat) (ok : Nat → Prop) (x : S62)  : k62.M w base ok x [.int .i64 x.f0, .int .i64 x.f1, .bool x.f2.f0, .int .i64 x.f2.f1, .int .i64 x.f2.f2, .int .i64 x.f2.f3, .int .i64 x.f2.f4, .int .i64 x.f2.f5, .int .i64 x.f3.f0, .int .i64 x.f3.f1, .int .i64 x.f3.f2, .int .i64 x.f4] := ⟨[.int .i64 x.f0], [.int .i64 x.f1, .bool x.f2.f0, .int .i64 x.f2.f1, .int .i64 x.f2.f2, .int .i64 x.f2.f3, .int .i64 x.f2.f4, .int .i64 x.f2.f5, .int .i64 x.f3.f0, .int .i64 x.f3.f1, .int .i64 x.f3.f2, .int .i64 x.f4], rfl, rfl, ⟨[.int .i64 x.f1], [.bool x.f2.f0, .int .i64 x.f2.f1, .int .i64 x.f2.f2, .int .i64 x.f2.f3, .int .i64 x.f2.f4, .int .i64 x.f2.f5, .int .i64 x.f3.f0, .int .i64 x.f3.f1, .int .i64 x.f3.f2, .int .i64 x.f4], rfl, rfl, ⟨[.bool x.f2.f0, .int .i64 x.f2.f1, .int .i64 x.f2.f2, .int .i64 x.f2.f3, .int .i64 x.f2.f4, .int .i64 x.f2.f5], [.int .i64 x.f3.f0, .int .i64 x.f3.f1, .int .i64 x.f3.f2, .int .i64 x.f4], rfl, (k58_mkM w base ok x.f2 ), ⟨[.int .i64 x.f3.f0, .int .i64 x.f3.f1, .int .i64 x.f3.f2], [.int .i64 x.f4], rfl, (k60_mkM w base ok x.f3 ), rfl⟩⟩⟩⟩
def rd_T62 (xs : List S62) (i : Int) : S62 := xs.getD i.toNat z62
theorem at_T62 {w : World} {A : Option Addr} {n : Nat} {xs : List S62} (h : Kd.C k62 w A n xs) (i : Int) (h0 : 0 ≤ i) (h1 : i < n) : ∃ ad , A = some ad ∧ w.cell? (ad.add (i.toNat * 12)) = some (.int .i64 (rd_T62 xs i).f0) ∧ w.cell? ⟨(ad.add (i.toNat * 12)).block, (ad.add (i.toNat * 12)).off + 1, none⟩ = some (.int .i64 (rd_T62 xs i).f1) ∧ w.cell? ⟨(ad.add (i.toNat * 12)).block, (ad.add (i.toNat * 12)).off + 2, none⟩ = some (.bool (rd_T62 xs i).f2.f0) ∧ w.cell? ⟨(ad.add (i.toNat * 12)).block, (ad.add (i.toNat * 12)).off + 3, none⟩ = some (.int .i64 (rd_T62 xs i).f2.f1) ∧ w.cell? ⟨(ad.add (i.toNat * 12)).block, (ad.add (i.toNat * 12)).off + 4, none⟩ = some (.int .i64 (rd_T62 xs i).f2.f2) ∧ w.cell? ⟨(ad.add (i.toNat * 12)).block, (ad.add (i.toNat * 12)).off + 5, none⟩ = some (.int .i64 (rd_T62 xs i).f2.f3) ∧ w.cell? ⟨(ad.add (i.toNat * 12)).block, (ad.add (i.toNat * 12)).off + 6, none⟩ = some (.int .i64 (rd_T62 xs i).f2.f4) ∧ w.cell? ⟨(ad.add (i.toNat * 12)).block, (ad.add (i.toNat * 12)).off + 7, none⟩ = some (.int .i64 (rd_T62 xs i).f2.f5) ∧ w.cell? ⟨(ad.add (i.toNat * 12)).block, (ad.add (i.toNat * 12)).off + 8, none⟩ = some (.int .i64 (rd_T62 xs i).f3.f0) ∧ w.cell? ⟨(ad.add (i.toNat * 12)).block, (ad.add (i.toNat * 12)).off + 9, none⟩ = some (.int .i64 (rd_T62 xs i).f3.f1) ∧ w.cell? ⟨(ad.add (i.toNat * 12)).block, (ad.add (i.toNat * 12)).off + 10, none⟩ = some (.int .i64 (rd_T62 xs i).f3.f2) ∧ w.cell? ⟨(ad.add (i.toNat * 12)).block, (ad.add (i.toNat * 12)).off + 11, none⟩ = some (.int .i64 (rd_T62 xs i).f4) := by
 obtain ⟨ad, c, e, _, hK, hc0⟩ := Kd.C_get h z62 i h0 h1
 have hc : ∀ j u, c[j]? = some u → w.cell? (ad.add (i.toNat * 12 + j)) = some u := hc0
 obtain rfl := k62_open hK
 exact ⟨ad, e, hc 0 _ rfl, by rw [← add_field _ _ 1 (by omega)]; exact hc 1 _ rfl, by rw [← add_field _ _ 2 (by omega)]; exact hc 2 _ rfl, by rw [← add_field _ _ 3 (by omega)]; exact hc 3 _ rfl, by rw [← add_field _ _ 4 (by omega)]; exact hc 4 _ rfl, by rw [← add_field _ _ 5 (by omega)]; exact hc 5 _ rfl, by rw [← add_field _ _ 6 (by omega)]; exact hc 6 _ rfl, by rw [← add_field _ _ 7 (by omega)]; exact hc 7 _ rfl, by rw [← add_field _ _ 8 (by omega)]; exact hc 8 _ rfl, by rw [← add_field _ _ 9 (by omega)]; exact hc 9 _ rfl, by rw [← add_field _ _ 10 (by omega)]; exact hc 10 _ rfl, by rw [← add_field _ _ 11 (by omega)]; exact hc 11 _ rfl⟩
structure S45 where
 f0 : Int
 f1 : (List S62)
def z45 : S45 := ⟨(0 : Int), ([] : List S62)⟩
def k45 : Kd S45 := Kd.iso (Kd.pair (Kd.int .i64) (Kd.slice 62 k62)) (fun x : S45 => (x.f0, x.f1))
theorem k45_open {w : World} {x : S45} {cs : List Value} (h : k45.K w x cs) : ∃ A1 c1, cs = [.int .i64 x.f0, .slice A1 x.f1.length c1] ∧ x.f1.length ≤ c1 ∧ k62.C w A1 x.f1.length x.f1 := by
 obtain ⟨_, _, rfl, rfl, ⟨A1, c1, rfl, l1, g1⟩⟩ := h
 exact ⟨A1, c1, rfl, l1, g1⟩
theorem k45_mk (w : World) (x : S45) {A1 : Option Addr} {c1 : Nat} (l1 : x.f1.length ≤ c1) (g1 : k62.C w A1 x.f1.length x.f1) : k45.K w x [.int .i64 x.f0, .slice A1 x.f1.length c1] := ⟨[.int .i64 x.f0], [.slice A1 x.f1.length c1], rfl, rfl, ⟨A1, c1, rfl, l1, g1⟩⟩
theorem k45_mkM (w : World) (base : Nat) (ok : Nat → Prop) (x : S45) {v1 : Value} (g1 : k62.R 62 w base ok v1 x.f1) : k45.M w base ok x [.int .i64 x.f0, v1] := ⟨[.int .i64 x.f0], [v1], rfl, rfl, ⟨v1, rfl, g1⟩⟩
theorem k45_mkF (W : World) (ok : Nat → Prop) (x : S45) {A1 : Option Addr} {c1 : Nat} (l1 : x.f1.length ≤ c1) (g1 : Kd.F k62 W ok A1 x.f1.length x.f1) : Kd.FK k45 W ok x [.int .i64 x.f0, .slice A1 x.f1.length c1] := fun W2 hW => k45_mk W2 x l1 (g1 W2 hW)
def rd_T45 (xs : List S45) (i : Int) : S45 := xs.getD i.toNat z45
theorem at_T45 {w : World} {A : Option Addr} {n : Nat} {xs : List S45} (h : Kd.C k45 w A n xs) (i : Int) (h0 : 0 ≤ i) (h1 : i < n) : ∃ ad A1 c1, A = some ad ∧ w.cell? (ad.add (i.toNat * 2)) = some (.int .i64 (rd_T45 xs i).f0) ∧ w.cell? ⟨(ad.add (i.toNat * 2)).block, (ad.add (i.toNat * 2)).off + 1, none⟩ = some (.slice A1 (rd_T45 xs i).f1.length c1) ∧ (rd_T45 xs i).f1.length ≤ c1 ∧ k62.C w A1 (rd_T45 xs i).f1.length (rd_T45 xs i).f1 := by
 obtain ⟨ad, c, e, _, hK, hc0⟩ := Kd.C_get h z45 i h0 h1
 have hc : ∀ j u, c[j]? = some u → w.cell? (ad.add (i.toNat * 2 + j)) = some u := hc0
 obtain ⟨A1, c1, rfl, l1, g1⟩ := k45_open hK
 exact ⟨ad, A1, c1, e, hc 0 _ rfl, by rw [← add_field _ _ 1 (by omega)]; exact hc 1 _ rfl, l1, g1⟩
structure S106 where
 f0 : Int
 f1 : Int
 f2 : Int
 f3 : Int
def z106 : S106 := ⟨(0 : Int), (0 : Int), (0 : Int), (0 : Int)⟩
def k106 : Kd S106 := Kd.iso (Kd.pair (Kd.int .i64) (Kd.pair (Kd.int .i64) (Kd.pair (Kd.int .i64) (Kd.int .i64)))) (fun x : S106 => (x.f0, x.f1, x.f2, x.f3))
theorem k106_open {w : World} {x : S106} {cs : List Value} (h : k106.K w x cs) : cs = [.int .i64 x.f0, .int .i64 x.f1, .int .i64 x.f2, .int .i64 x.f3] := by
 obtain ⟨_, _, rfl, rfl, ⟨_, _, rfl, rfl, ⟨_, _, rfl, rfl, rfl⟩⟩⟩ := h
 exact rfl
def rd_T106 (xs : List S106) (i : Int) : S106 := xs.getD i.toNat z106
theorem at_T106 {w : World} {A : Option Addr} {n : Nat} {xs : List S106} (h : Kd.C k106 w A n xs) (i : Int) (h0 : 0 ≤ i) (h1 : i < n) : ∃ ad , A = some ad ∧ w.cell? (ad.add (i.toNat * 4)) = some (.int .i64 (rd_T106 xs i).f0) ∧ w.cell? ⟨(ad.add (i.toNat * 4)).block, (ad.add (i.toNat * 4)).off + 1, none⟩ = some (.int .i64 (rd_T106 xs i).f1) ∧ w.cell? ⟨(ad.add (i.toNat * 4)).block, (ad.add (i.toNat * 4)).off + 2, none⟩ = some (.int .i64 (rd_T106 xs i).f2) ∧ w.cell? ⟨(ad.add (i.toNat * 4)).block, (ad.add (i.toNat * 4)).off + 3, none⟩ = some (.int .i64 (rd_T106 xs i).f3) := by
 obtain ⟨ad, c, e, _, hK, hc0⟩ := Kd.C_get h z106 i h0 h1
 have hc : ∀ j u, c[j]? = some u → w.cell? (ad.add (i.toNat * 4 + j)) = some u := hc0
 obtain rfl := k106_open hK
 exact ⟨ad, e, hc 0 _ rfl, by rw [← add_field _ _ 1 (by omega)]; exact hc 1 _ rfl, by rw [← add_field _ _ 2 (by omega)]; exact hc 2 _ rfl, by rw [← add_field _ _ 3 (by omega)]; exact hc 3 _ rfl⟩
structure S48 where
 f0 : Int
 f1 : Int
 f2 : Int
 f3 : Int
 f4 : ByteArray
def z48 : S48 := ⟨(0 : Int), (0 : Int), (0 : Int), (0 : Int), (⟨#[]⟩ : ByteArray)⟩
def k48 : Kd S48 := Kd.iso (Kd.pair (Kd.int .i64) (Kd.pair (Kd.int .i64) (Kd.pair (Kd.int .i64) (Kd.pair (Kd.int .i64) Kd.string)))) (fun x : S48 => (x.f0, x.f1, x.f2, x.f3, x.f4))
theorem k48_open {w : World} {x : S48} {cs : List Value} (h : k48.K w x cs) : cs = [.int .i64 x.f0, .int .i64 x.f1, .int .i64 x.f2, .int .i64 x.f3, .string x.f4] := by
 obtain ⟨_, _, rfl, rfl, ⟨_, _, rfl, rfl, ⟨_, _, rfl, rfl, ⟨_, _, rfl, rfl, rfl⟩⟩⟩⟩ := h
 exact rfl
theorem k48_mk (w : World) (x : S48)  : k48.K w x [.int .i64 x.f0, .int .i64 x.f1, .int .i64 x.f2, .int .i64 x.f3, .string x.f4] := ⟨[.int .i64 x.f0], [.int .i64 x.f1, .int .i64 x.f2, .int .i64 x.f3, .string x.f4], rfl, rfl, ⟨[.int .i64 x.f1], [.int .i64 x.f2, .int .i64 x.f3, .string x.f4], rfl, rfl, ⟨[.int .i64 x.f2], [.int .i64 x.f3, .string x.f4], rfl, rfl, ⟨[.int .i64 x.f3], [.string x.f4], rfl, rfl, rfl⟩⟩⟩⟩
theorem k48_mkM (w : World) (base : Nat) (ok : Nat → Prop) (x : S48)  : k48.M w base ok x [.int .i64 x.f0, .int .i64 x.f1, .int .i64 x.f2, .int .i64 x.f3, .string x.f4] := ⟨[.int .i64 x.f0], [.int .i64 x.f1, .int .i64 x.f2, .int .i64 x.f3, .string x.f4], rfl, rfl, ⟨[.int .i64 x.f1], [.int .i64 x.f2, .int .i64 x.f3, .string x.f4], rfl, rfl, ⟨[.int .i64 x.f2], [.int .i64 x.f3, .string x.f4], rfl, rfl, ⟨[.int .i64 x.f3], [.string x.f4], rfl, rfl, rfl⟩⟩⟩⟩
structure S50 where
 f0 : Int
 f1 : S42
 f2 : S45
 f3 : (List S106)
 f4 : S48
def z50 : S50 := ⟨(0 : Int), z42, z45, ([] : List S106), z48⟩
def k50 : Kd S50 := Kd.iso (Kd.pair (Kd.int .i64) (Kd.pair k42 (Kd.pair k45 (Kd.pair (Kd.slice 106 k106) k48)))) (fun x : S50 => (x.f0, x.f1, x.f2, x.f3, x.f4))
theorem k50_open {w : World} {x : S50} {cs : List Value} (h : k50.K w x cs) : ∃ A2 c2 A4 c4 A5 c5, cs = [.int .i64 x.f0, .int .i64 x.f1.f0, .slice A2 x.f1.f1.length c2, .int .i64 x.f2.f0, .slice A4 x.f2.f1.length c4, .slice A5 x.f3.length c5, .int .i64 x.f4.f0, .int .i64 x.f4.f1, .int .i64 x.f4.f2, .int .i64 x.f4.f3, .string x.f4.f4] ∧ x.f1.f1.length ≤ c2 ∧ k101.C w A2 x.f1.f1.length x.f1.f1 ∧ x.f2.f1.length ≤ c4 ∧ k62.C w A4 x.f2.f1.length x.f2.f1 ∧ x.f3.length ≤ c5 ∧ k106.C w A5 x.f3.length x.f3 := by
 obtain ⟨_, _, rfl, rfl, ⟨_, _, rfl, s1, ⟨_, _, rfl, s3, ⟨_, _, rfl, ⟨A5, c5, rfl, l5, g5⟩, s6⟩⟩⟩⟩ := h
 obtain ⟨A2, c2, rfl, l2, g2⟩ := k42_open s1
 obtain ⟨A4, c4, rfl, l4, g4⟩ := k45_open s3
 obtain rfl := k48_open s6
 exact ⟨A2, c2, A4, c4, A5, c5, rfl, l2, g2, l4, g4, l5, g5⟩
theorem k50_mk (w : World) (x : S50) {A2 : Option Addr} {c2 : Nat} (l2 : x.f1.f1.length ≤ c2) (g2 : k101.C w A2 x.f1.f1.length x.f1.f1) {A4 : Option Addr} {c4 : Nat} (l4 : x.f2.f1.length ≤ c4) (g4 : k62.C w A4 x.f2.f1.length x.f2.f1) {A5 : Option Addr} {c5 : Nat} (l5 : x.f3.length ≤ c5) (g5 : k106.C w A5 x.f3.length x.f3) : k50.K w x [.int .i64 x.f0, .int .i64 x.f1.f0, .slice A2 x.f1.f1.length c2, .int .i64 x.f2.f0, .slice A4 x.f2.f1.length c4, .slice A5 x.f3.length c5, .int .i64 x.f4.f0, .int .i64 x.f4.f1, .int .i64 x.f4.f2, .int .i64 x.f4.f3, .string x.f4.f4] := ⟨[.int .i64 x.f0], [.int .i64 x.f1.f0, .slice A2 x.f1.f1.length c2, .int .i64 x.f2.f0, .slice A4 x.f2.f1.length c4, .slice A5 x.f3.length c5, .int .i64 x.f4.f0, .int .i64 x.f4.f1, .int .i64 x.f4.f2, .int .i64 x.f4.f3, .string x.f4.f4], rfl, rfl, ⟨[.int .i64 x.f1.f0, .slice A2 x.f1.f1.length c2], [.int .i64 x.f2.f0, .slice A4 x.f2.f1.length c4, .slice A5 x.f3.length c5, .int .i64 x.f4.f0, .int .i64 x.f4.f1, .int .i64 x.f4.f2, .int .i64 x.f4.f3, .string x.f4.f4], rfl, (k42_mk w x.f1 l2 g2), ⟨[.int .i64 x.f2.f0, .slice A4 x.f2.f1.length c4], [.slice A5 x.f3.length c5, .int .i64 x.f4.f0, .int .i64 x.f4.f1, .int .i64 x.f4.f2, .int .i64 x.f4.f3, .string x.f4.f4], rfl, (k45_mk w x.f2 l4 g4), ⟨[.slice A5 x.f3.length c5], [.int .i64 x.f4.f0, .int .i64 x.f4.f1, .int .i64 x.f4.f2, .int .i64 x.f4.f3, .string x.f4.f4], rfl, ⟨A5, c5, rfl, l5, g5⟩, (k48_mk w x.f4 )⟩⟩⟩⟩
theorem k50_mkM (w : World) (base : Nat) (ok : Nat → Prop) (x : S50) {v2 : Value} (g2 : k101.R 101 w base ok v2 x.f1.f1) {v4 : Value} (g4 : k62.R 62 w base ok v4 x.f2.f1) {v5 : Value} (g5 : k106.R 106 w base ok v5 x.f3) : k50.M w base ok x [.int .i64 x.f0, .int .i64 x.f1.f0, v2, .int .i64 x.f2.f0, v4, v5, .int .i64 x.f4.f0, .int .i64 x.f4.f1, .int .i64 x.f4.f2, .int .i64 x.f4.f3, .string x.f4.f4] := ⟨[.int .i64 x.f0], [.int .i64 x.f1.f0, v2, .int .i64 x.f2.f0, v4, v5, .int .i64 x.f4.f0, .int .i64 x.f4.f1, .int .i64 x.f4.f2, .int .i64 x.f4.f3, .string x.f4.f4], rfl, rfl, ⟨[.int .i64 x.f1.f0, v2], [.int .i64 x.f2.f0, v4, v5, .int .i64 x.f4.f0, .int .i64 x.f4.f1, .int .i64 x.f4.f2, .int .i64 x.f4.f3, .string x.f4.f4], rfl, (k42_mkM w base ok x.f1 g2), ⟨[.int .i64 x.f2.f0, v4], [v5, .int .i64 x.f4.f0, .int .i64 x.f4.f1, .int .i64 x.f4.f2, .int .i64 x.f4.f3, .string x.f4.f4], rfl, (k45_mkM w base ok x.f2 g4), ⟨[v5], [.int .i64 x.f4.f0, .int .i64 x.f4.f1, .int .i64 x.f4.f2, .int .i64 x.f4.f3, .string x.f4.f4], rfl, ⟨v5, rfl, g5⟩, (k48_mkM w base ok x.f4 )⟩⟩⟩⟩
theorem k50_mkF (W : World) (ok : Nat → Prop) (x : S50) {A2 : Option Addr} {c2 : Nat} (l2 : x.f1.f1.length ≤ c2) (g2 : Kd.F k101 W ok A2 x.f1.f1.length x.f1.f1) {A4 : Option Addr} {c4 : Nat} (l4 : x.f2.f1.length ≤ c4) (g4 : Kd.F k62 W ok A4 x.f2.f1.length x.f2.f1) {A5 : Option Addr} {c5 : Nat} (l5 : x.f3.length ≤ c5) (g5 : Kd.F k106 W ok A5 x.f3.length x.f3) : Kd.FK k50 W ok x [.int .i64 x.f0, .int .i64 x.f1.f0, .slice A2 x.f1.f1.length c2, .int .i64 x.f2.f0, .slice A4 x.f2.f1.length c4, .slice A5 x.f3.length c5, .int .i64 x.f4.f0, .int .i64 x.f4.f1, .int .i64 x.f4.f2, .int .i64 x.f4.f3, .string x.f4.f4] := fun W2 hW => k50_mk W2 x l2 (g2 W2 hW) l4 (g4 W2 hW) l5 (g5 W2 hW)
def rd_T50 (xs : List S50) (i : Int) : S50 := xs.getD i.toNat z50
theorem at_T50 {w : World} {A : Option Addr} {n : Nat} {xs : List S50} (h : Kd.C k50 w A n xs) (i : Int) (h0 : 0 ≤ i) (h1 : i < n) : ∃ ad A2 c2 A4 c4 A5 c5, A = some ad ∧ w.cell? (ad.add (i.toNat * 11)) = some (.int .i64 (rd_T50 xs i).f0) ∧ w.cell? ⟨(ad.add (i.toNat * 11)).block, (ad.add (i.toNat * 11)).off + 1, none⟩ = some (.int .i64 (rd_T50 xs i).f1.f0) ∧ w.cell? ⟨(ad.add (i.toNat * 11)).block, (ad.add (i.toNat * 11)).off + 2, none⟩ = some (.slice A2 (rd_T50 xs i).f1.f1.length c2) ∧ w.cell? ⟨(ad.add (i.toNat * 11)).block, (ad.add (i.toNat * 11)).off + 3, none⟩ = some (.int .i64 (rd_T50 xs i).f2.f0) ∧ w.cell? ⟨(ad.add (i.toNat * 11)).block, (ad.add (i.toNat * 11)).off + 4, none⟩ = some (.slice A4 (rd_T50 xs i).f2.f1.length c4) ∧ w.cell? ⟨(ad.add (i.toNat * 11)).block, (ad.add (i.toNat * 11)).off + 5, none⟩ = some (.slice A5 (rd_T50 xs i).f3.length c5) ∧ w.cell? ⟨(ad.add (i.toNat * 11)).block, (ad.add (i.toNat * 11)).off + 6, none⟩ = some (.int .i64 (rd_T50 xs i).f4.f0) ∧ w.cell? ⟨(ad.add (i.toNat * 11)).block, (ad.add (i.toNat * 11)).off + 7, none⟩ = some (.int .i64 (rd_T50 xs i).f4.f1) ∧ w.cell? ⟨(ad.add (i.toNat * 11)).block, (ad.add (i.toNat * 11)).off + 8, none⟩ = some (.int .i64 (rd_T50 xs i).f4.f2) ∧ w.cell? ⟨(ad.add (i.toNat * 11)).block, (ad.add (i.toNat * 11)).off + 9, none⟩ = some (.int .i64 (rd_T50 xs i).f4.f3) ∧ w.cell? ⟨(ad.add (i.toNat * 11)).block, (ad.add (i.toNat * 11)).off + 10, none⟩ = some (.string (rd_T50 xs i).f4.f4) ∧ (rd_T50 xs i).f1.f1.length ≤ c2 ∧ k101.C w A2 (rd_T50 xs i).f1.f1.length (rd_T50 xs i).f1.f1 ∧ (rd_T50 xs i).f2.f1.length ≤ c4 ∧ k62.C w A4 (rd_T50 xs i).f2.f1.length (rd_T50 xs i).f2.f1 ∧ (rd_T50 xs i).f3.length ≤ c5 ∧ k106.C w A5 (rd_T50 xs i).f3.length (rd_T50 xs i).f3 := by
 obtain ⟨ad, c, e, _, hK, hc0⟩ := Kd.C_get h z50 i h0 h1
 have hc : ∀ j u, c[j]? = some u → w.cell? (ad.add (i.toNat * 11 + j)) = some u := hc0
 obtain ⟨A2, c2, A4, c4, A5, c5, rfl, l2, g2, l4, g4, l5, g5⟩ := k50_open hK
 exact ⟨ad, A2, c2, A4, c4, A5, c5, e, hc 0 _ rfl, by rw [← add_field _ _ 1 (by omega)]; exact hc 1 _ rfl, by rw [← add_field _ _ 2 (by omega)]; exact hc 2 _ rfl, by rw [← add_field _ _ 3 (by omega)]; exact hc 3 _ rfl, by rw [← add_field _ _ 4 (by omega)]; exact hc 4 _ rfl, by rw [← add_field _ _ 5 (by omega)]; exact hc 5 _ rfl, by rw [← add_field _ _ 6 (by omega)]; exact hc 6 _ rfl, by rw [← add_field _ _ 7 (by omega)]; exact hc 7 _ rfl, by rw [← add_field _ _ 8 (by omega)]; exact hc 8 _ rfl, by rw [← add_field _ _ 9 (by omega)]; exact hc 9 _ rfl, by rw [← add_field _ _ 10 (by omega)]; exact hc 10 _ rfl, l2, g2, l4, g4, l5, g5⟩
structure S116 where
 f0 : Int
 f1 : Int
def z116 : S116 := ⟨(0 : Int), (0 : Int)⟩
def k116 : Kd S116 := Kd.iso (Kd.pair (Kd.int .i64) (Kd.int .i64)) (fun x : S116 => (x.f0, x.f1))
theorem k116_open {w : World} {x : S116} {cs : List Value} (h : k116.K w x cs) : cs = [.int .i64 x.f0, .int .i64 x.f1] := by
 obtain ⟨_, _, rfl, rfl, rfl⟩ := h
 exact rfl
theorem k116_mkM (w : World) (base : Nat) (ok : Nat → Prop) (x : S116)  : k116.M w base ok x [.int .i64 x.f0, .int .i64 x.f1] := ⟨[.int .i64 x.f0], [.int .i64 x.f1], rfl, rfl, rfl⟩
def rd_T116 (xs : List S116) (i : Int) : S116 := xs.getD i.toNat z116
theorem at_T116 {w : World} {A : Option Addr} {n : Nat} {xs : List S116} (h : Kd.C k116 w A n xs) (i : Int) (h0 : 0 ≤ i) (h1 : i < n) : ∃ ad , A = some ad ∧ w.cell? (ad.add (i.toNat * 2)) = some (.int .i64 (rd_T116 xs i).f0) ∧ w.cell? ⟨(ad.add (i.toNat * 2)).block, (ad.add (i.toNat * 2)).off + 1, none⟩ = some (.int .i64 (rd_T116 xs i).f1) := by
 obtain ⟨ad, c, e, _, hK, hc0⟩ := Kd.C_get h z116 i h0 h1
 have hc : ∀ j u, c[j]? = some u → w.cell? (ad.add (i.toNat * 2 + j)) = some u := hc0
 obtain rfl := k116_open hK
 exact ⟨ad, e, hc 0 _ rfl, by rw [← add_field _ _ 1 (by omega)]; exact hc 1 _ rfl⟩
structure S24 where
 f0 : Int
 f1 : Int
 f2 : Int
 f3 : Int
 f4 : (List S50)
def k24 : Kd S24 := Kd.iso (Kd.pair (Kd.int .i64) (Kd.pair (Kd.int .i64) (Kd.pair (Kd.int .i64) (Kd.pair (Kd.int .i64) (Kd.slice 50 k50))))) (fun x : S24 => (x.f0, x.f1, x.f2, x.f3, x.f4))
theorem k24_open {w : World} {x : S24} {cs : List Value} (h : k24.K w x cs) : ∃ A4 c4, cs = [.int .i64 x.f0, .int .i64 x.f1, .int .i64 x.f2, .int .i64 x.f3, .slice A4 x.f4.length c4] ∧ x.f4.length ≤ c4 ∧ k50.C w A4 x.f4.length x.f4 := by
 obtain ⟨_, _, rfl, rfl, ⟨_, _, rfl, rfl, ⟨_, _, rfl, rfl, ⟨_, _, rfl, rfl, ⟨A4, c4, rfl, l4, g4⟩⟩⟩⟩⟩ := h
 exact ⟨A4, c4, rfl, l4, g4⟩
end Go.Proofs.Ytpgmmnlkiogamaa.P
namespace Go.Proofs.Ytpgmmnlkiogamaa.P
open Go.RowKit YtpgmmnlkiogamaaW.PrintWords YtpgmmnlkiogamaaW.PrintLast YtpgmmnlkiogamaaW.PrintMore
section
variable {P : Program} {ops : Array Oper} {Q : Exit → Act → World → Prop} {md : Region.Mode} {S : World → Prop} {ds : List Nat} {T : Bool × List (List Nat × List Nat)} {B : List Nat}
theorem pA (i : Nat) (N : Option Tmp) {oi : Oper} {v : Value} {fuel : Nat} {l l' : Array Bool} {a a' : Act} {w : World} (h : wpAnyLast P md ops Q S ds fuel l' a' w)
  (hl : l.setIfInBounds i true = l' := by simp only [List.setIfInBounds_toArray, List.set_cons_zero, List.set_cons_succ]; rfl) (hi : rtab md ops = T ∧ ops[i]? = some oi ∧ oi.dst = N ∧ Region.wanted oi (yielded ops a.tmps) = true := by exact ⟨HT_.out, rfl, rfl, rfl⟩) (hc : anyT T l.toList l'.toList i = true := by kernel_rfl)
  (hy : ∀ w', (execOp a.eval oi).run P w' = .ok (.value v) w' := by intro w'; go_simp; with_reducible rfl)
  (ha : a.put N v = a' := by simp only [Act.put, List.setIfInBounds_toArray, List.set_cons_zero, List.set_cons_succ, i64_w, i32_w]; rfl) (hQ : ∀ c a w, Q (.panic c) (a.put oi.dst v) w → Q (.panic c) a w := by exact fun _ _ _ h => h) : wpAnyLast P md ops Q S ds (fuel + 1) l a w :=
 pure_ l' hi.2.1 hi.2.2.1 (any_of hi.1 hc) hQ (Or.inl ⟨hi.2.2.2, hy⟩) ha h
theorem pN (i : Nat) (N : Option Tmp) {oi : Oper} {fuel : Nat} {l l' : Array Bool} {a a' : Act} {w : World} (h : wpAnyLast P md ops Q S ds fuel l' a' w)
  (hl : l.setIfInBounds i true = l' := by simp only [List.setIfInBounds_toArray, List.set_cons_zero, List.set_cons_succ]; rfl) (hi : rtab md ops = T ∧ ops[i]? = some oi ∧ oi.dst = N ∧ Region.wanted oi (yielded ops a.tmps) = false := by exact ⟨HT_.out, rfl, rfl, rfl⟩) (hc : anyT T l.toList l'.toList i = true := by kernel_rfl)
  (ha : a.put N undef = a' := by simp only [Act.put, List.setIfInBounds_toArray, List.set_cons_zero, List.set_cons_succ, i64_w, i32_w]; rfl) (hQ : ∀ c a w, Q (.panic c) (a.put oi.dst undef) w → Q (.panic c) a w := by exact fun _ _ _ h => h) : wpAnyLast P md ops Q S ds (fuel + 1) l a w :=
 pure_ l' hi.2.1 hi.2.2.1 (any_of hi.1 hc) hQ (Or.inr ⟨hi.2.2.2, rfl⟩) ha h
theorem tA (i : Nat) (N : Option Tmp) {oi : Oper} {v : Value} {fuel : Nat} {l l' : Array Bool} {a a' : Act} {w : World} (h : wpAnyLast P md ops Q S ds fuel l' a' w)
  (hl : l.setIfInBounds i true = l' := by simp only [List.setIfInBounds_toArray, List.set_cons_zero, List.set_cons_succ]; rfl) (hi : (rtab md ops = T ∧ waitsOk T.2 B = true ∧ S w) ∧ ops[i]? = some oi ∧ oi.dst = N ∧ Region.wanted oi (yielded ops a.tmps) = true := by exact ⟨⟨HT_.out, HW_.out, hHeld⟩, rfl, rfl, rfl⟩) (hc : takeW T B ds l.toList l'.toList i = true := by kernel_rfl)
  (hy : ∀ w', S w' → (execOp a.eval oi).run P w' = .ok (.value v) w' := by intro w' s; (repeat (obtain ⟨s0, s⟩ := s)); go_simp; with_reducible rfl)
  (ha : a.put N v = a' := by simp only [Act.put, List.setIfInBounds_toArray, List.set_cons_zero, List.set_cons_succ, i64_w, i32_w]; rfl) (hQ : ∀ c a w, Q (.panic c) (a.put oi.dst v) w → Q (.panic c) a w := by exact fun _ _ _ h => h) : wpAnyLast P md ops Q S ds (fuel + 1) l a w :=
 take_ l' hi.2.1 hi.2.2.1 (take_ofW hi.1.1 hi.1.2.1 hc) hQ (Or.inl ⟨hi.2.2.2, hy⟩) hi.1.2.2 ha h
theorem oA (i : Nat) (N : Option Tmp) {oi : Oper} {fuel : Nat} {l l' : Array Bool} {a : Act} {w : World}
  (h : ∀ K : Act → World → Prop, Shut (∀ a' w', S w' → (S w' → wpAnyLast P md ops Q S ds fuel l' a' w') → K a' w') → if Region.wanted oi (yielded ops a.tmps) = true then Oper.wp P oi a w K Q else K (a.put N undef) w) (HT : Aside0 (rtab md ops = T) := by exact HT_)
  (hl : l.setIfInBounds i true = l' := by simp only [List.setIfInBounds_toArray, List.set_cons_zero, List.set_cons_succ]; exact rfl) (hi : ops[i]? = some oi := by exact rfl) (hN : oi.dst = N := by exact rfl) (hc : (readyT T.2 l.toList == [i] && l.toList.set i true == l'.toList) = true := by kernel_rfl) (hd : i ∉ ds := by decide) :
  wpAnyLast P md ops Q S ds (fuel + 1) l a w := one_ l' hi hN (one_of HT.out hc) hd h
theorem dA {l : Array Bool} {a : Act} {w : World} {n : Nat} (h : Q .normal a w) (HT : Aside0 (rtab md ops = T) := by exact HT_) (hc : (readyT T.2 l.toList == []) = true := by kernel_rfl) : wpAnyLast P md ops Q S ds n l a w := done_ (done_of HT.out hc) h
theorem nA (N : Tmp) {v : Value} {fuel : Nat} {l : Array Bool} {a a' : Act} {w : World} (h : wpAnyLast P md ops Q S ds fuel l a' w) (ha : a.put (some N) v = a' := by simp only [Act.put, List.setIfInBounds_toArray, List.set_cons_zero, List.set_cons_succ, i64_w, i32_w]; exact rfl) : wpAnyLast P md ops Q S ds fuel l (a.put (some N) v) w := norm_ ha h
theorem gL {rest : List Oper} {oi : Oper} {a : Act} {w : World} (N : Option Tmp) {f : FuncId} {fn : Func} {as_ : Array Operand} {ts : Array TypeId} (hf : P.funcs[f]? = some fn) (args : Array Value)
  (h : Calls P f args w fun e w' => ∃ v, e = .returned v ∧ wpList P ops Q rest (a.put N v) w') (hd : oi.dst = N := by rfl) (hg : oi.guard = none := by rfl) (hname : (fn.name == "runtime.NumGoroutine") = false := by kernel_rfl) (hb : fn.body.isSome = true := by exact rfl)
  (hop : oi.op = .call { callee := .value (.func f), args := as_, argTypes := ts } := by rfl) (hargs : as_.map a.eval = args := by (try simp only [List.map_toArray, List.map_cons, List.map_nil]); first | done | rfl | (simp only [List.length_drop, List.length_take]; rfl)) :
  wpList P ops Q (oi :: rest) a w := goesL_ N hd hg hf hname hb args hop hargs h
theorem gR {oi : Oper} {N : Option Tmp} {a : Act} {w : World} {K : Act → World → Prop} {f : FuncId} {fn : Func} {as_ : Array Operand} {ts : Array TypeId} (hf : P.funcs[f]? = some fn) (args : Array Value)
  (h : Calls P f args w fun e w' => ∃ v, e = .returned v ∧ K (a.put N v) w') (hname : (fn.name == "runtime.NumGoroutine") = false := by kernel_rfl) (hb : fn.body.isSome = true := by exact rfl)
  (hw : Region.wanted oi (yielded ops a.tmps) = true := by exact rfl) (hN : oi.dst = N := by exact rfl) (hop : oi.op = .call { callee := .value (.func f), args := as_, argTypes := ts } := by rfl) (hargs : as_.map a.eval = args := by (try simp only [List.map_toArray, List.map_cons, List.map_nil]); first | done | rfl | (simp only [List.length_drop, List.length_take]; rfl)) :
  if Region.wanted oi (yielded ops a.tmps) = true then Oper.wp P oi a w K Q else K (a.put N undef) w := goes_ hf hname hb args hw hN hop hargs h
end
theorem bx {P : Program} {ops : Array Oper} {o : Oper} {rest : List Oper} {a : Act} {Q : Exit → Act → World → Prop} {W : World} (cs : Array Value) (t : TypeId)
  (h : ∀ g, g = W.heap.size → ∀ w1, w1.heap[g]? = some (.cells cs t (0, 0)) → Below W.heap.size W w1 → wpList P ops Q rest (a.put o.dst (.pointer (some ⟨g, 0, none⟩))) w1) {N : Tmp} (hd : o.dst = some N := by rfl) (hg : o.guard = none := by rfl)
  (hr : (execOp a.eval o).run P W = .ok (.value (.pointer (some ⟨W.heap.size, 0, none⟩))) (W.alloc (.cells cs t (0, 0))) := by first | (go_simp; done) | (go_simp; rfl)) : wpList P ops Q (o :: rest) a W := box_event hg hd hr h
theorem uV {p q : Prop} (h : Aside0 p) (e : p → q := by intro h_; (with_reducible repeat (first | apply Kd.V_alloc | apply Kd.V_drewN | apply Kd.V_drew)); exact h_) : q := e h.out
theorem uR {p q : Prop} (h : Aside0 p) (e : p → q := by intro h_; (with_reducible repeat (first | apply Kd.R_alloc | apply Kd.R_drewN | apply Kd.R_drew)); exact h_) : q := e h.out
theorem uN {p q : Prop} (h : Aside0 p) (e : p → q := by intro h_; (with_reducible repeat (first | apply Kd.N_alloc | apply Kd.N_drewN | apply Kd.N_drew)); exact h_) : q := e h.out
theorem uK {p q : Prop} (h : Aside0 p) (e : p → q := by intro h_; (with_reducible repeat (first | refine blk_drewN ?_ _ | refine blk_drew ?_ | refine blk_alloc ?_ _)); exact h_) : q := e h.out
theorem uB {p q : Prop} (h : Aside0 p) (e : p → q := by intro h_; repeat (first | (with_reducible first | exact h_ | apply below_alloc | apply pw_below_drewN | apply below_drew1 | refine below_set ?_ (Aside0.out (by assumption))) | exact h_)) : q := e h.out
theorem kb {w v w' : World} {g : Nat} {o : Obj} (h : Aside0 (w.heap[g]? = some o)) (hb : Below v.heap.size v w') (e : w.heap[g]? = some o → v.heap[g]? = some o := by intro h_; (with_reducible repeat (first | refine blk_drewN ?_ _ | refine blk_drew ?_ | refine blk_alloc ?_ _)); exact h_) : Aside0 (w'.heap[g]? = some o) := ⟨blk_below (e h.out) hb⟩
theorem bs {w u v w' : World} (h : Aside0 (Below w.heap.size w u)) (hb : Below v.heap.size v w') (e : Below w.heap.size w u → Below w.heap.size w v := by intro h_; repeat (first | (with_reducible first | exact h_ | apply below_alloc | apply pw_below_drewN | apply below_drew1 | refine below_set ?_ (Aside0.out (by assumption))) | exact h_)) : Aside0 (Below w.heap.size w w') := ⟨below_step (e h.out) hb⟩
theorem ge {w u v : World} {g : Nat} (h : Aside0 (Below w.heap.size w u)) (hg : g = v.heap.size) (e : Below w.heap.size w u → Below w.heap.size w v := by intro h_; repeat (first | (with_reducible first | exact h_ | apply below_alloc | apply pw_below_drewN | apply below_drew1 | refine below_set ?_ (Aside0.out (by assumption))) | exact h_)) : Aside0 (w.heap.size ≤ g) := ⟨by rw [hg]; exact below_size (e h.out)⟩
theorem rK {p q : Prop} (h : p) (e : p → q := by intro h_; (with_reducible repeat (first | refine blk_drewN ?_ _ | refine blk_drew ?_ | refine blk_alloc ?_ _)); exact h_) : q := e h
theorem rR {p q : Prop} (h : p) (e : p → q := by intro h_; (with_reducible repeat (first | apply Kd.R_alloc | apply Kd.R_drewN | apply Kd.R_drew)); exact h_) : q := e h
theorem rV {p q : Prop} (h : p) (e : p → q := by intro h_; (with_reducible repeat (first | apply Kd.V_alloc | apply Kd.V_drewN | apply Kd.V_drew)); exact h_) : q := e h
theorem rN {p q : Prop} (h : p) (e : p → q := by intro h_; (with_reducible repeat (first | apply Kd.N_alloc | apply Kd.N_drewN | apply Kd.N_drew)); exact h_) : q := e h
theorem blk_putR {w : World} {g : Nat} {t : TypeId} {cs cs' : Array Value} {i : Nat} {u : Value} (h : w.heap[g]? = some (.cells cs t (0, 0))) (e : cs.setIfInBounds i u = cs') : (w.setCell ⟨g, i, none⟩ u).heap[g]? = some (.cells cs' t (0, 0)) := blk_put h i u e
theorem blk_farO {w : World} {g : Nat} {o : Obj} (h : w.heap[g]? = some o) {p : Addr} (hp : g ≠ p.block) (u : Value) : (w.setCell p u).heap[g]? = some o := (Below.heap_setCell w p u g hp).trans h
theorem kc {w v w' : World} {g : Nat} {o o' : Obj} (h : Aside0 (w.heap[g]? = some o)) (hb : Below v.heap.size v w') (e : w.heap[g]? = some o → v.heap[g]? = some o' := by
  intro h_
  repeat (first | (with_reducible exact h_) | (with_reducible refine blk_drewN ?_ _) | (with_reducible refine blk_drew ?_) | (with_reducible refine blk_alloc ?_ _) | (with_reducible apply blk_putR) | (with_reducible apply blk_farO) | exact h_)
  all_goals first | (simp only [List.setIfInBounds_toArray, List.set_cons_zero, List.set_cons_succ]; rfl) | exact Aside0.out (by assumption) | rfl) : Aside0 (w'.heap[g]? = some o') := ⟨blk_below (e h.out) hb⟩
theorem farR {α : Type} {d : Kd α} {e : Nat} {w : World} {base : Nat} {ok : Nat → Prop} {v : Value} {xs : List α} {g i : Nat} {u : Value} (h : Kd.R d e w base (fun k => ok k ∧ k ≠ g) v xs) : Kd.R d e (w.setCell ⟨g, i, none⟩ u) base (fun k => ok k ∧ k ≠ g) v xs := Kd.R_far h (fun _ hk => hk.2) u
theorem fR {α : Type} {d : Kd α} {e : Nat} {w w2 : World} {base : Nat} {ok : Nat → Prop} {v : Value} {xs : List α} {g t : Nat} {cells : Array Value} (h : Aside0 (Kd.R d e w base ok v xs)) (b : Aside0 (w.heap[g]? = some (.cells cells t (0, 0)))) (hd : ∀ q, q ∈ e :: d.E → q ≠ t := by decide)
  (s : Kd.R d e w base (fun k => ok k ∧ k ≠ g) v xs → Kd.R d e w2 base (fun k => ok k ∧ k ≠ g) v xs := by intro t_; repeat (first | (with_reducible exact t_) | (with_reducible refine farR ?_) | (with_reducible apply Kd.R_alloc) | (with_reducible apply Kd.R_drewN) | (with_reducible apply Kd.R_drew) | exact t_)) : Kd.R d e w2 base ok v xs :=
 Kd.R_mono (s (Kd.R_types h.out b.out hd)) (fun _ hk => hk.1)
theorem mR {p q : Prop} (h : Aside0 p) (e : p → q := by
  intro h_; (with_reducible repeat (first | apply Kd.R_alloc | apply Kd.R_drewN | apply Kd.R_drew))
  first | exact Kd.R_mono h_ (fun _ hk => by first | exact hk.2 | exact trivial) | exact Kd.R_mono h_ (fun _ hk => by first | exact ⟨hk.1.2, hk.2⟩ | exact ⟨hk.2, hk.1.2⟩ | exact hk.1.2) | exact Kd.R_mono h_ (fun _ hk => by first | exact hk.1 | (simp [hk]; done) | simp_all)) : q := e h.out
theorem nL {w v : World} {g g' : Nat} {o : Obj} (h : Aside0 (w.heap[g]? = some o)) (hg : g' = v.heap.size) (e : w.heap[g]? = some o → v.heap[g]? = some o := by intro h_; (with_reducible repeat (first | refine blk_drewN ?_ _ | refine blk_drew ?_ | refine blk_alloc ?_ _)); exact h_) : Aside0 (g ≠ g') := ⟨by rw [hg]; exact Nat.ne_of_lt (blk_lt (e h.out))⟩
theorem nG {w v : World} {g g' : Nat} {o : Obj} (h : Aside0 (w.heap[g]? = some o)) (hg : g' = v.heap.size) (e : w.heap[g]? = some o → v.heap[g]? = some o := by intro h_; (with_reducible repeat (first | refine blk_drewN ?_ _ | refine blk_drew ?_ | refine blk_alloc ?_ _)); exact h_) : Aside0 (g' ≠ g) := ⟨by rw [hg]; exact Nat.ne_of_gt (blk_lt (e h.out))⟩
theorem cE {w : World} {g t : Nat} {cs : Array Value} (h : Aside0 (w.heap[g]? = some (.cells cs t (0, 0)))) (i : Nat) {v : Value} (e : cs[i]? = some v := by rfl) : w.cell? ⟨g, i, none⟩ = some v := (blk_cell h.out i).trans e
theorem rC {p q : Prop} (h : p) (e : p → q := by intro h_; (repeat (first | exact h_ | (with_reducible refine Kd.C_alloc ?_ _) | (with_reducible refine Kd.C_drewN ?_ _) | (with_reducible refine Kd.C_drew ?_)))) : q := e h
theorem gE {p : Prop} (h : p := by first | rfl | (simp [errW_none, errW_some] <;> rfl) | (simp [*, errW_none, errW_some] <;> rfl)) : p := h
theorem gO {p : Prop} (h : p := by first | exact Kd.R_nil _ _ _ _ _ | exact Kd.N_nil _ _ _ _ _ | exact Kd.V_nil _ _ _ _ _ | exact Kd.Q_nil _ _ _ _ _ | exact Kd.S_nil _ _ _ _ _) : p := h
theorem gA {p : Prop} (h : p := by first | (with_reducible assumption) | assumption) : p := h
theorem bc {w v : World} {a : Addr} {x : Value} (h : Aside0 (Below w.heap.size w v)) (hx : w.cell? a = some x) : v.cell? a = some x := (h.out.cell (World.block_lt_of_cell? w _ hx)).trans hx
theorem gv {p : Prop} (h : p := by first | rfl | (simp; done) | (simp [*]; done)) : p := h
theorem fA1 {w : World} {g t : Nat} {cs : Array Value} (h : Aside0 (w.heap[g]? = some (.cells cs t (0, 0)))) : w.frozen? ⟨g, 0, none⟩ = false := blk_frozen h.out 0
theorem cA2 {w : World} {g t : Nat} {v0 v1 : Value} (h : Aside0 (w.heap[g]? = some (.cells #[v0, v1] t (0, 0)))) : w.cell? ⟨g, 0, none⟩ = some v0 ∧ w.cell? ⟨g, 1, none⟩ = some v1 := ⟨(blk_cell h.out 0).trans rfl, (blk_cell h.out 1).trans rfl⟩
theorem fA2 {w : World} {g t : Nat} {cs : Array Value} (h : Aside0 (w.heap[g]? = some (.cells cs t (0, 0)))) : w.frozen? ⟨g, 0, none⟩ = false ∧ w.frozen? ⟨g, 1, none⟩ = false := ⟨blk_frozen h.out 0, blk_frozen h.out 1⟩
theorem cA3 {w : World} {g t : Nat} {v0 v1 v2 : Value} (h : Aside0 (w.heap[g]? = some (.cells #[v0, v1, v2] t (0, 0)))) : w.cell? ⟨g, 0, none⟩ = some v0 ∧ w.cell? ⟨g, 1, none⟩ = some v1 ∧ w.cell? ⟨g, 2, none⟩ = some v2 := ⟨(blk_cell h.out 0).trans rfl, (blk_cell h.out 1).trans rfl, (blk_cell h.out 2).trans rfl⟩
theorem fA3 {w : World} {g t : Nat} {cs : Array Value} (h : Aside0 (w.heap[g]? = some (.cells cs t (0, 0)))) : w.frozen? ⟨g, 0, none⟩ = false ∧ w.frozen? ⟨g, 1, none⟩ = false ∧ w.frozen? ⟨g, 2, none⟩ = false := ⟨blk_frozen h.out 0, blk_frozen h.out 1, blk_frozen h.out 2⟩
theorem cA4 {w : World} {g t : Nat} {v0 v1 v2 v3 : Value} (h : Aside0 (w.heap[g]? = some (.cells #[v0, v1, v2, v3] t (0, 0)))) : w.cell? ⟨g, 0, none⟩ = some v0 ∧ w.cell? ⟨g, 1, none⟩ = some v1 ∧ w.cell? ⟨g, 2, none⟩ = some v2 ∧ w.cell? ⟨g, 3, none⟩ = some v3 := ⟨(blk_cell h.out 0).trans rfl, (blk_cell h.out 1).trans rfl, (blk_cell h.out 2).trans rfl, (blk_cell h.out 3).trans rfl⟩
theorem fA4 {w : World} {g t : Nat} {cs : Array Value} (h : Aside0 (w.heap[g]? = some (.cells cs t (0, 0)))) : w.frozen? ⟨g, 0, none⟩ = false ∧ w.frozen? ⟨g, 1, none⟩ = false ∧ w.frozen? ⟨g, 2, none⟩ = false ∧ w.frozen? ⟨g, 3, none⟩ = false := ⟨blk_frozen h.out 0, blk_frozen h.out 1, blk_frozen h.out 2, blk_frozen h.out 3⟩
theorem cA5 {w : World} {g t : Nat} {v0 v1 v2 v3 v4 : Value} (h : Aside0 (w.heap[g]? = some (.cells #[v0, v1, v2, v3, v4] t (0, 0)))) : w.cell? ⟨g, 0, none⟩ = some v0 ∧ w.cell? ⟨g, 1, none⟩ = some v1 ∧ w.cell? ⟨g, 2, none⟩ = some v2 ∧ w.cell? ⟨g, 3, none⟩ = some v3 ∧ w.cell? ⟨g, 4, none⟩ = some v4 := ⟨(blk_cell h.out 0).trans rfl, (blk_cell h.out 1).trans rfl, (blk_cell h.out 2).trans rfl, (blk_cell h.out 3).trans rfl, (blk_cell h.out 4).trans rfl⟩
theorem fA5 {w : World} {g t : Nat} {cs : Array Value} (h : Aside0 (w.heap[g]? = some (.cells cs t (0, 0)))) : w.frozen? ⟨g, 0, none⟩ = false ∧ w.frozen? ⟨g, 1, none⟩ = false ∧ w.frozen? ⟨g, 2, none⟩ = false ∧ w.frozen? ⟨g, 3, none⟩ = false ∧ w.frozen? ⟨g, 4, none⟩ = false := ⟨blk_frozen h.out 0, blk_frozen h.out 1, blk_frozen h.out 2, blk_frozen h.out 3, blk_frozen h.out 4⟩
theorem cA6 {w : World} {g t : Nat} {v0 v1 v2 v3 v4 v5 : Value} (h : Aside0 (w.heap[g]? = some (.cells #[v0, v1, v2, v3, v4, v5] t (0, 0)))) : w.cell? ⟨g, 0, none⟩ = some v0 ∧ w.cell? ⟨g, 1, none⟩ = some v1 ∧ w.cell? ⟨g, 2, none⟩ = some v2 ∧ w.cell? ⟨g, 3, none⟩ = some v3 ∧ w.cell? ⟨g, 4, none⟩ = some v4 ∧ w.cell? ⟨g, 5, none⟩ = some v5 := ⟨(blk_cell h.out 0).trans rfl, (blk_cell h.out 1).trans rfl, (blk_cell h.out 2).trans rfl, (blk_cell h.out 3).trans rfl, (blk_cell h.out 4).trans rfl, (blk_cell h.out 5).trans rfl⟩
theorem fA6 {w : World} {g t : Nat} {cs : Array Value} (h : Aside0 (w.heap[g]? = some (.cells cs t (0, 0)))) : w.frozen? ⟨g, 0, none⟩ = false ∧ w.frozen? ⟨g, 1, none⟩ = false ∧ w.frozen? ⟨g, 2, none⟩ = false ∧ w.frozen? ⟨g, 3, none⟩ = false ∧ w.frozen? ⟨g, 4, none⟩ = false ∧ w.frozen? ⟨g, 5, none⟩ = false := ⟨blk_frozen h.out 0, blk_frozen h.out 1, blk_frozen h.out 2, blk_frozen h.out 3, blk_frozen h.out 4, blk_frozen h.out 5⟩
theorem cA11 {w : World} {g t : Nat} {v0 v1 v2 v3 v4 v5 v6 v7 v8 v9 v10 : Value} (h : Aside0 (w.heap[g]? = some (.cells #[v0, v1, v2, v3, v4, v5, v6, v7, v8, v9, v10] t (0, 0)))) : w.cell? ⟨g, 0, none⟩ = some v0 ∧ w.cell? ⟨g, 1, none⟩ = some v1 ∧ w.cell? ⟨g, 2, none⟩ = some v2 ∧ w.cell? ⟨g, 3, none⟩ = some v3 ∧ w.cell? ⟨g, 4, none⟩ = some v4 ∧ w.cell? ⟨g, 5, none⟩ = some v5 ∧ w.cell? ⟨g, 6, none⟩ = some v6 ∧ w.cell? ⟨g, 7, none⟩ = some v7 ∧ w.cell? ⟨g, 8, none⟩ = some v8 ∧ w.cell? ⟨g, 9, none⟩ = some v9 ∧ w.cell? ⟨g, 10, none⟩ = some v10 := ⟨(blk_cell h.out 0).trans rfl, (blk_cell h.out 1).trans rfl, (blk_cell h.out 2).trans rfl, (blk_cell h.out 3).trans rfl, (blk_cell h.out 4).trans rfl, (blk_cell h.out 5).trans rfl, (blk_cell h.out 6).trans rfl, (blk_cell h.out 7).trans rfl, (blk_cell h.out 8).trans rfl, (blk_cell h.out 9).trans rfl, (blk_cell h.out 10).trans rfl⟩
theorem fA11 {w : World} {g t : Nat} {cs : Array Value} (h : Aside0 (w.heap[g]? = some (.cells cs t (0, 0)))) : w.frozen? ⟨g, 0, none⟩ = false ∧ w.frozen? ⟨g, 1, none⟩ = false ∧ w.frozen? ⟨g, 2, none⟩ = false ∧ w.frozen? ⟨g, 3, none⟩ = false ∧ w.frozen? ⟨g, 4, none⟩ = false ∧ w.frozen? ⟨g, 5, none⟩ = false ∧ w.frozen? ⟨g, 6, none⟩ = false ∧ w.frozen? ⟨g, 7, none⟩ = false ∧ w.frozen? ⟨g, 8, none⟩ = false ∧ w.frozen? ⟨g, 9, none⟩ = false ∧ w.frozen? ⟨g, 10, none⟩ = false := ⟨blk_frozen h.out 0, blk_frozen h.out 1, blk_frozen h.out 2, blk_frozen h.out 3, blk_frozen h.out 4, blk_frozen h.out 5, blk_frozen h.out 6, blk_frozen h.out 7, blk_frozen h.out 8, blk_frozen h.out 9, blk_frozen h.out 10⟩
theorem cA12 {w : World} {g t : Nat} {v0 v1 v2 v3 v4 v5 v6 v7 v8 v9 v10 v11 : Value} (h : Aside0 (w.heap[g]? = some (.cells #[v0, v1, v2, v3, v4, v5, v6, v7, v8, v9, v10, v11] t (0, 0)))) : w.cell? ⟨g, 0, none⟩ = some v0 ∧ w.cell? ⟨g, 1, none⟩ = some v1 ∧ w.cell? ⟨g, 2, none⟩ = some v2 ∧ w.cell? ⟨g, 3, none⟩ = some v3 ∧ w.cell? ⟨g, 4, none⟩ = some v4 ∧ w.cell? ⟨g, 5, none⟩ = some v5 ∧ w.cell? ⟨g, 6, none⟩ = some v6 ∧ w.cell? ⟨g, 7, none⟩ = some v7 ∧ w.cell? ⟨g, 8, none⟩ = some v8 ∧ w.cell? ⟨g, 9, none⟩ = some v9 ∧ w.cell? ⟨g, 10, none⟩ = some v10 ∧ w.cell? ⟨g, 11, none⟩ = some v11 := ⟨(blk_cell h.out 0).trans rfl, (blk_cell h.out 1).trans rfl, (blk_cell h.out 2).trans rfl, (blk_cell h.out 3).trans rfl, (blk_cell h.out 4).trans rfl, (blk_cell h.out 5).trans rfl, (blk_cell h.out 6).trans rfl, (blk_cell h.out 7).trans rfl, (blk_cell h.out 8).trans rfl, (blk_cell h.out 9).trans rfl, (blk_cell h.out 10).trans rfl, (blk_cell h.out 11).trans rfl⟩
theorem fA12 {w : World} {g t : Nat} {cs : Array Value} (h : Aside0 (w.heap[g]? = some (.cells cs t (0, 0)))) : w.frozen? ⟨g, 0, none⟩ = false ∧ w.frozen? ⟨g, 1, none⟩ = false ∧ w.frozen? ⟨g, 2, none⟩ = false ∧ w.frozen? ⟨g, 3, none⟩ = false ∧ w.frozen? ⟨g, 4, none⟩ = false ∧ w.frozen? ⟨g, 5, none⟩ = false ∧ w.frozen? ⟨g, 6, none⟩ = false ∧ w.frozen? ⟨g, 7, none⟩ = false ∧ w.frozen? ⟨g, 8, none⟩ = false ∧ w.frozen? ⟨g, 9, none⟩ = false ∧ w.frozen? ⟨g, 10, none⟩ = false ∧ w.frozen? ⟨g, 11, none⟩ = false := ⟨blk_frozen h.out 0, blk_frozen h.out 1, blk_frozen h.out 2, blk_frozen h.out 3, blk_frozen h.out 4, blk_frozen h.out 5, blk_frozen h.out 6, blk_frozen h.out 7, blk_frozen h.out 8, blk_frozen h.out 9, blk_frozen h.out 10, blk_frozen h.out 11⟩
end Go.Proofs.Ytpgmmnlkiogamaa.P
namespace Go.Proofs.Ytpgmmnlkiogamaa.P
open Go.RowKit YtpgmmnlkiogamaaW.PrintWords YtpgmmnlkiogamaaW.PrintLast YtpgmmnlkiogamaaW.PrintMore
attribute [local go_sem] max2_int min2_int max_two min_two max_three min_three max_four min_four
mutual
def thalwegref09_Few.l0 : Nat → Int → Int → Int → Int → Int → List (S50) → Option (Bool)
 | 0, _, _, _, _, _, _ => none
 | k + 1, x3, x102000, x102001, x102002, x102003, x102004 => if x3 < (x102004.length : Int) then (thalwegref09_Few.j1 k x3 (decide ((x102004.length : Int) ≤ 12)) x102000 x102001 x102002 x102003 x102004) else (thalwegref09_Few.j1 k x3 false x102000 x102001 x102002 x102003 x102004)
def thalwegref09_Few.j1 : Nat → Int → Bool → Int → Int → Int → Int → List (S50) → Option (Bool)
 | 0, _, _, _, _, _, _, _ => none
 | k + 1, x3, x15, x102000, x102001, x102002, x102003, x102004 => if x15 = true then (if 0 ≤ x3 then (if x3 < (x102004.length : Int) then (if (((rd_T50 x102004 x3).f1.f1).length : Int) > 80 then (some false) else (if (((rd_T50 x102004 x3).f2.f1).length : Int) > 60 then (some false) else (if (((rd_T50 x102004 x3).f3).length : Int) > 80 then (some false) else (if (((rd_T50 x102004 x3).f4.f4).size : Int) > 600 then (some false) else (thalwegref09_Few.l0 k (wrap64 (x3 + 1)) x102000 x102001 x102002 x102003 x102004))))) else (none)) else (none)) else (some (decide ((x102004.length : Int) ≤ 12)))
end
def thalwegref09_Few.f (k : Nat) (a0_0 : Int) (a0_1 : Int) (a0_2 : Int) (a0_3 : Int) (l0_4 : List (S50)) : Option (Bool) := thalwegref09_Few.l0 k 0 a0_0 a0_1 a0_2 a0_3 l0_4
theorem thalwegref09_Few.mono_l : ∀ k, (∀ y0 y1 y2 y3 y4 y5, LeO (thalwegref09_Few.l0 k y0 y1 y2 y3 y4 y5) (thalwegref09_Few.l0 (k + 1) y0 y1 y2 y3 y4 y5)) ∧ (∀ y0 y1 y2 y3 y4 y5 y6, LeO (thalwegref09_Few.j1 k y0 y1 y2 y3 y4 y5 y6) (thalwegref09_Few.j1 (k + 1) y0 y1 y2 y3 y4 y5 y6))
 | 0 => ⟨fun _ _ _ _ _ _ r h => by simp [thalwegref09_Few.l0] at h, fun _ _ _ _ _ _ _ r h => by simp [thalwegref09_Few.j1] at h⟩
 | k + 1 => by
  obtain ⟨ih0, ih1⟩ := thalwegref09_Few.mono_l k
  refine ⟨?_, ?_⟩
  ·intro y0 y1 y2 y3 y4 y5
   unfold thalwegref09_Few.l0
   repeat' first
   | (with_reducible exact ih0 _ _ _ _ _ _)
   | (with_reducible exact ih1 _ _ _ _ _ _ _)
   | (with_reducible exact LeO.refl _)
   | (with_reducible exact LeO.none _)
   | (with_reducible refine LeO.ite ?_ ?_)
   | (with_reducible refine LeO.bind ?_ (fun _ => ?_))
   | exact ih0 _ _ _ _ _ _
   | exact ih1 _ _ _ _ _ _ _
   | exact LeO.none _
   | refine LeO.ite ?_ ?_
   | refine LeO.bind ?_ (fun _ => ?_)
  intro y0 y1 y2 y3 y4 y5 y6
  unfold thalwegref09_Few.j1
  repeat' first
  | (with_reducible exact ih0 _ _ _ _ _ _)
  | (with_reducible exact ih1 _ _ _ _ _ _ _)
  | (with_reducible exact LeO.refl _)
  | (with_reducible exact LeO.none _)
  | (with_reducible refine LeO.ite ?_ ?_)
  | (with_reducible refine LeO.bind ?_ (fun _ => ?_))
  | exact ih0 _ _ _ _ _ _
  | exact ih1 _ _ _ _ _ _ _
  | exact LeO.none _
  | refine LeO.ite ?_ ?_
  | refine LeO.bind ?_ (fun _ => ?_)
theorem thalwegref09_Few.mono : ∀ a0 a1 a2 a3 a4 k, LeO (thalwegref09_Few.f k a0 a1 a2 a3 a4) (thalwegref09_Few.f (k + 1) a0 a1 a2 a3 a4) := by
 intro a0 a1 a2 a3 a4 k
 obtain ⟨ih0, ih1⟩ := thalwegref09_Few.mono_l k
 unfold thalwegref09_Few.f
 repeat' first
   | (with_reducible exact ih0 _ _ _ _ _ _)
   | (with_reducible exact ih1 _ _ _ _ _ _ _)
   | (with_reducible exact LeO.refl _)
   | (with_reducible exact LeO.none _)
   | (with_reducible refine LeO.ite ?_ ?_)
   | (with_reducible refine LeO.bind ?_ (fun _ => ?_))
   | exact ih0 _ _ _ _ _ _
   | exact ih1 _ _ _ _ _ _ _
   | exact LeO.none _
   | refine LeO.ite ?_ ?_
   | refine LeO.bind ?_ (fun _ => ?_)
theorem thalwegref09_Few.calls (k : Nat) (a0_0 : Int) (a0_1 : Int) (a0_2 : Int) (a0_3 : Int) (A0_4 : Option Addr) (c0_4 : Nat) (l0_4 : List (S50)) (r : Bool) (w : World) (hr0_4 : Kd.C k50 w A0_4 l0_4.length l0_4) (hc0_4 : l0_4.length ≤ c0_4) (h : thalwegref09_Few.f k a0_0 a0_1 a0_2 a0_3 l0_4 = some r) :
  Calls Try.prog 8 #[.agg #[.int .i64 a0_0, .int .i64 a0_1, .int .i64 a0_2, .int .i64 a0_3, .slice A0_4 l0_4.length c0_4]] w fun e w' => e = .returned (.bool r) ∧ Below w.heap.size w w' := by
 have hu24 := Try.underlying24; have hu50 := Try.underlying50; have HR0_4 := Aside0.mk hr0_4; have HC0_4 := Aside0.mk hc0_4; clear hr0_4 hc0_4; have HB := Aside0.mk (Below.refl w.heap.size w)
 have H : (thalwegref09_Few.l0 k 0 a0_0 a0_1 a0_2 a0_3 l0_4) = some r := h
 clear h
 have H' := Aside0.mk H
 clear H
 go_enter Try.func8, Try.ntmps8
 go_wp2_with (first | ((with_reducible refine gate_dst (N := 1) rfl ?_); (try (refine gate_guard (by rfl) ?_; dsimp only)); refine bx #[.int .i64 a0_0, .int .i64 a0_1, .int .i64 a0_2, .int .i64 a0_3, .slice A0_4 l0_4.length c0_4] 24 ?_; intro gb101 hg w2 hbox hb; have BK101 := Aside0.mk hbox; have GW101 := ge HB hg; have GE101 := ge HB hg; replace HB := bs HB hb; clear hb hbox hg))
 go_loopg [3] k (fun kq v3 w' => ∃ (x3_1 : Int), v3 = .int .i64 x3_1 ∧ Aside0 (thalwegref09_Few.l0 kq x3_1 a0_0 a0_1 a0_2 a0_3 l0_4 = some r) ∧ Aside0 (kq ≤ k) ∧ Aside0 (w'.heap[gb101]? = some (.cells #[.int .i64 a0_0, .int .i64 a0_1, .int .i64 a0_2, .int .i64 a0_3, (.slice A0_4 l0_4.length c0_4)] 24 (0, 0))) ∧ Aside0 (Below w.heap.size w w'))
 case atStart => exact ⟨(0), gv, H', ⟨Nat.le_refl _⟩, ⟨uK BK101⟩, ⟨uB HB⟩⟩
 case round =>
  clear H'; (try clear p2); obtain ⟨x3_1, rfl, HA, HK1, BK101, HB⟩ := hrel
  cases gk with
  | zero => exact absurd HA.out (by simp [thalwegref09_Few.l0])
  | succ k1 =>
   have H := HA.out
   clear HA
   simp only [thalwegref09_Few.l0] at H
   have HC3 := Aside0.mk H; clear H
   go_upto_region 2 with (fail)
   go_cut [15] (fun v15 wc => ∃ (kq : Nat) (x15_2 : Bool), v15 = .bool x15_2 ∧ Aside0 (thalwegref09_Few.j1 kq x3_1 x15_2 a0_0 a0_1 a0_2 a0_3 l0_4 = some r) ∧ Aside0 (kq ≤ k1) ∧ Aside0 (wc.heap[gb101]? = some (.cells #[.int .i64 a0_0, .int .i64 a0_1, .int .i64 a0_2, .int .i64 a0_3, (.slice A0_4 l0_4.length c0_4)] 24 (0, 0))) ∧ Aside0 (Below w.heap.size w wc))
   case first =>
    have H := HC3.out
    clear HC3
    by_cases c4 : x3_1 < (l0_4.length : Int)
    ·rw [if_pos c4] at H
     have c4b0 := decide_eq_true c4; clear c4
     (first | rw [c4b0] | (simp only [i64_w, i32_w]; rw [c4b0]) | rw [c4b1] | skip)
     have H' := Aside0.mk H
     clear H; obtain ⟨q5_0, q5_1, q5_2, q5_3, q5_4⟩ := cA5 BK101; obtain ⟨f5_0, f5_1, f5_2, f5_3, f5_4⟩ := fA5 BK101
     go_wp2
     go_meet
     case rel => exact ⟨_, (decide ((l0_4.length : Int) ≤ 12)), gv, H', ⟨by have := HK1.out; first | omega | exact Nat.le_refl _⟩, ⟨uK BK101⟩, ⟨uB HB⟩⟩
    rw [if_neg c4] at H
    have c4b0 : decide (x3_1 < (l0_4.length : Int)) = false := decide_eq_false c4
    clear c4
    (first | rw [c4b0] | (simp only [i64_w, i32_w]; rw [c4b0]) | rw [c4b1] | skip)
    have H' := Aside0.mk H
    clear H; obtain ⟨q6_0, q6_1, q6_2, q6_3, q6_4⟩ := cA5 BK101; obtain ⟨f6_0, f6_1, f6_2, f6_3, f6_4⟩ := fA5 BK101
    go_wp2
    go_meet
    case rel => exact ⟨_, (false), gv, H', ⟨by have := HK1.out; first | omega | exact Nat.le_refl _⟩, ⟨uK BK101⟩, ⟨uB HB⟩⟩
   case rest =>
    clear HC3; (try clear p2); (try clear c4); (try clear c4b0); (try clear q5_0); (try clear q5_1); (try clear q5_2); (try clear q5_3); (try clear q5_4); (try clear q6_0); (try clear q6_1); (try clear q6_2); (try clear q6_3); (try clear q6_4); (try clear f5_0); (try clear f5_1); (try clear f5_2); (try clear f5_3); (try clear f5_4); (try clear f6_0); (try clear f6_1); (try clear f6_2); (try clear f6_3); (try clear f6_4); (try clear p2); obtain ⟨kq, x15_2, rfl, HA, HJ2, BK101, HB⟩ := hcut
    cases kq with
    | zero => exact absurd HA.out (by simp [thalwegref09_Few.j1])
    | succ kj2 =>
     have H := HA.out
     clear HA
     simp only [thalwegref09_Few.j1] at H
     by_cases c7 : x15_2 = true
     ·subst c7
      rw [if_pos rfl] at H
      by_cases c8 : 0 ≤ x3_1
      rotate_left
      ·rw [if_neg c8] at H
       exact absurd H (by simp)
      rw [if_pos c8] at H; have c8b0 : decide (0 ≤ x3_1) = true := decide_eq_true c8; clear c8
      by_cases c9 : x3_1 < (l0_4.length : Int)
      rotate_left
      ·rw [if_neg c9] at H
       exact absurd H (by simp)
      rw [if_pos c9] at H; have c9b0 := decide_eq_true c9; clear c9
      by_cases c10 : (((rd_T50 l0_4 x3_1).f1.f1).length : Int) > 80
      ·rw [if_pos c10] at H
       have c10b0 : decide (80 < (((rd_T50 l0_4 x3_1).f1.f1).length : Int)) = true := decide_eq_true c10
       have c10b1 : decide (80 < ((rd_T50 l0_4 x3_1).f1.f1).length) = true := decide_eq_true (by omega)
       clear c10
       obtain rfl := Option.some.inj H
       obtain ⟨q11_0, q11_1, q11_2, q11_3, q11_4⟩ := cA5 BK101; obtain ⟨f11_0, f11_1, f11_2, f11_3, f11_4⟩ := fA5 BK101
       have p102 : 0 ≤ (x3_1 : Int) := of_decide_eq_true gA
       have q102 : x3_1 < (l0_4.length : Int) := of_decide_eq_true gA
       obtain ⟨ad102, A102_2, c102_2, A102_4, c102_4, A102_5, c102_5, e102, hx102_0, hx102_1, hx102_2, hx102_3, hx102_4, hx102_5, hx102_6, hx102_7, hx102_8, hx102_9, hx102_10, hl102_2, hi102_2, hl102_4, hi102_4, hl102_5, hi102_5⟩ := at_T50 HR0_4.out x3_1 p102 q102
       cases e102
       replace hx102_0 := bc HB hx102_0; replace hx102_1 := bc HB hx102_1; replace hx102_2 := bc HB hx102_2; replace hx102_3 := bc HB hx102_3; replace hx102_4 := bc HB hx102_4; replace hx102_5 := bc HB hx102_5; replace hx102_6 := bc HB hx102_6; replace hx102_7 := bc HB hx102_7; replace hx102_8 := bc HB hx102_8; replace hx102_9 := bc HB hx102_9; replace hx102_10 := bc HB hx102_10; have HR102_2 := Aside0.mk hi102_2; have HC102_2 := Aside0.mk hl102_2; clear hi102_2 hl102_2; have HR102_4 := Aside0.mk hi102_4; have HC102_4 := Aside0.mk hl102_4; clear hi102_4 hl102_4; have HR102_5 := Aside0.mk hi102_5; have HC102_5 := Aside0.mk hl102_5; clear hi102_5 hl102_5; replace p102 := eq_true p102; replace q102 := eq_true q102
       go_wp2_with (first | ((with_reducible refine gate_dst (N := 4) rfl ?_); (try (refine gate_guard (by rfl) ?_; dsimp only)); refine bx #[.int .i64 0, .int .i64 0, .slice none 0 0, .int .i64 0, .slice none 0 0, .slice none 0 0, .int .i64 0, .int .i64 0, .int .i64 0, .int .i64 0, .string (⟨#[]⟩ : ByteArray)] 50 ?_; intro gb103 hg w12 hbox hb; have BK103 := Aside0.mk hbox; have GW103 := ge HB hg; have GE103 := ge HB hg; replace HB := bs HB hb; have NB101_103 := nL BK101 hg; have NB103_101 := nG BK101 hg; replace BK101 := kb BK101 hb; clear hb hbox hg; have hnb13 := NB103_101.out; have hnc13 := NB101_103.out; obtain ⟨q14_0, q14_1, q14_2, q14_3, q14_4, q14_5, q14_6, q14_7, q14_8, q14_9, q14_10⟩ := cA11 BK103; obtain ⟨f14_0, f14_1, f14_2, f14_3, f14_4, f14_5, f14_6, f14_7, f14_8, f14_9, f14_10⟩ := fA11 BK103))
       go_ret
       exact ⟨gE, uB HB⟩
      rw [if_neg c10] at H
      have c10b0 : decide (80 < (((rd_T50 l0_4 x3_1).f1.f1).length : Int)) = false := decide_eq_false c10
      have c10b1 : decide (80 < ((rd_T50 l0_4 x3_1).f1.f1).length) = false := decide_eq_false (by omega)
      clear c10
      by_cases c15 : (((rd_T50 l0_4 x3_1).f2.f1).length : Int) > 60
      ·rw [if_pos c15] at H
       have c15b0 : decide (60 < (((rd_T50 l0_4 x3_1).f2.f1).length : Int)) = true := decide_eq_true c15
       have c15b1 : decide (60 < ((rd_T50 l0_4 x3_1).f2.f1).length) = true := decide_eq_true (by omega)
       clear c15
       obtain rfl := Option.some.inj H
       obtain ⟨q16_0, q16_1, q16_2, q16_3, q16_4⟩ := cA5 BK101; obtain ⟨f16_0, f16_1, f16_2, f16_3, f16_4⟩ := fA5 BK101
       have p102 : 0 ≤ (x3_1 : Int) := of_decide_eq_true gA
       have q102 : x3_1 < (l0_4.length : Int) := of_decide_eq_true gA
       obtain ⟨ad102, A102_2, c102_2, A102_4, c102_4, A102_5, c102_5, e102, hx102_0, hx102_1, hx102_2, hx102_3, hx102_4, hx102_5, hx102_6, hx102_7, hx102_8, hx102_9, hx102_10, hl102_2, hi102_2, hl102_4, hi102_4, hl102_5, hi102_5⟩ := at_T50 HR0_4.out x3_1 p102 q102
       cases e102
       replace hx102_0 := bc HB hx102_0; replace hx102_1 := bc HB hx102_1; replace hx102_2 := bc HB hx102_2; replace hx102_3 := bc HB hx102_3; replace hx102_4 := bc HB hx102_4; replace hx102_5 := bc HB hx102_5; replace hx102_6 := bc HB hx102_6; replace hx102_7 := bc HB hx102_7; replace hx102_8 := bc HB hx102_8; replace hx102_9 := bc HB hx102_9; replace hx102_10 := bc HB hx102_10; have HR102_2 := Aside0.mk hi102_2; have HC102_2 := Aside0.mk hl102_2; clear hi102_2 hl102_2; have HR102_4 := Aside0.mk hi102_4; have HC102_4 := Aside0.mk hl102_4; clear hi102_4 hl102_4; have HR102_5 := Aside0.mk hi102_5; have HC102_5 := Aside0.mk hl102_5; clear hi102_5 hl102_5; replace p102 := eq_true p102; replace q102 := eq_true q102
       go_wp2_with (first | ((with_reducible refine gate_dst (N := 4) rfl ?_); (try (refine gate_guard (by rfl) ?_; dsimp only)); refine bx #[.int .i64 0, .int .i64 0, .slice none 0 0, .int .i64 0, .slice none 0 0, .slice none 0 0, .int .i64 0, .int .i64 0, .int .i64 0, .int .i64 0, .string (⟨#[]⟩ : ByteArray)] 50 ?_; intro gb103 hg w17 hbox hb; have BK103 := Aside0.mk hbox; have GW103 := ge HB hg; have GE103 := ge HB hg; replace HB := bs HB hb; have NB101_103 := nL BK101 hg; have NB103_101 := nG BK101 hg; replace BK101 := kb BK101 hb; clear hb hbox hg; have hnb18 := NB103_101.out; have hnc18 := NB101_103.out; obtain ⟨q19_0, q19_1, q19_2, q19_3, q19_4, q19_5, q19_6, q19_7, q19_8, q19_9, q19_10⟩ := cA11 BK103; obtain ⟨f19_0, f19_1, f19_2, f19_3, f19_4, f19_5, f19_6, f19_7, f19_8, f19_9, f19_10⟩ := fA11 BK103))
       go_ret
       exact ⟨gE, uB HB⟩
      rw [if_neg c15] at H
      have c15b0 : decide (60 < (((rd_T50 l0_4 x3_1).f2.f1).length : Int)) = false := decide_eq_false c15
      have c15b1 : decide (60 < ((rd_T50 l0_4 x3_1).f2.f1).length) = false := decide_eq_false (by omega)
      clear c15
      by_cases c20 : (((rd_T50 l0_4 x3_1).f3).length : Int) > 80
      ·rw [if_pos c20] at H
       have c20b0 : decide (80 < (((rd_T50 l0_4 x3_1).f3).length : Int)) = true := decide_eq_true c20
       have c20b1 : decide (80 < ((rd_T50 l0_4 x3_1).f3).length) = true := decide_eq_true (by omega)
       clear c20
       obtain rfl := Option.some.inj H
       obtain ⟨q21_0, q21_1, q21_2, q21_3, q21_4⟩ := cA5 BK101; obtain ⟨f21_0, f21_1, f21_2, f21_3, f21_4⟩ := fA5 BK101
       have p102 : 0 ≤ (x3_1 : Int) := of_decide_eq_true gA
       have q102 : x3_1 < (l0_4.length : Int) := of_decide_eq_true gA
       obtain ⟨ad102, A102_2, c102_2, A102_4, c102_4, A102_5, c102_5, e102, hx102_0, hx102_1, hx102_2, hx102_3, hx102_4, hx102_5, hx102_6, hx102_7, hx102_8, hx102_9, hx102_10, hl102_2, hi102_2, hl102_4, hi102_4, hl102_5, hi102_5⟩ := at_T50 HR0_4.out x3_1 p102 q102
       cases e102
       replace hx102_0 := bc HB hx102_0; replace hx102_1 := bc HB hx102_1; replace hx102_2 := bc HB hx102_2; replace hx102_3 := bc HB hx102_3; replace hx102_4 := bc HB hx102_4; replace hx102_5 := bc HB hx102_5; replace hx102_6 := bc HB hx102_6; replace hx102_7 := bc HB hx102_7; replace hx102_8 := bc HB hx102_8; replace hx102_9 := bc HB hx102_9; replace hx102_10 := bc HB hx102_10; have HR102_2 := Aside0.mk hi102_2; have HC102_2 := Aside0.mk hl102_2; clear hi102_2 hl102_2; have HR102_4 := Aside0.mk hi102_4; have HC102_4 := Aside0.mk hl102_4; clear hi102_4 hl102_4; have HR102_5 := Aside0.mk hi102_5; have HC102_5 := Aside0.mk hl102_5; clear hi102_5 hl102_5; replace p102 := eq_true p102; replace q102 := eq_true q102
       go_wp2_with (first | ((with_reducible refine gate_dst (N := 4) rfl ?_); (try (refine gate_guard (by rfl) ?_; dsimp only)); refine bx #[.int .i64 0, .int .i64 0, .slice none 0 0, .int .i64 0, .slice none 0 0, .slice none 0 0, .int .i64 0, .int .i64 0, .int .i64 0, .int .i64 0, .string (⟨#[]⟩ : ByteArray)] 50 ?_; intro gb103 hg w22 hbox hb; have BK103 := Aside0.mk hbox; have GW103 := ge HB hg; have GE103 := ge HB hg; replace HB := bs HB hb; have NB101_103 := nL BK101 hg; have NB103_101 := nG BK101 hg; replace BK101 := kb BK101 hb; clear hb hbox hg; have hnb23 := NB103_101.out; have hnc23 := NB101_103.out; obtain ⟨q24_0, q24_1, q24_2, q24_3, q24_4, q24_5, q24_6, q24_7, q24_8, q24_9, q24_10⟩ := cA11 BK103; obtain ⟨f24_0, f24_1, f24_2, f24_3, f24_4, f24_5, f24_6, f24_7, f24_8, f24_9, f24_10⟩ := fA11 BK103))
       go_ret
       exact ⟨gE, uB HB⟩
      rw [if_neg c20] at H
      have c20b0 : decide (80 < (((rd_T50 l0_4 x3_1).f3).length : Int)) = false := decide_eq_false c20
      have c20b1 : decide (80 < ((rd_T50 l0_4 x3_1).f3).length) = false := decide_eq_false (by omega)
      clear c20
      by_cases c25 : (((rd_T50 l0_4 x3_1).f4.f4).size : Int) > 600
      ·rw [if_pos c25] at H
       have c25b0 : decide (600 < (((rd_T50 l0_4 x3_1).f4.f4).size : Int)) = true := decide_eq_true c25
       have c25b1 : decide (600 < ((rd_T50 l0_4 x3_1).f4.f4).size) = true := decide_eq_true (by omega)
       clear c25
       obtain rfl := Option.some.inj H
       obtain ⟨q26_0, q26_1, q26_2, q26_3, q26_4⟩ := cA5 BK101; obtain ⟨f26_0, f26_1, f26_2, f26_3, f26_4⟩ := fA5 BK101
       have p102 : 0 ≤ (x3_1 : Int) := of_decide_eq_true gA
       have q102 : x3_1 < (l0_4.length : Int) := of_decide_eq_true gA
       obtain ⟨ad102, A102_2, c102_2, A102_4, c102_4, A102_5, c102_5, e102, hx102_0, hx102_1, hx102_2, hx102_3, hx102_4, hx102_5, hx102_6, hx102_7, hx102_8, hx102_9, hx102_10, hl102_2, hi102_2, hl102_4, hi102_4, hl102_5, hi102_5⟩ := at_T50 HR0_4.out x3_1 p102 q102
       cases e102
       replace hx102_0 := bc HB hx102_0; replace hx102_1 := bc HB hx102_1; replace hx102_2 := bc HB hx102_2; replace hx102_3 := bc HB hx102_3; replace hx102_4 := bc HB hx102_4; replace hx102_5 := bc HB hx102_5; replace hx102_6 := bc HB hx102_6; replace hx102_7 := bc HB hx102_7; replace hx102_8 := bc HB hx102_8; replace hx102_9 := bc HB hx102_9; replace hx102_10 := bc HB hx102_10; have HR102_2 := Aside0.mk hi102_2; have HC102_2 := Aside0.mk hl102_2; clear hi102_2 hl102_2; have HR102_4 := Aside0.mk hi102_4; have HC102_4 := Aside0.mk hl102_4; clear hi102_4 hl102_4; have HR102_5 := Aside0.mk hi102_5; have HC102_5 := Aside0.mk hl102_5; clear hi102_5 hl102_5; replace p102 := eq_true p102; replace q102 := eq_true q102
       go_wp2_with (first | ((with_reducible refine gate_dst (N := 4) rfl ?_); (try (refine gate_guard (by rfl) ?_; dsimp only)); refine bx #[.int .i64 0, .int .i64 0, .slice none 0 0, .int .i64 0, .slice none 0 0, .slice none 0 0, .int .i64 0, .int .i64 0, .int .i64 0, .int .i64 0, .string (⟨#[]⟩ : ByteArray)] 50 ?_; intro gb103 hg w27 hbox hb; have BK103 := Aside0.mk hbox; have GW103 := ge HB hg; have GE103 := ge HB hg; replace HB := bs HB hb; have NB101_103 := nL BK101 hg; have NB103_101 := nG BK101 hg; replace BK101 := kb BK101 hb; clear hb hbox hg; have hnb28 := NB103_101.out; have hnc28 := NB101_103.out; obtain ⟨q29_0, q29_1, q29_2, q29_3, q29_4, q29_5, q29_6, q29_7, q29_8, q29_9, q29_10⟩ := cA11 BK103; obtain ⟨f29_0, f29_1, f29_2, f29_3, f29_4, f29_5, f29_6, f29_7, f29_8, f29_9, f29_10⟩ := fA11 BK103))
       go_ret
       exact ⟨gE, uB HB⟩
      rw [if_neg c25] at H
      have c25b0 : decide (600 < (((rd_T50 l0_4 x3_1).f4.f4).size : Int)) = false := decide_eq_false c25
      have c25b1 : decide (600 < ((rd_T50 l0_4 x3_1).f4.f4).size) = false := decide_eq_false (by omega)
      clear c25
      have H' := Aside0.mk H
      clear H; obtain ⟨q30_0, q30_1, q30_2, q30_3, q30_4⟩ := cA5 BK101; obtain ⟨f30_0, f30_1, f30_2, f30_3, f30_4⟩ := fA5 BK101
      have p102 : 0 ≤ (x3_1 : Int) := of_decide_eq_true gA
      have q102 : x3_1 < (l0_4.length : Int) := of_decide_eq_true gA
      obtain ⟨ad102, A102_2, c102_2, A102_4, c102_4, A102_5, c102_5, e102, hx102_0, hx102_1, hx102_2, hx102_3, hx102_4, hx102_5, hx102_6, hx102_7, hx102_8, hx102_9, hx102_10, hl102_2, hi102_2, hl102_4, hi102_4, hl102_5, hi102_5⟩ := at_T50 HR0_4.out x3_1 p102 q102
      cases e102
      replace hx102_0 := bc HB hx102_0; replace hx102_1 := bc HB hx102_1; replace hx102_2 := bc HB hx102_2; replace hx102_3 := bc HB hx102_3; replace hx102_4 := bc HB hx102_4; replace hx102_5 := bc HB hx102_5; replace hx102_6 := bc HB hx102_6; replace hx102_7 := bc HB hx102_7; replace hx102_8 := bc HB hx102_8; replace hx102_9 := bc HB hx102_9; replace hx102_10 := bc HB hx102_10; have HR102_2 := Aside0.mk hi102_2; have HC102_2 := Aside0.mk hl102_2; clear hi102_2 hl102_2; have HR102_4 := Aside0.mk hi102_4; have HC102_4 := Aside0.mk hl102_4; clear hi102_4 hl102_4; have HR102_5 := Aside0.mk hi102_5; have HC102_5 := Aside0.mk hl102_5; clear hi102_5 hl102_5; replace p102 := eq_true p102; replace q102 := eq_true q102
      go_wp2_with (first | ((with_reducible refine gate_dst (N := 4) rfl ?_); (try (refine gate_guard (by rfl) ?_; dsimp only)); refine bx #[.int .i64 0, .int .i64 0, .slice none 0 0, .int .i64 0, .slice none 0 0, .slice none 0 0, .int .i64 0, .int .i64 0, .int .i64 0, .int .i64 0, .string (⟨#[]⟩ : ByteArray)] 50 ?_; intro gb103 hg w31 hbox hb; have BK103 := Aside0.mk hbox; have GW103 := ge HB hg; have GE103 := ge HB hg; replace HB := bs HB hb; have NB101_103 := nL BK101 hg; have NB103_101 := nG BK101 hg; replace BK101 := kb BK101 hb; clear hb hbox hg; have hnb32 := NB103_101.out; have hnc32 := NB101_103.out; obtain ⟨q33_0, q33_1, q33_2, q33_3, q33_4, q33_5, q33_6, q33_7, q33_8, q33_9, q33_10⟩ := cA11 BK103; obtain ⟨f33_0, f33_1, f33_2, f33_3, f33_4, f33_5, f33_6, f33_7, f33_8, f33_9, f33_10⟩ := fA11 BK103))
      go_roundg kj2
      case measure => have := HK1.out; have := HJ2.out; omega
      case rel => exact ⟨(wrap64 (x3_1 + 1)), gv, H', ⟨by have := HK1.out; have := HJ2.out; omega⟩, ⟨by refine rK ?_; refine blk_far ?_ NB101_103.out _; refine rK ?_; refine blk_far ?_ NB101_103.out _; refine rK ?_; refine blk_far ?_ NB101_103.out _; refine rK ?_; refine blk_far ?_ NB101_103.out _; refine rK ?_; refine blk_far ?_ NB101_103.out _; refine rK ?_; refine blk_far ?_ NB101_103.out _; refine rK ?_; refine blk_far ?_ NB101_103.out _; refine rK ?_; refine blk_far ?_ NB101_103.out _; refine rK ?_; refine blk_far ?_ NB101_103.out _; refine rK ?_; refine blk_far ?_ NB101_103.out _; refine rK ?_; refine blk_far ?_ NB101_103.out _; refine rK ?_; exact BK101.out⟩, ⟨uB HB⟩⟩
     replace c7 := Bool.eq_false_iff.mpr c7
     subst c7
     rw [if_neg (show ¬ (false = true) by decide)] at H
     obtain rfl := Option.some.inj H
     obtain ⟨q34_0, q34_1, q34_2, q34_3, q34_4⟩ := cA5 BK101; obtain ⟨f34_0, f34_1, f34_2, f34_3, f34_4⟩ := fA5 BK101
     go_wp2
     go_ret
     exact ⟨gE, uB HB⟩
end Go.Proofs.Ytpgmmnlkiogamaa.P
namespace Go.Proofs.Ytpgmmnlkiogamaa.P
open Go.RowKit YtpgmmnlkiogamaaW.PrintWords YtpgmmnlkiogamaaW.PrintLast YtpgmmnlkiogamaaW.PrintMore
theorem w64 {x : Int} (h0 : -9223372036854775808 ≤ x) (h1 : x < 9223372036854775808) : wrap64 x = x := by unfold wrap64; omega
theorem Ev.from {α : Type} {g : Nat → Option α} {r : α} (n : Nat) (h : ∀ k, g (k + n) = some r) : Ev g r := ⟨n, fun k hk => by
 obtain ⟨m, rfl⟩ : ∃ m, k = m + n := ⟨k - n, by omega⟩
 exact h m⟩
theorem bits_or_i64 (a b : Nat) (ha : a < 2 ^ 62) (hb : b < 2 ^ 62) : Go.bits .or .i64 (a : Int) (b : Int) = ((a ||| b : Nat) : Int) := (bits_nat .i64 62 (by decide) (by intro n h0 h1; rw [IntKind.wrap_i64]; omega) a b ha hb).2
theorem rd_get (l : List Int) (i : Int) (h0 : 0 ≤ i) (h1 : i < l.length) : l.drop i.toNat = rd l i :: l.drop (i + 1).toNat := by
 have hi : i.toNat < l.length := by omega
 rw [List.drop_eq_getElem_cons hi, show (i + 1).toNat = i.toNat + 1 by omega]
 congr 1
 unfold rd
 rw [List.getD_eq_getElem?_getD, List.getElem?_eq_getElem hi]
 rfl
theorem bnd64 {n : Int} (h : (Lit.int .i64 n).wf = true) : -9223372036854775808 ≤ n ∧ n ≤ 9223372036854775807 := Go.bounds_i64 h
theorem wrap_u64 (n : Int) : IntKind.u64.wrap n = n % 18446744073709551616 := by simp [IntKind.wrap, IntKind.bits, IntKind.signed]
def Bytes (l : List Int) : Prop := ∀ x ∈ l, 0 ≤ x ∧ x ≤ 255
def be : Nat → Int → List Int
 | 0, _ => []
 | n + 1, v => be n (v / 256) ++ [v % 256]
theorem be_length (n : Nat) (v : Int) : (be n v).length = n := by
 induction n generalizing v with
 | zero => rfl
 | succ n ih => simp [be, ih]
theorem be_cons (n : Nat) : ∀ v : Int, be (n + 1) v = (v / 256 ^ n % 256) :: be n v := by
 induction n with
 | zero => intro v; simp [be]
 | succ n ih =>
  intro v
  show be (n + 1) (v / 256) ++ [v % 256] = _
  rw [ih (v / 256), Int.ediv_ediv_of_nonneg (by decide), ← Int.pow_succ']
  rfl
theorem be_set (m : Nat) (x : Int) (t : List Int) : (List.replicate (m + 1) (0 : Int) ++ t).set m x = List.replicate m 0 ++ x :: t := by
 induction m with
 | zero => rfl
 | succ m ih => rw [List.replicate_succ, List.cons_append, List.set_cons_succ, ih, List.replicate_succ (n := m), List.cons_append]
theorem be_bytes (n : Nat) (v : Int) : Bytes (be n v) := by
 induction n generalizing v with
 | zero => intro x hx; simp [be] at hx
 | succ n ih =>
  intro x hx
  simp only [be, List.mem_append, List.mem_singleton] at hx
  rcases hx with hx | rfl
  ·exact ih _ x hx
  ·omega
def bevFrom (a : Int) (l : List Int) : Int := l.foldl (fun a x => 256 * a + x) a
def bev (l : List Int) : Int := bevFrom 0 l
theorem bevFrom_eq (l : List Int) : ∀ a : Int, bevFrom a l = a * 256 ^ l.length + bev l := by
 induction l with
 | nil => intro a; simp [bevFrom, bev]
 | cons x l ih =>
  intro a
  show bevFrom (256 * a + x) l = _
  have e : bev (x :: l) = bevFrom (256 * 0 + x) l := rfl
  rw [e, ih (256 * a + x), ih (256 * 0 + x), List.length_cons, Int.pow_succ]
  rw [Int.mul_zero, Int.zero_add, Int.add_mul, Int.add_assoc]
  congr 1
  rw [Int.mul_comm 256 a, Int.mul_assoc, Int.mul_comm 256]
theorem bev_cons (x : Int) (l : List Int) : bev (x :: l) = x * 256 ^ l.length + bev l := by
 show bevFrom (256 * 0 + x) l = _
 rw [bevFrom_eq, Int.mul_zero, Int.zero_add]
theorem bev_snoc (l : List Int) (x : Int) : bev (l ++ [x]) = 256 * bev l + x := by simp [bev, bevFrom, List.foldl_append]
theorem bev_nil : bev [] = 0 := rfl
theorem Bytes.cons {x : Int} {l : List Int} (h : Bytes (x :: l)) : (0 ≤ x ∧ x ≤ 255) ∧ Bytes l := ⟨h x (by simp), fun y hy => h y (by simp [hy])⟩
theorem Bytes.sub {l m : List Int} (h : Bytes l) (hm : ∀ x ∈ m, x ∈ l) : Bytes m := fun x hx => h x (hm x hx)
theorem Bytes.drop {l : List Int} (h : Bytes l) (n : Nat) : Bytes (l.drop n) := h.sub fun _ => List.mem_of_mem_drop
theorem Bytes.take {l : List Int} (h : Bytes l) (n : Nat) : Bytes (l.take n) := h.sub fun _ => List.mem_of_mem_take
theorem Bytes.append {l m : List Int} (h : Bytes l) (k : Bytes m) : Bytes (l ++ m) := fun x hx => (List.mem_append.1 hx).elim (h x) (k x)
theorem Bytes.nil : Bytes [] := fun x hx => by simp at hx
theorem pow256_pos (n : Nat) : (0 : Int) < 256 ^ n := Int.pow_pos (by decide)
theorem bev_range (l : List Int) (h : Bytes l) : 0 ≤ bev l ∧ bev l < 256 ^ l.length := by
 induction l with
 | nil => simp [bev_nil]
 | cons x l ih =>
  obtain ⟨hx, hl⟩ := h.cons
  have := ih hl
  rw [bev_cons, List.length_cons, Int.pow_succ]
  have hp := pow256_pos l.length
  have h1 : 0 ≤ x * 256 ^ l.length := Int.mul_nonneg hx.1 (by omega)
  have h2 : x * 256 ^ l.length ≤ 255 * 256 ^ l.length := Int.mul_le_mul_of_nonneg_right hx.2 (by omega)
  omega
def numSpec (l : List Int) (at_ n : Int) : Int × Int × Int :=
 if at_ < 0 ∨ (l.length : Int) < at_ then (0, 0, 1) else if (l.length : Int) - at_ < n then (0, 0, 6) else (bev ((l.drop at_.toNat).take n.toNat), at_ + n, 0)
def getSpec (l : List Int) (at_ n : Int) : Int × Int × Int := if n < 1 ∨ 7 < n then (0, 0, 1) else numSpec l at_ n
def getIntSpec (l : List Int) (at_ : Int) : Int × Int × Int := (wrap64 (numSpec l at_ 8).1, (numSpec l at_ 8).2.1, (numSpec l at_ 8).2.2)
def putSpec (v n : Int) : List Int × Int := if 1 ≤ n ∧ n ≤ 7 ∧ 0 ≤ v ∧ v < 256 ^ n.toNat then (be n.toNat v, 0) else ([], 1)
def intSpec (v : Int) : List Int := be 8 (v % 18446744073709551616)
theorem take_bev (l : List Int) (i : Nat) (h : i < l.length) : bev (l.take (i + 1)) = 256 * bev (l.take i) + rd l i := by
 rw [List.take_succ_eq_append_getElem h, bev_snoc]
 congr 1
 unfold rd
 rw [List.getD_eq_getElem?_getD, Int.toNat_natCast, List.getElem?_eq_getElem h]
 rfl
theorem rd_byte (l : List Int) (h : Bytes l) (i : Int) : 0 ≤ rd l i ∧ rd l i ≤ 255 := by
 unfold rd
 rw [List.getD_eq_getElem?_getD]
 cases hc : l[i.toNat]? with
 | none => simp
 | some x => exact h x (List.mem_of_getElem? hc)
theorem or_byte (a x : Int) (h0 : 0 ≤ a) (h1 : a < 72057594037927936) (x0 : 0 ≤ x) (x1 : x ≤ 255) : Go.bits .or .u64 (IntKind.u64.wrap (a * 256)) (IntKind.u64.wrap x) = 256 * a + x := by
 rw [wrap_u64, wrap_u64]
 obtain ⟨p, rfl⟩ := Int.eq_ofNat_of_zero_le h0
 obtain ⟨q, rfl⟩ := Int.eq_ofNat_of_zero_le x0
 rw [show ((p : Int) * 256) % 18446744073709551616 = ((p * 256 : Nat) : Int) by omega, show ((q : Int) % 18446744073709551616) = ((q : Nat) : Int) by omega]
 rw [u64_or_nat _ _ (by omega) (by omega), nat_join 8 _ _ (by omega) (by omega)]
 omega
theorem pow256_le (i n : Nat) (h : i ≤ n) : (256 : Int) ^ i ≤ 256 ^ n := by
 have : (256 : Nat) ^ i ≤ 256 ^ n := Nat.pow_le_pow_right (by decide) h
 have h2 : ((256 ^ i : Nat) : Int) ≤ ((256 ^ n : Nat) : Int) := Int.ofNat_le.mpr this
 rw [Int.natCast_pow, Int.natCast_pow] at h2
 exact h2
def wire_bytes.f (v n : Int) : Option (List Int) := if 0 ≤ v ∧ 1 ≤ n ∧ n ≤ 8 then some (be n.toNat v) else none
theorem store_any (g : Nat) (u : Value) (v : Int) (w : World) (hb : w.heap[g]? = some (.cells #[u] 96 (0, 0))) :
  Calls Try.prog 50 #[.pointer (some ⟨g, 0, none⟩), .int .u64 v] w fun e w' => e = .returned (.tuple #[]) ∧ w.setCell ⟨g, 0, none⟩ (.int .u64 v) = w' := by
 have hc : w.cell? ⟨g, 0, none⟩ = some u := by rw [blk_cell hb]; rfl
 have hz : w.frozen? ⟨g, 0, none⟩ = false := blk_frozen hb 0
 have hst := fun y => run_call_store (P := Try.prog) Try.func69 (by kernel_rfl) (by kernel_rfl) (by kernel_rfl) (by kernel_rfl) (k := .u64) (y := y) hc hz
 clear hb
 go_enter Try.func50, Try.ntmps50
 go_wp2
 go_end0
 exact ⟨rfl, rfl⟩
theorem low_any (g : Nat) (v : Int) (w : World) (h0 : 0 ≤ v) (hb : w.heap[g]? = some (.cells #[.int .u64 v] 96 (0, 0))) :
  Calls Try.prog 51 #[.pointer (some ⟨g, 0, none⟩)] w fun e w' => e = .returned (.int .u8 (v % 256)) ∧ w.setCell ⟨g, 0, none⟩ (.int .u64 (v / 256)) = w' := by
 have hc : w.cell? ⟨g, 0, none⟩ = some (.int .u64 v) := by rw [blk_cell hb]; rfl
 have hz : w.frozen? ⟨g, 0, none⟩ = false := blk_frozen hb 0
 have hld := run_call_load (P := Try.prog) Try.func88 (by kernel_rfl) (by kernel_rfl) (by kernel_rfl) .u64 (by kernel_rfl) hc
 have hst := fun y => run_call_store (P := Try.prog) Try.func69 (by kernel_rfl) (by kernel_rfl) (by kernel_rfl) (by kernel_rfl) (k := .u64) (y := y) hc hz
 clear hb
 go_enter Try.func51, Try.ntmps51
 go_wp2
 go_end0
 go_wp2
 go_ret
 exact ⟨rfl, rfl⟩
theorem wire_bytes.calls (a0 : Int) (a1 : Int) (r : List Int) (w : World) (h : wire_bytes.f a0 a1 = some r) :
  Calls Try.prog 30 #[.int .u64 a0, .int .i64 a1] w fun e w' => ∃ v0_ : Value, e = .returned (v0_) ∧ Kd.R (Kd.int .u8) 5 w' w.heap.size (fun _ => True) v0_ r ∧ Below w.heap.size w w' := by
 have hh : (0 ≤ a0 ∧ 1 ≤ a1 ∧ a1 ≤ 8) ∧ be a1.toNat a0 = r := by
  unfold wire_bytes.f at h
  split at h
  ·rename_i hc
   exact ⟨hc, Option.some.inj h⟩
  ·exact absurd h (by simp)
 clear h
 obtain ⟨⟨h0, h1, h2⟩, rfl⟩ := hh
 obtain ⟨n, rfl⟩ := Int.eq_ofNat_of_zero_le (show 0 ≤ a1 by omega)
 have hp : 0 < n := by omega
 have h2' : n ≤ 8 := by omega
 clear h1 h2
 simp only [Int.toNat_natCast]
 have H0 := Aside0.mk h0
 clear h0
 have hn0 : (0 : Int) ≤ (n : Int) := by omega
 have hn1 : (n : Int) ≤ 8 := by omega
 go_enter Try.func30, Try.ntmps30
 go_wp2_with (((with_reducible refine gate_dst (N := 9) rfl ?_); refine box_event ?hg (N := 9) ?hd (cs := #[.int .u64 0]) (t := 96) ?hr ?_; (case hd => rfl); (case hg => rfl); (case hr => first | (go_simp; done) | (go_simp; rfl)); intro gb hgb w1 hbox hb1; have HBX := Aside0.mk hbox; have HB := Aside0.mk (Below.trans (Below.refl w.heap.size w) hb1); have HG := Aside0.mk (show w.heap.size ≤ gb by rw [hgb]; exact Nat.le_refl _); clear hbox hb1 hgb))
 refine (store_any gb _ a0 _ HBX.out).mono ?_
 rintro e w2 ⟨rfl, hw2⟩
 have HBX2 := Aside0.mk (show w2.heap[gb]? = some (.cells #[.int .u64 a0] 96 (0, 0)) by rw [← hw2]; exact blk_put HBX.out 0 _ rfl)
 have HB2 := Aside0.mk (show Below w.heap.size w w2 by rw [← hw2]; exact below_set HB.out HG.out)
 clear hw2 HBX HB
 go_wp2_with (((with_reducible refine gate_dst (N := 16) rfl ?_); refine Kd.R_make (Kd.int .u8) _ 5 rfl (N := 16) rfl 26 _ _ rfl (n : Int) rfl rfl Try.underlying26 (.int .u8 0) 1 info5 rfl (by decide) (by omega) 0 (ok := fun k => k ≠ gb) (okp := fun _ => False) rfl (fun _ hk => hk.elim) (fun he => absurd (blk_lt HBX2.out) (by rw [← he]; exact Nat.lt_irrefl _)) (by omega) (by simp only [Int.toNat_natCast]; omega) (Below.refl _ _) (Nat.le_refl _) ?_; intro v3 w3 ho hb3 hg3 hnew; clear hnew; simp only [Int.toNat_natCast] at ho; obtain ⟨gs, cs, hv3, hgs, hls, hcs⟩ := Kd.R_form ho (by rw [List.length_replicate]; exact hp); rw [List.length_replicate] at hv3; clear hls hcs; rw [hv3] at ho ⊢; clear hv3; have HO := Aside0.mk (Kd.R_lower ho HB2.out.size); have HBX3 := Aside0.mk (blk_grown HBX2.out hg3 (by simp)); have HB3 := Aside0.mk (below_step HB2.out hb3); have HGS := Aside0.mk (Nat.le_trans HB2.out.size hgs); have HNE := Aside0.mk (show gs ≠ gb from ho.1 gs (by simp [Value.ownBlock])); clear ho hb3 hgs hg3 HBX2 HB2))
 go_loopg [19] n (fun kq v19 wr => ∃ (i : Nat), v19 = .int .i64 i ∧ Aside0 (i + kq = n) ∧ Aside0 (Kd.R (Kd.int .u8) 5 wr w.heap.size (fun k => k ≠ gb) (.slice (some ⟨gs, 0, none⟩) n cs) (List.replicate (n - i) 0 ++ be i a0)) ∧ Aside0 (wr.heap[gb]? = some (.cells #[.int .u64 (a0 / 256 ^ i)] 96 (0, 0))) ∧ Aside0 (Below w.heap.size w wr))
 case atStart => exact ⟨0, rfl, ⟨by omega⟩, ⟨by simpa [be] using HO.out⟩, ⟨by simpa using HBX3.out⟩, HB3⟩
 case round =>
  clear HO HBX3 HB3
  obtain ⟨i, rfl, HI, HO, HBX, HB⟩ := hrel
  cases gk with
  | zero =>
   have hi : i = n := by have := HI.out; omega
   subst hi
   go_wp2
   go_ret
   refine ⟨_, rfl, ?_, HB.out⟩
   have h := HO.out
   rw [Nat.sub_self, List.replicate_zero, List.nil_append] at h
   exact Kd.R_mono h (fun _ _ => trivial)
  | succ k1 =>
   have hlt : i < n := by have := HI.out; omega
   have hi0 : (0 : Int) ≤ (n : Int) - 1 - (i : Int) := by omega
   have hi1 : (n : Int) - 1 - (i : Int) < (n : Int) := by omega
   have hs1 : (0 : Int) ≤ (n : Int) - 1 := by omega
   have hb0 : (0 : Int) ≤ (i : Int) := by omega
   have HA0 := Aside0.mk (show 0 ≤ a0 / 256 ^ i from Int.ediv_nonneg H0.out (by exact Int.pow_nonneg (by decide)))
   go_wp2_with (go_at_call 51; (refine (low_any gb (a0 / 256 ^ i) _ HA0.out HBX.out).mono ?_); rintro e w4 ⟨rfl, hw4⟩; have HBX4 := Aside0.mk (show w4.heap[gb]? = some (.cells #[.int .u64 (a0 / 256 ^ i / 256)] 96 (0, 0)) by rw [← hw4]; exact blk_put HBX.out 0 _ rfl); have HB4 := Aside0.mk (show Below w.heap.size w w4 by rw [← hw4]; exact below_set HB.out HG.out); have HO4 := Aside0.mk (show Kd.R (Kd.int .u8) 5 w4 w.heap.size (fun k => k ≠ gb) (.slice (some ⟨gs, 0, none⟩) n cs) (List.replicate (n - i) 0 ++ be i a0) by rw [← hw4]; exact Kd.R_far HO.out (fun _ hk => hk) _); clear hw4; obtain ⟨hx4, hf4⟩ := Kd.R_celln 0 HO4.out ((n - 1 - i : Nat) : Int) (by omega) (by omega); simp only [Int.toNat_natCast] at hx4 hf4)
   go_roundg k1
   case measure => omega
   case rel =>
    have hp4 := (Kd.R_putg HO4.out ((n - 1 - i : Nat) : Int) (a0 / 256 ^ i % 256)).1
    simp only [Int.toNat_natCast] at hp4
    refine ⟨i + 1, by simp, ⟨by have := HI.out; omega⟩, ⟨?_⟩, ⟨?_⟩, ⟨below_set HB4.out HGS.out⟩⟩
    ·rw [show n - i = (n - 1 - i) + 1 by omega, be_set, show n - 1 - i = n - (i + 1) by omega] at hp4
     rw [be_cons, show n - 1 - i = n - (i + 1) by omega]
     exact hp4
    ·rw [Int.pow_succ, ← Int.ediv_ediv_of_nonneg (Int.pow_nonneg (by decide))]
     exact blk_far HBX4.out (fun e => HNE.out e.symm) _
def wire_number.f (l : List Int) (a n : Int) : Option (Int × Int × Int) := if l.length ≤ 1000000000000 ∧ 0 ≤ n ∧ n ≤ 8 ∧ ∀ x ∈ l, 0 ≤ x ∧ x ≤ 255 then some (numSpec l a n) else none
theorem number_mid (t e : Nat) {P : Program} (ht : P.underlying t = some (.slice e)) {z : Value} (hinfo : (P.info? e).map (fun i => (i.zero, i.size, i.bytes)) = some (some z, 1, 1)) (A : Option Addr) (c : Nat) (l : List Int) (a : Int) (n : Nat) (h0 : 0 ≤ a) (h1 : a + n ≤ l.length) (hc : l.length ≤ c) (w : World) (hr : Kd.C (Kd.int .u8) w A l.length l) :
  ∃ A1, (∀ W : World, (Instr.slice t (.slice A l.length c) (some (.int .i64 a)) (some (.int .i64 (a + n))) none).run P W = .ok (.slice A1 n (c - a.toNat)) W) ∧ Kd.C (Kd.int .u8) w A1 n ((l.drop a.toNat).take n) := by
 obtain ⟨i0, hi, _, hs, _⟩ := info_parts hinfo
 obtain ⟨A1, hcut, hA, hC⟩ := print_mid_of (P := P) (Value.int .u8) 0 t e .i64 .i64 ht hi hs A c l a (a + n) h0 (by omega) h1 hc
 have hm : (l.take (a + n).toNat).drop a.toNat = (l.drop a.toNat).take n := by rw [List.drop_take, show (a + n).toNat - a.toNat = n by omega]
 have hl : ((l.drop a.toNat).take n).length = n := by rw [List.length_take, List.length_drop]; omega
 rw [hm] at hcut hA
 rw [hl] at hcut hA
 exact ⟨A1, hcut, Kd.C_of_reads (h1 := fun _ => rfl) (hA w (Kd.reads_of_C hr))⟩
theorem wire_number.drawn (A0 : Option Addr) (c0 : Nat) (l0 : List Int) (a1 : Int) (a2 : Int) (r1 : Int) (r2 : Int) (r3 : Int) (w : World) (hr0 : Kd.C (Kd.int .u8) w A0 l0.length l0) (hc0 : l0.length ≤ c0) (h : wire_number.f l0 a1 a2 = some (r1, r2, r3)) :
  Calls Try.prog 47 #[.slice A0 l0.length c0, .int .i64 a1, .int .i64 a2] w fun e w' => e = .returned (.tuple #[.int .u64 r1, .int .i64 r2, .int .i64 r3]) ∧ Drawn0 w w' := by
 obtain ⟨hl, hn0, hn8, hB, hs⟩ : l0.length ≤ 1000000000000 ∧ 0 ≤ a2 ∧ a2 ≤ 8 ∧ Bytes l0 ∧ numSpec l0 a1 a2 = (r1, r2, r3) := by
  unfold wire_number.f at h
  split at h
  ·rename_i hc
   exact ⟨hc.1, hc.2.1, hc.2.2.1, hc.2.2.2, Option.some.inj h⟩
  ·exact absurd h (by simp)
 clear h
 have HL := Aside0.mk hl
 have HB := Aside0.mk hB
 clear hl hB
 by_cases c1 : a1 < 0
 ·rw [numSpec, if_pos (.inl c1)] at hs
  simp only [Prod.mk.injEq] at hs
  obtain ⟨rfl, rfl, rfl⟩ := hs
  have b1 : decide (a1 < 0) = true := decide_eq_true c1
  clear hn0 hn8
  go_enter Try.func47, Try.ntmps47
  go_wp2
  go_ret3
  exact ⟨rfl, Drawn0.refl _⟩
 have b1 : decide (a1 < 0) = false := decide_eq_false c1
 by_cases c2 : (l0.length : Int) < a1
 ·rw [numSpec, if_pos (.inr c2)] at hs
  simp only [Prod.mk.injEq] at hs
  obtain ⟨rfl, rfl, rfl⟩ := hs
  have b2 : decide ((l0.length : Int) < a1) = true := decide_eq_true c2
  clear hn0 hn8 c1
  go_enter Try.func47, Try.ntmps47
  go_wp2
  go_ret3
  exact ⟨rfl, Drawn0.refl _⟩
 have b2 : decide ((l0.length : Int) < a1) = false := decide_eq_false c2
 rw [numSpec, if_neg (by omega)] at hs
 have hll := HL.out
 have d0 : 0 ≤ (l0.length : Int) - a1 := by omega
 have d1 : (l0.length : Int) - a1 ≤ 1000000000000 := by omega
 by_cases c3 : (l0.length : Int) - a1 < a2
 ·rw [if_pos c3] at hs
  simp only [Prod.mk.injEq] at hs
  obtain ⟨rfl, rfl, rfl⟩ := hs
  have b3 : decide ((l0.length : Int) - a1 < a2) = true := decide_eq_true c3
  go_enter Try.func47, Try.ntmps47
  go_wp2
  go_ret3
  exact ⟨rfl, Drawn0.refl _⟩
 have b3 : decide ((l0.length : Int) - a1 < a2) = false := decide_eq_false c3
 rw [if_neg c3] at hs
 simp only [Prod.mk.injEq] at hs
 obtain ⟨rfl, rfl, rfl⟩ := hs
 obtain ⟨n, rfl⟩ := Int.eq_ofNat_of_zero_le hn0
 simp only [Int.toNat_natCast]
 obtain ⟨A1, hcut, hC⟩ := number_mid 26 5 Try.underlying26 info5 A0 c0 l0 a1 n (by omega) (by omega) hc0 w hr0
 obtain ⟨m, hm⟩ : ∃ m, m = (l0.drop a1.toNat).take n := ⟨_, rfl⟩
 rw [← hm] at hC ⊢
 have HM := Aside0.mk (show m.length = n ∧ Bytes m by rw [hm]; exact ⟨by rw [List.length_take, List.length_drop]; omega, (HB.out.drop _).take _⟩)
 have HC := Aside0.mk hC
 have s0 : 0 ≤ a1 + (n : Int) := by omega
 have s1 : a1 + (n : Int) ≤ 2000000000000 := by omega
 have s2 : (n : Int) ≤ 8 := by omega
 clear hm hC hr0 hc0 HB hll hn0 c3 c1 c2 HL
 go_enter Try.func47, Try.ntmps47
 go_wp2
 clear d0 d1 b1 b2 b3 hcut
 go_loopg [9, 35] n (fun kq v9 v35 w' => ∃ (i : Nat), v9 = .int .u64 (bev (m.take i)) ∧ v35 = .int .i64 i ∧ Aside0 (i + kq = n) ∧ Drawn0 w w')
 case atStart => exact ⟨0, by simp [bev_nil], by simp, ⟨by omega⟩, Drawn0.refl _⟩
 case round =>
  obtain ⟨i, rfl, rfl, HI, ⟨nd, rfl⟩⟩ := hrel
  cases gk with
  | zero =>
   have hi : i = n := by have := HI.out; omega
   subst hi
   go_wp2
   go_ret3
   refine ⟨?_, by repeat (first | exact Drawn0.refl _ | apply Drawn0.step)⟩
   rw [List.take_of_length_le (by rw [HM.out.1]; exact Nat.le_refl _)]
   rfl
  | succ k1 =>
   have hlt : i < n := by have := HI.out; omega
   obtain ⟨ad, hA, hcell⟩ := Kd.at_int HC.out (i : Int) (by omega) (by omega)
   cases hA
   simp only [Int.toNat_natCast] at hcell
   go_wp2
   go_roundg k1
   case measure => omega
   case rel =>
    have hr := bev_range (m.take i) (HM.out.2.take i)
    have hb := rd_byte m HM.out.2 i
    have hml := HM.out.1
    have hp : (256 : Int) ^ (m.take i).length ≤ 256 ^ 7 := pow256_le _ _ (by rw [List.length_take]; omega)
    have h7 : (256 : Int) ^ 7 = 72057594037927936 := by decide
    refine ⟨i + 1, ?_, by simp, ⟨by have := HI.out; omega⟩, by repeat (first | exact Drawn0.refl _ | apply Drawn0.step)⟩
    rw [or_byte _ _ hr.1 (by omega) hb.1 hb.2, ← take_bev m i (by omega)]
theorem wire_number.calls (A0 : Option Addr) (c0 : Nat) (l0 : List Int) (a1 : Int) (a2 : Int) (r1 : Int) (r2 : Int) (r3 : Int) (w : World) (hr0 : Kd.C (Kd.int .u8) w A0 l0.length l0) (hc0 : l0.length ≤ c0) (h : wire_number.f l0 a1 a2 = some (r1, r2, r3)) :
  Calls Try.prog 47 #[.slice A0 l0.length c0, .int .i64 a1, .int .i64 a2] w fun e w' => e = .returned (.tuple #[.int .u64 r1, .int .i64 r2, .int .i64 r3]) ∧ Below w.heap.size w w' :=
 (wire_number.drawn A0 c0 l0 a1 a2 r1 r2 r3 w hr0 hc0 h).mono fun _ _ ⟨he, hd⟩ => ⟨he, hd.below⟩
end Go.Proofs.Ytpgmmnlkiogamaa.P
namespace Go.Proofs.Ytpgmmnlkiogamaa.P
open Go.RowKit YtpgmmnlkiogamaaW.PrintWords YtpgmmnlkiogamaaW.PrintLast YtpgmmnlkiogamaaW.PrintMore
attribute [local go_sem] max2_int min2_int max_two min_two max_three min_three max_four min_four
def frame_Bytes_1.f (a0 : Int) : Option (Bool) := if a0 ≥ 0 then (some (decide (a0 < 64))) else (some false)
theorem frame_Bytes_1.calls (a0 : Int) (r : Bool) (w : World) (h : frame_Bytes_1.f a0 = some r) :
  Calls Try.prog 19 #[.int .i64 a0] w fun e w' => e = .returned (.bool r) ∧ Drawn0 w w' := by
 have H : (if a0 ≥ 0 then (some (decide (a0 < 64))) else (some false)) = some r := h
 clear h
 by_cases c2 : a0 ≥ 0
 ·rw [if_pos c2] at H
  have c2b0 : decide (0 ≤ a0) = true := decide_eq_true c2; clear c2
  obtain rfl := Option.some.inj H
  go_enter Try.func19, Try.ntmps19
  go_wp2
  go_ret
  exact ⟨by first | rfl | (simp; done) | (simp [*]; done), by repeat (first | exact Drawn0.refl _ | apply Drawn0.step)⟩
 rw [if_neg c2] at H; have c2b0 : decide (0 ≤ a0) = false := decide_eq_false c2; clear c2
 obtain rfl := Option.some.inj H
 go_enter Try.func19, Try.ntmps19
 go_wp2
 go_ret
 exact ⟨by first | rfl | (simp; done) | (simp [*]; done), by repeat (first | exact Drawn0.refl _ | apply Drawn0.step)⟩
def wire_Put.f (a0 : Int) (a1 : Int) : Option (List Int × Int) := if a1 < 1 then (some (([] : List Int), 1)) else (if a1 > 7 then (some (([] : List Int), 1)) else (if a0 < 0 then (some (([] : List Int), 1)) else (if 0 ≤ (wrap64 (8 * a1)) then (if (shr .i64 a0 (wrap64 (8 * a1))) = 0 then ((wire_bytes.f (IntKind.u64.wrap (a0)) a1).bind fun t104 => (some (t104, 0))) else (some (([] : List Int), 1))) else (none))))
theorem wire_Put.calls (a0 : Int) (a1 : Int) (r1 : List Int) (r2 : Int) (w : World) (h : wire_Put.f a0 a1 = some (r1, r2)) :
  Calls Try.prog 20 #[.int .i64 a0, .int .i64 a1] w fun e w' => ∃ v0_ : Value, e = .returned (.tuple #[v0_, .int .i64 r2]) ∧ Kd.R (Kd.int .u8) 5 w' w.heap.size (fun _ => True) v0_ r1 ∧ Below w.heap.size w w' := by
 have HB := Aside0.mk (Below.refl w.heap.size w)
 have H : (if a1 < 1 then (some (([] : List Int), 1)) else (if a1 > 7 then (some (([] : List Int), 1)) else (if a0 < 0 then (some (([] : List Int), 1)) else (if 0 ≤ (wrap64 (8 * a1)) then (if (shr .i64 a0 (wrap64 (8 * a1))) = 0 then ((wire_bytes.f (IntKind.u64.wrap (a0)) a1).bind fun t104 => (some (t104, 0))) else (some (([] : List Int), 1))) else (none))))) = some (r1, r2) := h
 clear h
 by_cases c3 : a1 < 1
 ·rw [if_pos c3] at H
  have c3b0 := decide_eq_true c3; clear c3
  simp only [Option.some.injEq, Prod.mk.injEq] at H
  obtain ⟨rfl, rfl⟩ := H
  go_enter Try.func20, Try.ntmps20
  go_wp2
  go_ret2
  exact ⟨_, gE, gO, uB HB⟩
 rw [if_neg c3] at H; have c3b0 : decide (a1 < 1) = false := decide_eq_false c3; clear c3
 by_cases c4 : a1 > 7
 ·rw [if_pos c4] at H
  have c4b0 : decide (7 < a1) = true := decide_eq_true c4; clear c4
  simp only [Option.some.injEq, Prod.mk.injEq] at H
  obtain ⟨rfl, rfl⟩ := H
  go_enter Try.func20, Try.ntmps20
  go_wp2
  go_ret2
  exact ⟨_, gE, gO, uB HB⟩
 rw [if_neg c4] at H; have c4b0 : decide (7 < a1) = false := decide_eq_false c4; clear c4
 by_cases c5 : a0 < 0
 ·rw [if_pos c5] at H
  have c5b0 := decide_eq_true c5; clear c5
  simp only [Option.some.injEq, Prod.mk.injEq] at H
  obtain ⟨rfl, rfl⟩ := H
  go_enter Try.func20, Try.ntmps20
  go_wp2
  go_ret2
  exact ⟨_, gE, gO, uB HB⟩
 rw [if_neg c5] at H; have c5b0 : decide (a0 < 0) = false := decide_eq_false c5; clear c5
 obtain ⟨ji6, hji6⟩ : ∃ j_ : Int, (wrap64 (8 * a1)) = j_ := ⟨_, rfl⟩
 replace H : (if 0 ≤ (ji6) then (if (shr .i64 a0 (ji6)) = 0 then ((wire_bytes.f (IntKind.u64.wrap (a0)) a1).bind fun t104 => (some (t104, 0))) else (some (([] : List Int), 1))) else (none)) = some (r1, r2) := by first | (rw [hji6] at H; exact H) | (simp only [hji6] at H ⊢; exact H)
 have hji6w : (IntKind.i64.wrap (8 * a1)) = ji6 := (i64_w _).trans hji6
 by_cases c7 : 0 ≤ (ji6)
 rotate_left
 ·rw [if_neg c7] at H
  exact absurd H (by simp)
 rw [if_pos c7] at H; have c7b0 := eq_true c7; have c7b1 := decide_eq_true c7; clear c7
 obtain ⟨ji8, hji8⟩ : ∃ j_ : Int, (shr .i64 a0 (ji6)) = j_ := ⟨_, rfl⟩
 replace H : (if (ji8) = 0 then ((wire_bytes.f (IntKind.u64.wrap (a0)) a1).bind fun t104 => (some (t104, 0))) else (some (([] : List Int), 1))) = some (r1, r2) := by first | (rw [hji8] at H; exact H) | (simp only [hji8] at H ⊢; exact H)
 have hji8_ : (a0 / 2 ^ min (ji6).toNat 64) = ji8 := hji8
 have hji8z : (ji6) ≤ 64 → (a0 / 2 ^ (ji6).toNat) = ji8 := shr_small hji8
 by_cases c9 : (ji8) = 0
 ·rw [if_pos c9] at H
  have c9b0 : ((ji8) == 0) = true := beq_iff_eq.mpr c9
  have c9b1 : ((ji8) != 0) = false := bne_eq_false_iff_eq.mpr c9
  clear c9; replace H := Option.bind_eq_some_iff.mp H; obtain ⟨t104, A100, H⟩ := H
  replace H : (some (t104, 0)) = some (r1, r2) := H
  have A10 := Aside0.mk A100; clear A100
  simp only [Option.some.injEq, Prod.mk.injEq] at H
  obtain ⟨rfl, rfl⟩ := H
  go_enter Try.func20, Try.ntmps20
  go_wp2_with (first | ((with_reducible refine gate_callee (f := 30) rfl ?_); refine gL (some 26) Try.func30 #[.int .u64 (IntKind.u64.wrap (a0)), .int .i64 a1] ?_; (with_reducible refine (wire_bytes.calls (IntKind.u64.wrap (a0)) a1 t104 _ A10.out).mono ?_); rintro e w11 ⟨v105, rfl, ho0, hb⟩; refine ⟨_, rfl, ?_⟩; have HO106 := Aside0.mk (Kd.R_lower ho0 (below_size (uB HB))); replace HB := bs HB hb; (try clear hb); (try clear hb2); (try clear hk); (try clear hi); (try clear ho0)))
  go_ret2
  exact ⟨_, by first | rfl | (simp [errW_none, errW_some] <;> rfl) | (simp only [← hji6, ← hji8]; first | rfl | (simp [errW_none, errW_some] <;> rfl)) | (simp [*, errW_none, errW_some] <;> rfl), by refine rR ?_; exact HO106.out, uB HB⟩
 rw [if_neg c9] at H
 have c9b0 : ((ji8) == 0) = false := beq_eq_false_iff_ne.mpr c9
 have c9b1 : ((ji8) != 0) = true := bne_iff_ne.mpr c9
 simp only [Option.some.injEq, Prod.mk.injEq] at H
 obtain ⟨rfl, rfl⟩ := H
 go_enter Try.func20, Try.ntmps20
 go_wp2
 go_ret2
 exact ⟨_, by first | rfl | (simp [errW_none, errW_some] <;> rfl) | (simp only [← hji6, ← hji8]; first | rfl | (simp [errW_none, errW_some] <;> rfl)) | (simp [*, errW_none, errW_some] <;> rfl), gO, uB HB⟩
def beacon_epoch.f (a0 : Int) : Option (Bool) := if a0 ≥ 0 then (some (decide (a0 ≤ 4294967295))) else (some false)
theorem beacon_epoch.calls (a0 : Int) (r : Bool) (w : World) (h : beacon_epoch.f a0 = some r) :
  Calls Try.prog 71 #[.int .i64 a0] w fun e w' => e = .returned (.bool r) ∧ Drawn0 w w' := by
 have H : (if a0 ≥ 0 then (some (decide (a0 ≤ 4294967295))) else (some false)) = some r := h
 clear h
 by_cases c2 : a0 ≥ 0
 ·rw [if_pos c2] at H
  have c2b0 : decide (0 ≤ a0) = true := decide_eq_true c2; clear c2
  obtain rfl := Option.some.inj H
  go_enter Try.func71, Try.ntmps71
  go_wp2
  go_ret
  exact ⟨by first | rfl | (simp; done) | (simp [*]; done), by repeat (first | exact Drawn0.refl _ | apply Drawn0.step)⟩
 rw [if_neg c2] at H; have c2b0 : decide (0 ≤ a0) = false := decide_eq_false c2; clear c2
 obtain rfl := Option.some.inj H
 go_enter Try.func71, Try.ntmps71
 go_wp2
 go_ret
 exact ⟨by first | rfl | (simp; done) | (simp [*]; done), by repeat (first | exact Drawn0.refl _ | apply Drawn0.step)⟩
def wire_Sum.l0 : Nat → Int → Int → List Int → Int → Int → Option (Int)
 | 0, _, _, _, _, _ => none
 | k + 1, x3, x4, x7, x8, x9 => if x9 < x8 then (if 0 ≤ x9 then (if x9 < (x7.length : Int) then (wire_Sum.l0 k (Int.tmod (wrap64 (x3 + (wrap64 (rd x7 x9)))) 251) (Int.tmod (wrap64 (x4 + (Int.tmod (wrap64 (x3 + (wrap64 (rd x7 x9)))) 251))) 251) x7 x8 (wrap64 (x9 + 1))) else (none)) else (none)) else (some (Go.bits .or .i64 (wrap64 (x4 * 256)) x3))
def wire_Sum.f (k : Nat) (l0 : List Int) : Option (Int) := wire_Sum.l0 k 1 0 l0 (l0.length : Int) 0
theorem wire_Sum.mono_l : ∀ k, (∀ y0 y1 y2 y3 y4, LeO (wire_Sum.l0 k y0 y1 y2 y3 y4) (wire_Sum.l0 (k + 1) y0 y1 y2 y3 y4))
 | 0 => fun _ _ _ _ _ r h => by simp [wire_Sum.l0] at h
 | k + 1 => by
  have ih0 := wire_Sum.mono_l k
  ·intro y0 y1 y2 y3 y4
   unfold wire_Sum.l0
   repeat' first
   | (with_reducible exact ih0 _ _ _ _ _)
   | (with_reducible exact LeO.refl _)
   | (with_reducible exact LeO.none _)
   | (with_reducible refine LeO.ite ?_ ?_)
   | (with_reducible refine LeO.bind ?_ (fun _ => ?_))
   | exact ih0 _ _ _ _ _
   | exact LeO.none _
   | refine LeO.ite ?_ ?_
   | refine LeO.bind ?_ (fun _ => ?_)
theorem wire_Sum.mono : ∀ a0 k, LeO (wire_Sum.f k a0) (wire_Sum.f (k + 1) a0) := by
 intro a0 k
 have ih0 := wire_Sum.mono_l k
 unfold wire_Sum.f
 repeat' first
   | (with_reducible exact ih0 _ _ _ _ _)
   | (with_reducible exact LeO.refl _)
   | (with_reducible exact LeO.none _)
   | (with_reducible refine LeO.ite ?_ ?_)
   | (with_reducible refine LeO.bind ?_ (fun _ => ?_))
   | exact ih0 _ _ _ _ _
   | exact LeO.none _
   | refine LeO.ite ?_ ?_
   | refine LeO.bind ?_ (fun _ => ?_)
theorem wire_Sum.calls (k : Nat) (A0 : Option Addr) (c0 : Nat) (l0 : List Int) (r : Int) (w : World) (hr0 : Kd.C (Kd.int .u8) w A0 l0.length l0) (hc0 : l0.length ≤ c0) (h : wire_Sum.f k l0 = some r) :
  Calls Try.prog 22 #[.slice A0 l0.length c0] w fun e w' => e = .returned (.int .i64 r) ∧ Drawn0 w w' := by
 have HR0 := Aside0.mk hr0; have HC0 := Aside0.mk hc0; clear hr0 hc0
 have H : (wire_Sum.l0 k 1 0 l0 (l0.length : Int) 0) = some r := h
 clear h
 have H' := Aside0.mk H
 clear H
 go_enter Try.func22, Try.ntmps22
 go_wp2
 go_loopg [3, 4, 9] k (fun kq v3 v4 v9 w' => ∃ (x3_1 : Int) (x4_1 : Int) (x9_1 : Int), v3 = .int .i64 x3_1 ∧ v4 = .int .i64 x4_1 ∧ v9 = .int .i64 x9_1 ∧ Aside0 (wire_Sum.l0 kq x3_1 x4_1 l0 (l0.length : Int) x9_1 = some r) ∧ Aside0 (kq ≤ k) ∧ Drawn0 w w')
 case atStart => exact ⟨(1), (0), (0), gv, gv, gv, H', ⟨Nat.le_refl _⟩, by repeat (first | exact Drawn0.refl _ | apply Drawn0.step)⟩
 case round =>
  clear H'
  obtain ⟨x3_1, x4_1, x9_1, rfl, rfl, rfl, HA, HK1, ⟨m1, rfl⟩⟩ := hrel
  cases gk with
  | zero => exact absurd HA.out (by simp [wire_Sum.l0])
  | succ k1 =>
   have H := HA.out
   clear HA
   simp only [wire_Sum.l0] at H
   by_cases c2 : x9_1 < (l0.length : Int)
   ·rw [if_pos c2] at H
    have c2b0 := decide_eq_true c2; clear c2
    by_cases c3 : 0 ≤ x9_1
    rotate_left
    ·rw [if_neg c3] at H
     exact absurd H (by simp)
    rw [if_pos c3] at H; have c3b0 : decide (0 ≤ x9_1) = true := decide_eq_true c3; clear c3
    by_cases c4 : x9_1 < (l0.length : Int)
    rotate_left
    ·rw [if_neg c4] at H
     exact absurd H (by simp)
    rw [if_pos c4] at H; have c4b0 := decide_eq_true c4; clear c4
    have H' := Aside0.mk H
    clear H
    have p292 : 0 ≤ (x9_1 : Int) := of_decide_eq_true gA
    have q292 : x9_1 < (l0.length : Int) := of_decide_eq_true gA
    obtain ⟨ad292, e292, hx292_0⟩ := Kd.at_int HR0.out x9_1 p292 q292
    cases e292
    replace p292 := eq_true p292; replace q292 := eq_true q292
    go_wp2
    go_roundg k1
    case measure => have := HK1.out; omega
    case rel => exact ⟨(Int.tmod (wrap64 (x3_1 + (wrap64 (rd l0 x9_1)))) 251), (Int.tmod (wrap64 (x4_1 + (Int.tmod (wrap64 (x3_1 + (wrap64 (rd l0 x9_1)))) 251))) 251), (wrap64 (x9_1 + 1)), gv, gv, gv, H', ⟨by have := HK1.out; omega⟩, by repeat (first | exact Drawn0.refl _ | apply Drawn0.step)⟩
   rw [if_neg c2] at H
   have c2b0 : decide (x9_1 < (l0.length : Int)) = false := decide_eq_false c2
   clear c2
   obtain rfl := Option.some.inj H
   go_wp2
   go_ret
   exact ⟨by first | rfl | (simp; done) | (simp [*]; done), by repeat (first | exact Drawn0.refl _ | apply Drawn0.step)⟩
theorem eqA48 (d : Nat) (w : World) (x0 y0 : Int) (x1 y1 : Int) (x2 y2 : Int) (x3 y3 : Int) (x4 y4 : ByteArray) :
  (Op.equalIn (d + 2) 48 (.agg #[.int .i64 x0, .int .i64 x1, .int .i64 x2, .int .i64 x3, .string x4]) (.agg #[.int .i64 y0, .int .i64 y1, .int .i64 y2, .int .i64 y3, .string y4])).run Try.prog w = .ok (x0 == y0 && (x1 == y1 && (x2 == y2 && (x3 == y3 && (x4.toList == y4.toList))))) w := by
 refine eqA_of Try.underlying48 (by kernel_rfl) ?_
 refine eqf_cons (by rfl) (by go_simp; rfl) (by go_simp; rfl) (by go_simp) ?_
 refine eqf_cons (by rfl) (by go_simp; rfl) (by go_simp; rfl) (by go_simp) ?_
 refine eqf_cons (by rfl) (by go_simp; rfl) (by go_simp; rfl) (by go_simp) ?_
 refine eqf_cons (by rfl) (by go_simp; rfl) (by go_simp; rfl) (by go_simp) ?_
 exact eqf_last (by rfl) (by go_simp; rfl) (by go_simp; rfl) (by go_simp)
end Go.Proofs.Ytpgmmnlkiogamaa.P
namespace Go.Proofs.Ytpgmmnlkiogamaa.P
open Go.RowKit YtpgmmnlkiogamaaW.PrintWords YtpgmmnlkiogamaaW.PrintLast YtpgmmnlkiogamaaW.PrintMore
attribute [local go_sem high] eqA48
def PB (g : Nat) (v : Array Value) (w : World) : Prop := w.heap[g]? = some (.cells v 50 (0, 0))
theorem cells11 {w : World} {g : Nat} {v0 v1 v2 v3 v4 v5 v6 v7 v8 v9 v10 : Value} (h : PB g #[v0, v1, v2, v3, v4, v5, v6, v7, v8, v9, v10] w) : w.cell? ⟨g, 0, none⟩ = some v0 ∧ w.cell? ⟨g, 1, none⟩ = some v1 ∧ w.cell? ⟨g, 2, none⟩ = some v2 ∧ w.cell? ⟨g, 3, none⟩ = some v3 ∧ w.cell? ⟨g, 4, none⟩ = some v4 ∧ w.cell? ⟨g, 5, none⟩ = some v5 ∧ w.cell? ⟨g, 6, none⟩ = some v6 ∧ w.cell? ⟨g, 7, none⟩ = some v7 ∧ w.cell? ⟨g, 8, none⟩ = some v8 ∧ w.cell? ⟨g, 9, none⟩ = some v9 ∧ w.cell? ⟨g, 10, none⟩ = some v10 := ⟨(blk_cell h 0).trans rfl, (blk_cell h 1).trans rfl, (blk_cell h 2).trans rfl, (blk_cell h 3).trans rfl, (blk_cell h 4).trans rfl, (blk_cell h 5).trans rfl, (blk_cell h 6).trans rfl, (blk_cell h 7).trans rfl, (blk_cell h 8).trans rfl, (blk_cell h 9).trans rfl, (blk_cell h 10).trans rfl⟩
def iem.T1 : Bool × List (List Nat × List Nat) := (true, [([], []), ([0], [0]), ([1], [1]), ([2], [2]), ([3], [3]), ([4], [4]), ([5, 4], [4, 5]), ([6, 4], [4, 6]), ([7, 4], [4, 7]), ([8, 4], [4, 8]), ([4, 9], [4, 9]), ([], []), ([11], [11]), ([12], [12]), ([13], [13]), ([14, 4], [14]), ([15], [15]), ([16, 15], [15, 16]), ([17, 15], [15, 17]), ([18, 15], [15, 18]), ([19, 15], [15, 19]), ([15, 20], [15, 20]), ([], []), ([22], [22]), ([23], [23]), ([24], [24]), ([], []), ([26], [26]), ([], []), ([27, 28], [27, 28]), ([10, 21, 25, 29], [10, 21, 25, 29]), ([30, 15, 0, 1, 2, 3, 4, 5, 6, 7, 8, 9, 10, 11, 12, 13, 14, 15, 16, 17, 18, 19, 20, 21, 22, 23, 24, 25, 26, 27, 28, 29, 30], [30])])
def iem.B1 : List Nat := [0, 1, 3, 7, 15, 31, 63, 127, 255, 511, 1023, 0, 2048, 6144, 14336, 30751, 63519, 129055, 260127, 522271, 1046559, 2095135, 0, 4194304, 12582912, 29360128, 0, 67108864, 0, 469762048, 1073741823, 2147483647]
theorem iem.tab1 : rtab .any (opsOf Try.f39 1) = iem.T1 := by kernel_rfl
theorem iem.bits1 : waitsOk iem.T1.2 iem.B1 = true := by kernel_rfl
theorem empty_tt (a0 a1 a3 b0 b1 b2 b3 : Int) (A2 A4 A5 : Option Addr) (n2 c2 n4 c4 n5 c5 : Nat) (s4 : ByteArray) (w : World) (e1 e2 e3 e4 : Bool) (h1 : (a1 == 0) = true) (g1 : ((n2 : Int) == 0) = e1) (h2 : (a3 == 0) = true) (g2 : ((n4 : Int) == 0) = e2) (h3 : ((n5 : Int) == 0) = e3) (h4 : (b0 == 0 && (b1 == 0 && (b2 == 0 && (b3 == 0 && s4.toList.isEmpty)))) = e4) :
  Calls Try.prog 39 #[.agg #[.int .i64 a0, .int .i64 a1, .slice A2 n2 c2, .int .i64 a3, .slice A4 n4 c4, .slice A5 n5 c5, .int .i64 b0, .int .i64 b1, .int .i64 b2, .int .i64 b3, .string s4]] w fun e w' => e = .returned (.agg #[.bool e1, .bool e2, .bool e3, .bool e4]) ∧ Below w.heap.size w w' := by
 have hu50 := Try.underlying50
 go_enter Try.func39, Try.ntmps39
 go_upto_region 1 with (first
  | ((with_reducible refine gate_dst (N := 1) rfl ?_); refine bx #[.int .i64 a0, .int .i64 a1, .slice A2 n2 c2, .int .i64 a3, .slice A4 n4 c4, .slice A5 n5 c5, .int .i64 b0, .int .i64 b1, .int .i64 b2, .int .i64 b3, .string s4] 50 ?_; intro g1 hg w1 hbox hb; have X1 := Aside0.mk hbox; have L1 := Aside0.mk hb; clear hb hbox hg)
  | ((with_reducible refine gate_dst (N := 2) rfl ?_); refine bx #[.bool false, .bool false, .bool false, .bool false] 78 ?_; intro g2 hg w2 hbox hb; have X2 := Aside0.mk (blk_below X1.out hb); have Y2 := Aside0.mk hbox; have L2 := Aside0.mk (below_step L1.out hb); have N2 := Aside0.mk (show w.heap.size ≤ g2 by rw [hg]; exact L1.out.size); clear hb hbox hg))
 have D2 := Aside0.mk (below_drew L2.out); have YD := Aside0.mk (show w2.drew.heap[g2]? = _ from Y2.out)
 refine start_ (n := 32) (S := fun w' => PB g1 #[.int .i64 a0, .int .i64 a1, .slice A2 n2 c2, .int .i64 a3, .slice A4 n4 c4, .slice A5 n5 c5, .int .i64 b0, .int .i64 b1, .int .i64 b2, .int .i64 b3, .string s4] w') (ds := [31]) #[false, false, false, false, false, false, false, false, false, false, false, false, false, false, false, false, false, false, false, false, false, false, false, false, false, false, false, false, false, false, false, false] (by kernel_rfl) rfl rfl (X2.out) (fun hHeld => ?_); refine with_tabW iem.tab1 iem.bits1 (fun HT_ HW_ => ?_)
 generalize w2.drew = wd at D2 YD hHeld ⊢
 obtain ⟨y0, y1, y2, y3⟩ := cA4 YD; obtain ⟨yf0, yf1, yf2, yf3⟩ := fA4 YD; refine pA 0 (some 3) ?_; refine pA 1 (some 4) ?_; refine pA 11 (some 14) ?_; refine pA 12 (some 15) ?_; refine pA 22 (some 25) ?_; refine pA 26 (some 29) ?_; refine pA 28 (some 31) ?_
 refine take_ (i := 2) (N := some 5) (v := ?_) (a' := ?_) #[true, true, true, false, false, false, false, false, false, false, false, true, true, false, false, false, false, false, false, false, false, false, true, false, false, false, true, false, true, false, false, false] rfl rfl (take_ofW HT_.out HW_.out (by kernel_rfl)) (fun _ _ _ h => h) (Or.inl ⟨by rfl, ?_⟩) hHeld ?_ ?_
 rotate_left
 ·intro w' s0
  obtain ⟨u0, u1, u2, u3, u4, u5, u6, u7, u8, u9, u10⟩ := cells11 s0; clear s0
  go_simp
  with_reducible rfl
 rotate_left
 ·simp only [Act.put, List.setIfInBounds_toArray, List.set_cons_zero, List.set_cons_succ, i64_w, i32_w]
  rfl
 refine pA 3 (some 6) ?_; refine pA 4 (some 7) ?_; refine pA 5 (some 8) ?_; refine pA 6 (some 9) ?_
 refine take_ (i := 7) (N := some 10) (v := ?_) (a' := ?_) #[true, true, true, true, true, true, true, true, false, false, false, true, true, false, false, false, false, false, false, false, false, false, true, false, false, false, true, false, true, false, false, false] rfl rfl (take_ofW HT_.out HW_.out (by kernel_rfl)) (fun _ _ _ h => h) (Or.inl ⟨by rfl, ?_⟩) hHeld ?_ ?_
 rotate_left
 ·intro w' s0
  obtain ⟨u0, u1, u2, u3, u4, u5, u6, u7, u8, u9, u10⟩ := cells11 s0; clear s0
  go_simp
  with_reducible rfl
 rotate_left
 ·simp only [Act.put, List.setIfInBounds_toArray, List.set_cons_zero, List.set_cons_succ, i64_w, i32_w]
  rfl
 refine pA 8 (some 11) ?_; refine pA 9 (some 12) ?_; refine pA 10 (some 13) ?_
 refine take_ (i := 13) (N := some 16) (v := ?_) (a' := ?_) #[true, true, true, true, true, true, true, true, true, true, true, true, true, true, false, false, false, false, false, false, false, false, true, false, false, false, true, false, true, false, false, false] rfl rfl (take_ofW HT_.out HW_.out (by kernel_rfl)) (fun _ _ _ h => h) (Or.inl ⟨by rfl, ?_⟩) hHeld ?_ ?_
 rotate_left
 ·intro w' s0
  obtain ⟨u0, u1, u2, u3, u4, u5, u6, u7, u8, u9, u10⟩ := cells11 s0; clear s0
  go_simp
  with_reducible rfl
 rotate_left
 ·simp only [Act.put, List.setIfInBounds_toArray, List.set_cons_zero, List.set_cons_succ, i64_w, i32_w]
  rfl
 refine pA 14 (some 17) ?_; refine pA 15 (some 18) ?_; refine pA 16 (some 19) ?_; refine pA 17 (some 20) ?_
 refine take_ (i := 18) (N := some 21) (v := ?_) (a' := ?_) #[true, true, true, true, true, true, true, true, true, true, true, true, true, true, true, true, true, true, true, false, false, false, true, false, false, false, true, false, true, false, false, false] rfl rfl (take_ofW HT_.out HW_.out (by kernel_rfl)) (fun _ _ _ h => h) (Or.inl ⟨by rfl, ?_⟩) hHeld ?_ ?_
 rotate_left
 ·intro w' s0
  obtain ⟨u0, u1, u2, u3, u4, u5, u6, u7, u8, u9, u10⟩ := cells11 s0; clear s0
  go_simp
  with_reducible rfl
 rotate_left
 ·simp only [Act.put, List.setIfInBounds_toArray, List.set_cons_zero, List.set_cons_succ, i64_w, i32_w]
  rfl
 refine pA 19 (some 22) ?_; refine pA 20 (some 23) ?_; refine pA 21 (some 24) ?_
 refine take_ (i := 23) (N := some 26) (v := ?_) (a' := ?_) #[true, true, true, true, true, true, true, true, true, true, true, true, true, true, true, true, true, true, true, true, true, true, true, true, false, false, true, false, true, false, false, false] rfl rfl (take_ofW HT_.out HW_.out (by kernel_rfl)) (fun _ _ _ h => h) (Or.inl ⟨by rfl, ?_⟩) hHeld ?_ ?_
 rotate_left
 ·intro w' s0
  obtain ⟨u0, u1, u2, u3, u4, u5, u6, u7, u8, u9, u10⟩ := cells11 s0; clear s0
  go_simp
  with_reducible rfl
 rotate_left
 ·simp only [Act.put, List.setIfInBounds_toArray, List.set_cons_zero, List.set_cons_succ, i64_w, i32_w]
  rfl
 refine pA 24 (some 27) ?_; refine pA 25 (some 28) ?_
 refine take_ (i := 27) (N := some 30) (v := ?_) (a' := ?_) #[true, true, true, true, true, true, true, true, true, true, true, true, true, true, true, true, true, true, true, true, true, true, true, true, true, true, true, true, true, false, false, false] rfl rfl (take_ofW HT_.out HW_.out (by kernel_rfl)) (fun _ _ _ h => h) (Or.inl ⟨by rfl, ?_⟩) hHeld ?_ ?_
 rotate_left
 ·intro w' s0
  obtain ⟨u0, u1, u2, u3, u4, u5, u6, u7, u8, u9, u10⟩ := cells11 s0; clear s0
  go_simp
  with_reducible rfl
 rotate_left
 ·simp only [Act.put, List.setIfInBounds_toArray, List.set_cons_zero, List.set_cons_succ, i64_w, i32_w]
  rfl
 refine pA 29 (some 32) ?_; refine pA 30 (some 33) ?_
 refine last_ (i := 31) (N := none) #[true, true, true, true, true, true, true, true, true, true, true, true, true, true, true, true, true, true, true, true, true, true, true, true, true, true, true, true, true, true, true, true] rfl rfl (one_of HT_.out (by kernel_rfl)) (by decide) (fun K hK => ?_)
 refine skip_ (w1 := ?_) (by rfl) rfl ?_ ?_
 rotate_left
 ·go_simp
  rfl
 refine hK.out _ _ ?_
 clear hK K
 refine dA ?_
 clear HT_ HW_
 try go_wp2
 refine bodyPost_ret (results_single rfl (.cell g2 78 #[.bool e1, .bool e2, .bool e3, .bool e4] (0, 0) _ rfl (blk_put (blk_put (blk_put (blk_put YD.out 0 (.bool e1) (cs' := #[.bool e1, .bool false, .bool false, .bool false]) rfl) 1 (.bool e2) (cs' := #[.bool e1, .bool e2, .bool false, .bool false]) rfl) 2 (.bool e3) (cs' := #[.bool e1, .bool e2, .bool e3, .bool false]) rfl) 3 (.bool e4) (cs' := #[.bool e1, .bool e2, .bool e3, .bool e4]) rfl) Try.underlying78 rfl (by kernel_rfl) .nil)) rfl ?_
 exact ⟨rfl, (below_set (below_set (below_set (below_set D2.out N2.out) N2.out) N2.out) N2.out)⟩
theorem empty_tf (a0 a1 a3 b0 b1 b2 b3 : Int) (A2 A4 A5 : Option Addr) (n2 c2 n4 c4 n5 c5 : Nat) (s4 : ByteArray) (w : World) (e1 e2 e3 e4 : Bool) (h1 : (a1 == 0) = true) (g1 : ((n2 : Int) == 0) = e1) (h2 : (a3 == 0) = false) (h3 : ((n5 : Int) == 0) = e3) (h4 : (b0 == 0 && (b1 == 0 && (b2 == 0 && (b3 == 0 && s4.toList.isEmpty)))) = e4) :
  Calls Try.prog 39 #[.agg #[.int .i64 a0, .int .i64 a1, .slice A2 n2 c2, .int .i64 a3, .slice A4 n4 c4, .slice A5 n5 c5, .int .i64 b0, .int .i64 b1, .int .i64 b2, .int .i64 b3, .string s4]] w fun e w' => e = .returned (.agg #[.bool e1, .bool false, .bool e3, .bool e4]) ∧ Below w.heap.size w w' := by
 have hu50 := Try.underlying50
 go_enter Try.func39, Try.ntmps39
 go_upto_region 1 with (first
  | ((with_reducible refine gate_dst (N := 1) rfl ?_); refine bx #[.int .i64 a0, .int .i64 a1, .slice A2 n2 c2, .int .i64 a3, .slice A4 n4 c4, .slice A5 n5 c5, .int .i64 b0, .int .i64 b1, .int .i64 b2, .int .i64 b3, .string s4] 50 ?_; intro g1 hg w1 hbox hb; have X1 := Aside0.mk hbox; have L1 := Aside0.mk hb; clear hb hbox hg)
  | ((with_reducible refine gate_dst (N := 2) rfl ?_); refine bx #[.bool false, .bool false, .bool false, .bool false] 78 ?_; intro g2 hg w2 hbox hb; have X2 := Aside0.mk (blk_below X1.out hb); have Y2 := Aside0.mk hbox; have L2 := Aside0.mk (below_step L1.out hb); have N2 := Aside0.mk (show w.heap.size ≤ g2 by rw [hg]; exact L1.out.size); clear hb hbox hg))
 have D2 := Aside0.mk (below_drew L2.out); have YD := Aside0.mk (show w2.drew.heap[g2]? = _ from Y2.out)
 refine start_ (n := 32) (S := fun w' => PB g1 #[.int .i64 a0, .int .i64 a1, .slice A2 n2 c2, .int .i64 a3, .slice A4 n4 c4, .slice A5 n5 c5, .int .i64 b0, .int .i64 b1, .int .i64 b2, .int .i64 b3, .string s4] w') (ds := [31]) #[false, false, false, false, false, false, false, false, false, false, false, false, false, false, false, false, false, false, false, false, false, false, false, false, false, false, false, false, false, false, false, false] (by kernel_rfl) rfl rfl (X2.out) (fun hHeld => ?_); refine with_tabW iem.tab1 iem.bits1 (fun HT_ HW_ => ?_)
 generalize w2.drew = wd at D2 YD hHeld ⊢
 obtain ⟨y0, y1, y2, y3⟩ := cA4 YD; obtain ⟨yf0, yf1, yf2, yf3⟩ := fA4 YD; refine pA 0 (some 3) ?_; refine pA 1 (some 4) ?_; refine pA 11 (some 14) ?_; refine pA 12 (some 15) ?_; refine pA 22 (some 25) ?_; refine pA 26 (some 29) ?_; refine pA 28 (some 31) ?_
 refine take_ (i := 2) (N := some 5) (v := ?_) (a' := ?_) #[true, true, true, false, false, false, false, false, false, false, false, true, true, false, false, false, false, false, false, false, false, false, true, false, false, false, true, false, true, false, false, false] rfl rfl (take_ofW HT_.out HW_.out (by kernel_rfl)) (fun _ _ _ h => h) (Or.inl ⟨by rfl, ?_⟩) hHeld ?_ ?_
 rotate_left
 ·intro w' s0
  obtain ⟨u0, u1, u2, u3, u4, u5, u6, u7, u8, u9, u10⟩ := cells11 s0; clear s0
  go_simp
  with_reducible rfl
 rotate_left
 ·simp only [Act.put, List.setIfInBounds_toArray, List.set_cons_zero, List.set_cons_succ, i64_w, i32_w]
  rfl
 refine pA 3 (some 6) ?_; refine pA 4 (some 7) ?_; refine pA 5 (some 8) ?_; refine pA 6 (some 9) ?_
 refine take_ (i := 7) (N := some 10) (v := ?_) (a' := ?_) #[true, true, true, true, true, true, true, true, false, false, false, true, true, false, false, false, false, false, false, false, false, false, true, false, false, false, true, false, true, false, false, false] rfl rfl (take_ofW HT_.out HW_.out (by kernel_rfl)) (fun _ _ _ h => h) (Or.inl ⟨by rfl, ?_⟩) hHeld ?_ ?_
 rotate_left
 ·intro w' s0
  obtain ⟨u0, u1, u2, u3, u4, u5, u6, u7, u8, u9, u10⟩ := cells11 s0; clear s0
  go_simp
  with_reducible rfl
 rotate_left
 ·simp only [Act.put, List.setIfInBounds_toArray, List.set_cons_zero, List.set_cons_succ, i64_w, i32_w]
  rfl
 refine pA 8 (some 11) ?_; refine pA 9 (some 12) ?_; refine pA 10 (some 13) ?_
 refine take_ (i := 13) (N := some 16) (v := ?_) (a' := ?_) #[true, true, true, true, true, true, true, true, true, true, true, true, true, true, false, false, false, false, false, false, false, false, true, false, false, false, true, false, true, false, false, false] rfl rfl (take_ofW HT_.out HW_.out (by kernel_rfl)) (fun _ _ _ h => h) (Or.inl ⟨by rfl, ?_⟩) hHeld ?_ ?_
 rotate_left
 ·intro w' s0
  obtain ⟨u0, u1, u2, u3, u4, u5, u6, u7, u8, u9, u10⟩ := cells11 s0; clear s0
  go_simp
  with_reducible rfl
 rotate_left
 ·simp only [Act.put, List.setIfInBounds_toArray, List.set_cons_zero, List.set_cons_succ, i64_w, i32_w]
  rfl
 refine pA 14 (some 17) ?_; refine pA 15 (some 18) ?_; refine pN 16 (some 19) ?_; refine pN 17 (some 20) ?_; refine pN 18 (some 21) ?_; refine pN 19 (some 22) ?_; refine pN 20 (some 23) ?_; refine pA 21 (some 24) ?_
 refine take_ (i := 23) (N := some 26) (v := ?_) (a' := ?_) #[true, true, true, true, true, true, true, true, true, true, true, true, true, true, true, true, true, true, true, true, true, true, true, true, false, false, true, false, true, false, false, false] rfl rfl (take_ofW HT_.out HW_.out (by kernel_rfl)) (fun _ _ _ h => h) (Or.inl ⟨by rfl, ?_⟩) hHeld ?_ ?_
 rotate_left
 ·intro w' s0
  obtain ⟨u0, u1, u2, u3, u4, u5, u6, u7, u8, u9, u10⟩ := cells11 s0; clear s0
  go_simp
  with_reducible rfl
 rotate_left
 ·simp only [Act.put, List.setIfInBounds_toArray, List.set_cons_zero, List.set_cons_succ, i64_w, i32_w]
  rfl
 refine pA 24 (some 27) ?_; refine pA 25 (some 28) ?_
 refine take_ (i := 27) (N := some 30) (v := ?_) (a' := ?_) #[true, true, true, true, true, true, true, true, true, true, true, true, true, true, true, true, true, true, true, true, true, true, true, true, true, true, true, true, true, false, false, false] rfl rfl (take_ofW HT_.out HW_.out (by kernel_rfl)) (fun _ _ _ h => h) (Or.inl ⟨by rfl, ?_⟩) hHeld ?_ ?_
 rotate_left
 ·intro w' s0
  obtain ⟨u0, u1, u2, u3, u4, u5, u6, u7, u8, u9, u10⟩ := cells11 s0; clear s0
  go_simp
  with_reducible rfl
 rotate_left
 ·simp only [Act.put, List.setIfInBounds_toArray, List.set_cons_zero, List.set_cons_succ, i64_w, i32_w]
  rfl
 refine pA 29 (some 32) ?_; refine pA 30 (some 33) ?_
 refine last_ (i := 31) (N := none) #[true, true, true, true, true, true, true, true, true, true, true, true, true, true, true, true, true, true, true, true, true, true, true, true, true, true, true, true, true, true, true, true] rfl rfl (one_of HT_.out (by kernel_rfl)) (by decide) (fun K hK => ?_)
 refine skip_ (w1 := ?_) (by rfl) rfl ?_ ?_
 rotate_left
 ·go_simp
  rfl
 refine hK.out _ _ ?_
 clear hK K
 refine dA ?_
 clear HT_ HW_
 try go_wp2
 refine bodyPost_ret (results_single rfl (.cell g2 78 #[.bool e1, .bool false, .bool e3, .bool e4] (0, 0) _ rfl (blk_put (blk_put (blk_put (blk_put YD.out 0 (.bool e1) (cs' := #[.bool e1, .bool false, .bool false, .bool false]) rfl) 1 (.bool false) (cs' := #[.bool e1, .bool false, .bool false, .bool false]) rfl) 2 (.bool e3) (cs' := #[.bool e1, .bool false, .bool e3, .bool false]) rfl) 3 (.bool e4) (cs' := #[.bool e1, .bool false, .bool e3, .bool e4]) rfl) Try.underlying78 rfl (by kernel_rfl) .nil)) rfl ?_
 exact ⟨rfl, (below_set (below_set (below_set (below_set D2.out N2.out) N2.out) N2.out) N2.out)⟩
theorem empty_ft (a0 a1 a3 b0 b1 b2 b3 : Int) (A2 A4 A5 : Option Addr) (n2 c2 n4 c4 n5 c5 : Nat) (s4 : ByteArray) (w : World) (e1 e2 e3 e4 : Bool) (h1 : (a1 == 0) = false) (h2 : (a3 == 0) = true) (g2 : ((n4 : Int) == 0) = e2) (h3 : ((n5 : Int) == 0) = e3) (h4 : (b0 == 0 && (b1 == 0 && (b2 == 0 && (b3 == 0 && s4.toList.isEmpty)))) = e4) :
  Calls Try.prog 39 #[.agg #[.int .i64 a0, .int .i64 a1, .slice A2 n2 c2, .int .i64 a3, .slice A4 n4 c4, .slice A5 n5 c5, .int .i64 b0, .int .i64 b1, .int .i64 b2, .int .i64 b3, .string s4]] w fun e w' => e = .returned (.agg #[.bool false, .bool e2, .bool e3, .bool e4]) ∧ Below w.heap.size w w' := by
 have hu50 := Try.underlying50
 go_enter Try.func39, Try.ntmps39
 go_upto_region 1 with (first
  | ((with_reducible refine gate_dst (N := 1) rfl ?_); refine bx #[.int .i64 a0, .int .i64 a1, .slice A2 n2 c2, .int .i64 a3, .slice A4 n4 c4, .slice A5 n5 c5, .int .i64 b0, .int .i64 b1, .int .i64 b2, .int .i64 b3, .string s4] 50 ?_; intro g1 hg w1 hbox hb; have X1 := Aside0.mk hbox; have L1 := Aside0.mk hb; clear hb hbox hg)
  | ((with_reducible refine gate_dst (N := 2) rfl ?_); refine bx #[.bool false, .bool false, .bool false, .bool false] 78 ?_; intro g2 hg w2 hbox hb; have X2 := Aside0.mk (blk_below X1.out hb); have Y2 := Aside0.mk hbox; have L2 := Aside0.mk (below_step L1.out hb); have N2 := Aside0.mk (show w.heap.size ≤ g2 by rw [hg]; exact L1.out.size); clear hb hbox hg))
 have D2 := Aside0.mk (below_drew L2.out); have YD := Aside0.mk (show w2.drew.heap[g2]? = _ from Y2.out)
 refine start_ (n := 32) (S := fun w' => PB g1 #[.int .i64 a0, .int .i64 a1, .slice A2 n2 c2, .int .i64 a3, .slice A4 n4 c4, .slice A5 n5 c5, .int .i64 b0, .int .i64 b1, .int .i64 b2, .int .i64 b3, .string s4] w') (ds := [31]) #[false, false, false, false, false, false, false, false, false, false, false, false, false, false, false, false, false, false, false, false, false, false, false, false, false, false, false, false, false, false, false, false] (by kernel_rfl) rfl rfl (X2.out) (fun hHeld => ?_); refine with_tabW iem.tab1 iem.bits1 (fun HT_ HW_ => ?_)
 generalize w2.drew = wd at D2 YD hHeld ⊢
 obtain ⟨y0, y1, y2, y3⟩ := cA4 YD; obtain ⟨yf0, yf1, yf2, yf3⟩ := fA4 YD; refine pA 0 (some 3) ?_; refine pA 1 (some 4) ?_; refine pA 11 (some 14) ?_; refine pA 12 (some 15) ?_; refine pA 22 (some 25) ?_; refine pA 26 (some 29) ?_; refine pA 28 (some 31) ?_
 refine take_ (i := 2) (N := some 5) (v := ?_) (a' := ?_) #[true, true, true, false, false, false, false, false, false, false, false, true, true, false, false, false, false, false, false, false, false, false, true, false, false, false, true, false, true, false, false, false] rfl rfl (take_ofW HT_.out HW_.out (by kernel_rfl)) (fun _ _ _ h => h) (Or.inl ⟨by rfl, ?_⟩) hHeld ?_ ?_
 rotate_left
 ·intro w' s0
  obtain ⟨u0, u1, u2, u3, u4, u5, u6, u7, u8, u9, u10⟩ := cells11 s0; clear s0
  go_simp
  with_reducible rfl
 rotate_left
 ·simp only [Act.put, List.setIfInBounds_toArray, List.set_cons_zero, List.set_cons_succ, i64_w, i32_w]
  rfl
 refine pA 3 (some 6) ?_; refine pA 4 (some 7) ?_; refine pN 5 (some 8) ?_; refine pN 6 (some 9) ?_; refine pN 7 (some 10) ?_; refine pN 8 (some 11) ?_; refine pN 9 (some 12) ?_; refine pA 10 (some 13) ?_
 refine take_ (i := 13) (N := some 16) (v := ?_) (a' := ?_) #[true, true, true, true, true, true, true, true, true, true, true, true, true, true, false, false, false, false, false, false, false, false, true, false, false, false, true, false, true, false, false, false] rfl rfl (take_ofW HT_.out HW_.out (by kernel_rfl)) (fun _ _ _ h => h) (Or.inl ⟨by rfl, ?_⟩) hHeld ?_ ?_
 rotate_left
 ·intro w' s0
  obtain ⟨u0, u1, u2, u3, u4, u5, u6, u7, u8, u9, u10⟩ := cells11 s0; clear s0
  go_simp
  with_reducible rfl
 rotate_left
 ·simp only [Act.put, List.setIfInBounds_toArray, List.set_cons_zero, List.set_cons_succ, i64_w, i32_w]
  rfl
 refine pA 14 (some 17) ?_; refine pA 15 (some 18) ?_; refine pA 16 (some 19) ?_; refine pA 17 (some 20) ?_
 refine take_ (i := 18) (N := some 21) (v := ?_) (a' := ?_) #[true, true, true, true, true, true, true, true, true, true, true, true, true, true, true, true, true, true, true, false, false, false, true, false, false, false, true, false, true, false, false, false] rfl rfl (take_ofW HT_.out HW_.out (by kernel_rfl)) (fun _ _ _ h => h) (Or.inl ⟨by rfl, ?_⟩) hHeld ?_ ?_
 rotate_left
 ·intro w' s0
  obtain ⟨u0, u1, u2, u3, u4, u5, u6, u7, u8, u9, u10⟩ := cells11 s0; clear s0
  go_simp
  with_reducible rfl
 rotate_left
 ·simp only [Act.put, List.setIfInBounds_toArray, List.set_cons_zero, List.set_cons_succ, i64_w, i32_w]
  rfl
 refine pA 19 (some 22) ?_; refine pA 20 (some 23) ?_; refine pA 21 (some 24) ?_
 refine take_ (i := 23) (N := some 26) (v := ?_) (a' := ?_) #[true, true, true, true, true, true, true, true, true, true, true, true, true, true, true, true, true, true, true, true, true, true, true, true, false, false, true, false, true, false, false, false] rfl rfl (take_ofW HT_.out HW_.out (by kernel_rfl)) (fun _ _ _ h => h) (Or.inl ⟨by rfl, ?_⟩) hHeld ?_ ?_
 rotate_left
 ·intro w' s0
  obtain ⟨u0, u1, u2, u3, u4, u5, u6, u7, u8, u9, u10⟩ := cells11 s0; clear s0
  go_simp
  with_reducible rfl
 rotate_left
 ·simp only [Act.put, List.setIfInBounds_toArray, List.set_cons_zero, List.set_cons_succ, i64_w, i32_w]
  rfl
 refine pA 24 (some 27) ?_; refine pA 25 (some 28) ?_
 refine take_ (i := 27) (N := some 30) (v := ?_) (a' := ?_) #[true, true, true, true, true, true, true, true, true, true, true, true, true, true, true, true, true, true, true, true, true, true, true, true, true, true, true, true, true, false, false, false] rfl rfl (take_ofW HT_.out HW_.out (by kernel_rfl)) (fun _ _ _ h => h) (Or.inl ⟨by rfl, ?_⟩) hHeld ?_ ?_
 rotate_left
 ·intro w' s0
  obtain ⟨u0, u1, u2, u3, u4, u5, u6, u7, u8, u9, u10⟩ := cells11 s0; clear s0
  go_simp
  with_reducible rfl
 rotate_left
 ·simp only [Act.put, List.setIfInBounds_toArray, List.set_cons_zero, List.set_cons_succ, i64_w, i32_w]
  rfl
 refine pA 29 (some 32) ?_; refine pA 30 (some 33) ?_
 refine last_ (i := 31) (N := none) #[true, true, true, true, true, true, true, true, true, true, true, true, true, true, true, true, true, true, true, true, true, true, true, true, true, true, true, true, true, true, true, true] rfl rfl (one_of HT_.out (by kernel_rfl)) (by decide) (fun K hK => ?_)
 refine skip_ (w1 := ?_) (by rfl) rfl ?_ ?_
 rotate_left
 ·go_simp
  rfl
 refine hK.out _ _ ?_
 clear hK K
 refine dA ?_
 clear HT_ HW_
 try go_wp2
 refine bodyPost_ret (results_single rfl (.cell g2 78 #[.bool false, .bool e2, .bool e3, .bool e4] (0, 0) _ rfl (blk_put (blk_put (blk_put (blk_put YD.out 0 (.bool false) (cs' := #[.bool false, .bool false, .bool false, .bool false]) rfl) 1 (.bool e2) (cs' := #[.bool false, .bool e2, .bool false, .bool false]) rfl) 2 (.bool e3) (cs' := #[.bool false, .bool e2, .bool e3, .bool false]) rfl) 3 (.bool e4) (cs' := #[.bool false, .bool e2, .bool e3, .bool e4]) rfl) Try.underlying78 rfl (by kernel_rfl) .nil)) rfl ?_
 exact ⟨rfl, (below_set (below_set (below_set (below_set D2.out N2.out) N2.out) N2.out) N2.out)⟩
theorem empty_ff (a0 a1 a3 b0 b1 b2 b3 : Int) (A2 A4 A5 : Option Addr) (n2 c2 n4 c4 n5 c5 : Nat) (s4 : ByteArray) (w : World) (e1 e2 e3 e4 : Bool) (h1 : (a1 == 0) = false) (h2 : (a3 == 0) = false) (h3 : ((n5 : Int) == 0) = e3) (h4 : (b0 == 0 && (b1 == 0 && (b2 == 0 && (b3 == 0 && s4.toList.isEmpty)))) = e4) :
  Calls Try.prog 39 #[.agg #[.int .i64 a0, .int .i64 a1, .slice A2 n2 c2, .int .i64 a3, .slice A4 n4 c4, .slice A5 n5 c5, .int .i64 b0, .int .i64 b1, .int .i64 b2, .int .i64 b3, .string s4]] w fun e w' => e = .returned (.agg #[.bool false, .bool false, .bool e3, .bool e4]) ∧ Below w.heap.size w w' := by
 have hu50 := Try.underlying50
 go_enter Try.func39, Try.ntmps39
 go_upto_region 1 with (first
  | ((with_reducible refine gate_dst (N := 1) rfl ?_); refine bx #[.int .i64 a0, .int .i64 a1, .slice A2 n2 c2, .int .i64 a3, .slice A4 n4 c4, .slice A5 n5 c5, .int .i64 b0, .int .i64 b1, .int .i64 b2, .int .i64 b3, .string s4] 50 ?_; intro g1 hg w1 hbox hb; have X1 := Aside0.mk hbox; have L1 := Aside0.mk hb; clear hb hbox hg)
  | ((with_reducible refine gate_dst (N := 2) rfl ?_); refine bx #[.bool false, .bool false, .bool false, .bool false] 78 ?_; intro g2 hg w2 hbox hb; have X2 := Aside0.mk (blk_below X1.out hb); have Y2 := Aside0.mk hbox; have L2 := Aside0.mk (below_step L1.out hb); have N2 := Aside0.mk (show w.heap.size ≤ g2 by rw [hg]; exact L1.out.size); clear hb hbox hg))
 have D2 := Aside0.mk (below_drew L2.out); have YD := Aside0.mk (show w2.drew.heap[g2]? = _ from Y2.out)
 refine start_ (n := 32) (S := fun w' => PB g1 #[.int .i64 a0, .int .i64 a1, .slice A2 n2 c2, .int .i64 a3, .slice A4 n4 c4, .slice A5 n5 c5, .int .i64 b0, .int .i64 b1, .int .i64 b2, .int .i64 b3, .string s4] w') (ds := [31]) #[false, false, false, false, false, false, false, false, false, false, false, false, false, false, false, false, false, false, false, false, false, false, false, false, false, false, false, false, false, false, false, false] (by kernel_rfl) rfl rfl (X2.out) (fun hHeld => ?_); refine with_tabW iem.tab1 iem.bits1 (fun HT_ HW_ => ?_)
 generalize w2.drew = wd at D2 YD hHeld ⊢
 obtain ⟨y0, y1, y2, y3⟩ := cA4 YD; obtain ⟨yf0, yf1, yf2, yf3⟩ := fA4 YD; refine pA 0 (some 3) ?_; refine pA 1 (some 4) ?_; refine pA 11 (some 14) ?_; refine pA 12 (some 15) ?_; refine pA 22 (some 25) ?_; refine pA 26 (some 29) ?_; refine pA 28 (some 31) ?_
 refine take_ (i := 2) (N := some 5) (v := ?_) (a' := ?_) #[true, true, true, false, false, false, false, false, false, false, false, true, true, false, false, false, false, false, false, false, false, false, true, false, false, false, true, false, true, false, false, false] rfl rfl (take_ofW HT_.out HW_.out (by kernel_rfl)) (fun _ _ _ h => h) (Or.inl ⟨by rfl, ?_⟩) hHeld ?_ ?_
 rotate_left
 ·intro w' s0
  obtain ⟨u0, u1, u2, u3, u4, u5, u6, u7, u8, u9, u10⟩ := cells11 s0; clear s0
  go_simp
  with_reducible rfl
 rotate_left
 ·simp only [Act.put, List.setIfInBounds_toArray, List.set_cons_zero, List.set_cons_succ, i64_w, i32_w]
  rfl
 refine pA 3 (some 6) ?_; refine pA 4 (some 7) ?_; refine pN 5 (some 8) ?_; refine pN 6 (some 9) ?_; refine pN 7 (some 10) ?_; refine pN 8 (some 11) ?_; refine pN 9 (some 12) ?_; refine pA 10 (some 13) ?_
 refine take_ (i := 13) (N := some 16) (v := ?_) (a' := ?_) #[true, true, true, true, true, true, true, true, true, true, true, true, true, true, false, false, false, false, false, false, false, false, true, false, false, false, true, false, true, false, false, false] rfl rfl (take_ofW HT_.out HW_.out (by kernel_rfl)) (fun _ _ _ h => h) (Or.inl ⟨by rfl, ?_⟩) hHeld ?_ ?_
 rotate_left
 ·intro w' s0
  obtain ⟨u0, u1, u2, u3, u4, u5, u6, u7, u8, u9, u10⟩ := cells11 s0; clear s0
  go_simp
  with_reducible rfl
 rotate_left
 ·simp only [Act.put, List.setIfInBounds_toArray, List.set_cons_zero, List.set_cons_succ, i64_w, i32_w]
  rfl
 refine pA 14 (some 17) ?_; refine pA 15 (some 18) ?_; refine pN 16 (some 19) ?_; refine pN 17 (some 20) ?_; refine pN 18 (some 21) ?_; refine pN 19 (some 22) ?_; refine pN 20 (some 23) ?_; refine pA 21 (some 24) ?_
 refine take_ (i := 23) (N := some 26) (v := ?_) (a' := ?_) #[true, true, true, true, true, true, true, true, true, true, true, true, true, true, true, true, true, true, true, true, true, true, true, true, false, false, true, false, true, false, false, false] rfl rfl (take_ofW HT_.out HW_.out (by kernel_rfl)) (fun _ _ _ h => h) (Or.inl ⟨by rfl, ?_⟩) hHeld ?_ ?_
 rotate_left
 ·intro w' s0
  obtain ⟨u0, u1, u2, u3, u4, u5, u6, u7, u8, u9, u10⟩ := cells11 s0; clear s0
  go_simp
  with_reducible rfl
 rotate_left
 ·simp only [Act.put, List.setIfInBounds_toArray, List.set_cons_zero, List.set_cons_succ, i64_w, i32_w]
  rfl
 refine pA 24 (some 27) ?_; refine pA 25 (some 28) ?_
 refine take_ (i := 27) (N := some 30) (v := ?_) (a' := ?_) #[true, true, true, true, true, true, true, true, true, true, true, true, true, true, true, true, true, true, true, true, true, true, true, true, true, true, true, true, true, false, false, false] rfl rfl (take_ofW HT_.out HW_.out (by kernel_rfl)) (fun _ _ _ h => h) (Or.inl ⟨by rfl, ?_⟩) hHeld ?_ ?_
 rotate_left
 ·intro w' s0
  obtain ⟨u0, u1, u2, u3, u4, u5, u6, u7, u8, u9, u10⟩ := cells11 s0; clear s0
  go_simp
  with_reducible rfl
 rotate_left
 ·simp only [Act.put, List.setIfInBounds_toArray, List.set_cons_zero, List.set_cons_succ, i64_w, i32_w]
  rfl
 refine pA 29 (some 32) ?_; refine pA 30 (some 33) ?_
 refine last_ (i := 31) (N := none) #[true, true, true, true, true, true, true, true, true, true, true, true, true, true, true, true, true, true, true, true, true, true, true, true, true, true, true, true, true, true, true, true] rfl rfl (one_of HT_.out (by kernel_rfl)) (by decide) (fun K hK => ?_)
 refine skip_ (w1 := ?_) (by rfl) rfl ?_ ?_
 rotate_left
 ·go_simp
  rfl
 refine hK.out _ _ ?_
 clear hK K
 refine dA ?_
 clear HT_ HW_
 try go_wp2
 refine bodyPost_ret (results_single rfl (.cell g2 78 #[.bool false, .bool false, .bool e3, .bool e4] (0, 0) _ rfl (blk_put (blk_put (blk_put (blk_put YD.out 0 (.bool false) (cs' := #[.bool false, .bool false, .bool false, .bool false]) rfl) 1 (.bool false) (cs' := #[.bool false, .bool false, .bool false, .bool false]) rfl) 2 (.bool e3) (cs' := #[.bool false, .bool false, .bool e3, .bool false]) rfl) 3 (.bool e4) (cs' := #[.bool false, .bool false, .bool e3, .bool e4]) rfl) Try.underlying78 rfl (by kernel_rfl) .nil)) rfl ?_
 exact ⟨rfl, (below_set (below_set (below_set (below_set D2.out N2.out) N2.out) N2.out) N2.out)⟩
theorem empty_a (a0 a1 a3 b0 b1 b2 b3 : Int) (A2 A4 A5 : Option Addr) (n2 c2 n4 c4 n5 c5 : Nat) (s4 : ByteArray) (w : World) (e1 e2 e3 e4 : Bool) (h1 : (a1 == 0 && ((n2 : Int) == 0)) = e1) (h2 : (a3 == 0 && ((n4 : Int) == 0)) = e2) (h3 : ((n5 : Int) == 0) = e3) (h4 : (b0 == 0 && (b1 == 0 && (b2 == 0 && (b3 == 0 && s4.toList.isEmpty)))) = e4) :
  Calls Try.prog 39 #[.agg #[.int .i64 a0, .int .i64 a1, .slice A2 n2 c2, .int .i64 a3, .slice A4 n4 c4, .slice A5 n5 c5, .int .i64 b0, .int .i64 b1, .int .i64 b2, .int .i64 b3, .string s4]] w fun e w' => e = .returned (.agg #[.bool e1, .bool e2, .bool e3, .bool e4]) ∧ Below w.heap.size w w' := by
 cases g1 : (a1 == 0) <;> cases g2 : (a3 == 0) <;> rw [g1] at h1 <;> rw [g2] at h2
 ·rw [← show false = e1 from h1, ← show false = e2 from h2]; exact empty_ff a0 a1 a3 b0 b1 b2 b3 A2 A4 A5 n2 c2 n4 c4 n5 c5 s4 w true true e3 e4 g1 g2 h3 h4
 ·rw [← show false = e1 from h1]; exact empty_ft a0 a1 a3 b0 b1 b2 b3 A2 A4 A5 n2 c2 n4 c4 n5 c5 s4 w true e2 e3 e4 g1 g2 (by simpa using h2) h3 h4
 ·rw [← show false = e2 from h2]; exact empty_tf a0 a1 a3 b0 b1 b2 b3 A2 A4 A5 n2 c2 n4 c4 n5 c5 s4 w e1 true e3 e4 g1 (by simpa using h1) g2 h3 h4
 ·exact empty_tt a0 a1 a3 b0 b1 b2 b3 A2 A4 A5 n2 c2 n4 c4 n5 c5 s4 w e1 e2 e3 e4 g1 (by simpa using h1) g2 (by simpa using h2) h3 h4
end Go.Proofs.Ytpgmmnlkiogamaa.P
namespace Go.Proofs.Ytpgmmnlkiogamaa.P
open Go.MapKept Go.RowKit YtpgmmnlkiogamaaW.PrintWords YtpgmmnlkiogamaaW.PrintLast YtpgmmnlkiogamaaW.PrintMore
section
variable {P : Program} {w : World} {mty kt et : TypeId} {r clock : Nat} {es : Array MapEntry}
theorem ins_new (hm : P.underlying mty = some (.map kt et)) (hd : P.underlying kt = some (.int .i64)) (hb : w.heap[r]? = some (.map es clock)) (n : Int) (val : Value) (h1 : Instr.findNow (.int .i64) (.int .i64 n) es.toList 0 = some none) :
  ∃ w', (Instr.mapUpdate mty (.map (some r)) (.int .i64 n) val).run P w = .ok () w' ∧ w'.heap[r]? = some (.map (es.push { key := .int .i64 n, val := val, born := clock }) (clock + 1)) ∧ w.grownBy w' (some r) := by
 have hk : IsKey (.int .i64) (.int .i64 n) := by first | exact ⟨_, rfl⟩ | trivial | simp [IsKey]
 refine ⟨{ w with heap := w.heap.setIfInBounds r (.map (es.push { key := .int .i64 n, val := val, born := clock }) (clock + 1)) }, by simp [Instr.mapUpdate, run_underlying hm, Go.MapKept.run_getObj_map hb, run_checkKey hd hk, run_findKey hd h1, Go.MapKept.run_setObj_map _ hb, Result.andThen], (heap_set hb).1, ⟨rfl, rfl, rfl, by simp, fun k hk hn => (heap_set hb).2 k (fun e => hn (by rw [e]))⟩⟩
theorem look_at (hm : P.underlying mty = some (.map kt et)) (hd : P.underlying kt = some (.int .i64)) (hb : w.heap[r]? = some (.map es clock)) (n : Int) (i : Nat) (v : Value) (h1 : Instr.findNow (.int .i64) (.int .i64 n) es.toList 0 = some (some (i, v))) :
  (Instr.lookup mty (.map (some r)) (.int .i64 n) true).run P w = .ok (.tuple #[v, .bool true]) w := by
 have hk : IsKey (.int .i64) (.int .i64 n) := by first | exact ⟨_, rfl⟩ | trivial | simp [IsKey]
 simp [Instr.lookup, run_underlying hm, Go.MapKept.run_getObj_map hb, run_checkKey hd hk, run_findKey hd h1, Result.andThen]
theorem look_no (hm : P.underlying mty = some (.map kt et)) (hd : P.underlying kt = some (.int .i64)) (hb : w.heap[r]? = some (.map es clock)) (n : Int) (z : Value) (hz : (zeroValue et).run P w = .ok z w) (h1 : Instr.findNow (.int .i64) (.int .i64 n) es.toList 0 = some none) :
  (Instr.lookup mty (.map (some r)) (.int .i64 n) true).run P w = .ok (.tuple #[z, .bool false]) w := by
 have hk : IsKey (.int .i64) (.int .i64 n) := by first | exact ⟨_, rfl⟩ | trivial | simp [IsKey]
 simp [Instr.lookup, run_underlying hm, Go.MapKept.run_getObj_map hb, run_checkKey hd hk, run_findKey hd h1, hz, Result.andThen]
end
end Go.Proofs.Ytpgmmnlkiogamaa.P
namespace Go.Proofs.Ytpgmmnlkiogamaa.P
open Go.RowKit YtpgmmnlkiogamaaW.PrintWords YtpgmmnlkiogamaaW.PrintLast YtpgmmnlkiogamaaW.PrintMore
attribute [local go_sem] max2_int min2_int max_two min_two max_three min_three max_four min_four
def beacon_Check.l0 : Nat → Bool → List (S101) → Int → Int → Int → List (S101) → Option (Int)
 | 0, _, _, _, _, _, _ => none
 | k + 1, x3, x10, x11, x12, x108000, x108001 => if x12 < x11 then (if 0 ≤ x12 then (if x12 < (x10.length : Int) then (if x3 = true then (if ((rd_T101 x10 x12).f0) ≥ 0 then (if ((rd_T101 x10 x12).f0) < 64 then ((beacon_epoch.f ((rd_T101 x10 x12).f1)).bind fun t111 => (if t111 = true then (if x12 = 0 then (beacon_Check.l0 k true x10 x11 (wrap64 (x12 + 1)) x108000 x108001) else (if 0 ≤ (wrap64 (x12 - 1)) then (if (wrap64 (x12 - 1)) < (x108001.length : Int) then (beacon_Check.l0 k (decide (((rd_T101 x108001 (wrap64 (x12 - 1))).f0) < ((rd_T101 x10 x12).f0))) x10 x11 (wrap64 (x12 + 1)) x108000 x108001) else (none)) else (none))) else (beacon_Check.l0 k false x10 x11 (wrap64 (x12 + 1)) x108000 x108001))) else (beacon_Check.l0 k false x10 x11 (wrap64 (x12 + 1)) x108000 x108001)) else (beacon_Check.l0 k false x10 x11 (wrap64 (x12 + 1)) x108000 x108001)) else (beacon_Check.l0 k false x10 x11 (wrap64 (x12 + 1)) x108000 x108001)) else (none)) else (none)) else (if x3 = true then (some 0) else (some 1))
def beacon_Check.f (k : Nat) (a0_0 : Int) (l0_1 : List (S101)) : Option (Int) := (beacon_epoch.f a0_0).bind fun t108 => (beacon_Check.l0 k t108 l0_1 (l0_1.length : Int) 0 a0_0 l0_1)
theorem beacon_Check.mono_l : ∀ k, (∀ y0 y1 y2 y3 y4 y5, LeO (beacon_Check.l0 k y0 y1 y2 y3 y4 y5) (beacon_Check.l0 (k + 1) y0 y1 y2 y3 y4 y5))
 | 0 => fun _ _ _ _ _ _ r h => by simp [beacon_Check.l0] at h
 | k + 1 => by
  have ih0 := beacon_Check.mono_l k
  ·intro y0 y1 y2 y3 y4 y5
   unfold beacon_Check.l0
   repeat' first
   | (with_reducible exact ih0 _ _ _ _ _ _)
   | (with_reducible exact LeO.refl _)
   | (with_reducible exact LeO.none _)
   | (with_reducible refine LeO.ite ?_ ?_)
   | (with_reducible refine LeO.bind ?_ (fun _ => ?_))
   | exact ih0 _ _ _ _ _ _
   | exact LeO.none _
   | refine LeO.ite ?_ ?_
   | refine LeO.bind ?_ (fun _ => ?_)
theorem beacon_Check.mono : ∀ a0 a1 k, LeO (beacon_Check.f k a0 a1) (beacon_Check.f (k + 1) a0 a1) := by
 intro a0 a1 k
 have ih0 := beacon_Check.mono_l k
 unfold beacon_Check.f
 repeat' first
   | (with_reducible exact ih0 _ _ _ _ _ _)
   | (with_reducible exact LeO.refl _)
   | (with_reducible exact LeO.none _)
   | (with_reducible refine LeO.ite ?_ ?_)
   | (with_reducible refine LeO.bind ?_ (fun _ => ?_))
   | exact ih0 _ _ _ _ _ _
   | exact LeO.none _
   | refine LeO.ite ?_ ?_
   | refine LeO.bind ?_ (fun _ => ?_)
def beacon_Check.T5 : Bool × List (List Nat × List Nat) := (true, [([], []), ([0], [0]), ([1], [1]), ([2, 1], [1, 2]), ([3, 1], [1, 3]), ([1, 4], [1, 4]), ([5, 1], [5]), ([6], [6]), ([7, 6], [6, 7]), ([8, 6], [6, 8]), ([6, 9], [6, 9]), ([10, 6], [10]), ([11], [11]), ([12, 11], [11, 12]), ([13, 11, 11], [11, 13]), ([11, 14], [11, 14]), ([15, 14], [15]), ([16], [16]), ([17, 16], [16, 17]), ([18, 16, 16], [16, 18]), ([19], [19]), ([20, 19], [19, 20]), ([19], [19]), ([22, 19], [19, 22]), ([21, 23, 19], [19, 21, 23]), ([24, 19], [19, 24]), ([25, 19], [19, 25]), ([19], [19]), ([27, 19], [19, 27]), ([26, 28, 19], [19, 26, 28]), ([19, 29, 16], [16, 19, 29]), ([16, 30], [16, 30]), ([31, 19, 0, 1, 2, 3, 4, 5, 6, 7, 8, 9, 10, 11, 12, 13, 14, 15, 16, 17, 18, 19, 20, 21, 22, 23, 24, 25, 26, 27, 28, 29, 30, 31], [0, 31])])
def beacon_Check.B5 : List Nat := [0, 1, 3, 7, 15, 31, 63, 127, 255, 511, 1023, 2047, 4095, 8191, 16383, 32767, 65535, 131071, 262143, 524287, 1048575, 2097151, 1048575, 5242879, 16777215, 33554431, 67108863, 1048575, 135266303, 536870911, 1073741823, 2147483647, 4294967295]
theorem beacon_Check.tab5 : rtab .any (opsOf Try.f52 5) = beacon_Check.T5 := by kernel_rfl
theorem beacon_Check.bits5 : waitsOk beacon_Check.T5.2 beacon_Check.B5 = true := by kernel_rfl
theorem beacon_Check.calls (k : Nat) (a0_0 : Int) (A0_1 : Option Addr) (c0_1 : Nat) (l0_1 : List (S101)) (r : Int) (w : World) (hr0_1 : Kd.C k101 w A0_1 l0_1.length l0_1) (hc0_1 : l0_1.length ≤ c0_1) (h : beacon_Check.f k a0_0 l0_1 = some r) :
  Calls Try.prog 52 #[.agg #[.int .i64 a0_0, .slice A0_1 l0_1.length c0_1]] w fun e w' => e = .returned (.int .i64 r) ∧ Below w.heap.size w w' := by
 have hu42 := Try.underlying42; have hu101 := Try.underlying101; have HR0_1 := Aside0.mk hr0_1; have HC0_1 := Aside0.mk hc0_1; clear hr0_1 hc0_1; have HB := Aside0.mk (Below.refl w.heap.size w)
 have H : ((beacon_epoch.f a0_0).bind fun t108 => (beacon_Check.l0 k t108 l0_1 (l0_1.length : Int) 0 a0_0 l0_1)) = some r := h
 clear h; replace H := Option.bind_eq_some_iff.mp H; obtain ⟨t108, A20, H⟩ := H
 replace H : (beacon_Check.l0 k t108 l0_1 (l0_1.length : Int) 0 a0_0 l0_1) = some r := H
 have A2 := Aside0.mk A20; clear A20
 have H' := Aside0.mk H
 clear H
 go_enter Try.func52, Try.ntmps52
 go_wp2_with (first | ((with_reducible refine gate_dst (N := 1) rfl ?_); refine bx #[.int .i64 a0_0, .slice A0_1 l0_1.length c0_1] 42 ?_; intro gb107 hg w3 hbox hb; have BK107 := Aside0.mk hbox; have GW107 := ge HB hg; have GE107 := ge HB hg; replace HB := bs HB hb; clear hb hbox hg; obtain ⟨q4_0, q4_1⟩ := cA2 BK107; obtain ⟨f4_0, f4_1⟩ := fA2 BK107) | ((with_reducible refine gate_callee (f := 71) rfl ?_); refine gL (some 8) Try.func71 #[.int .i64 a0_0] ?_; (with_reducible refine (beacon_epoch.calls a0_0 t108 _ A2.out).mono ?_); rintro e w' ⟨rfl, ⟨nd, rfl⟩⟩; refine ⟨_, rfl, ?_⟩))
 go_loopg [3, 12] k (fun kq v3 v12 w' => ∃ (x3_1 : Bool) (x12_1 : Int), v3 = .bool x3_1 ∧ v12 = .int .i64 x12_1 ∧ Aside0 (beacon_Check.l0 kq x3_1 l0_1 (l0_1.length : Int) x12_1 a0_0 l0_1 = some r) ∧ Aside0 (kq ≤ k) ∧ Aside0 (w'.heap[gb107]? = some (.cells #[.int .i64 a0_0, (.slice A0_1 l0_1.length c0_1)] 42 (0, 0))) ∧ Aside0 (Below w.heap.size w w'))
 case atStart => exact ⟨(t108), (0), gv, gv, H', ⟨Nat.le_refl _⟩, ⟨uK BK107⟩, ⟨uB HB⟩⟩
 case round =>
  clear H'; (try clear p2); (try clear q4_0); (try clear q4_1); (try clear f4_0); (try clear f4_1); obtain ⟨x3_1, x12_1, rfl, rfl, HA, HK1, BK107, HB⟩ := hrel
  cases gk with
  | zero => exact absurd HA.out (by simp [beacon_Check.l0])
  | succ k1 =>
   have H := HA.out
   clear HA
   simp only [beacon_Check.l0] at H
   by_cases c5 : x12_1 < (l0_1.length : Int)
   ·rw [if_pos c5] at H
    have c5b0 := decide_eq_true c5; clear c5
    by_cases c6 : 0 ≤ x12_1
    rotate_left
    ·rw [if_neg c6] at H
     exact absurd H (by simp)
    rw [if_pos c6] at H; have c6b0 : decide (0 ≤ x12_1) = true := decide_eq_true c6; clear c6
    by_cases c7 : x12_1 < (l0_1.length : Int)
    rotate_left
    ·rw [if_neg c7] at H
     exact absurd H (by simp)
    rw [if_pos c7] at H; have c7b0 := decide_eq_true c7; clear c7
    by_cases c8 : x3_1 = true
    ·subst c8
     rw [if_pos rfl] at H
     by_cases c9 : ((rd_T101 l0_1 x12_1).f0) ≥ 0
     ·rw [if_pos c9] at H
      have c9b0 : decide (0 ≤ ((rd_T101 l0_1 x12_1).f0)) = true := decide_eq_true c9; clear c9
      by_cases c10 : ((rd_T101 l0_1 x12_1).f0) < 64
      ·rw [if_pos c10] at H
       have c10b0 : decide (((rd_T101 l0_1 x12_1).f0) < 64) = true := decide_eq_true c10; clear c10; replace H := Option.bind_eq_some_iff.mp H; obtain ⟨t111, A110, H⟩ := H
       replace H : (if t111 = true then (if x12_1 = 0 then (beacon_Check.l0 k1 true l0_1 (l0_1.length : Int) (wrap64 (x12_1 + 1)) a0_0 l0_1) else (if 0 ≤ (wrap64 (x12_1 - 1)) then (if (wrap64 (x12_1 - 1)) < (l0_1.length : Int) then (beacon_Check.l0 k1 (decide (((rd_T101 l0_1 (wrap64 (x12_1 - 1))).f0) < ((rd_T101 l0_1 x12_1).f0))) l0_1 (l0_1.length : Int) (wrap64 (x12_1 + 1)) a0_0 l0_1) else (none)) else (none))) else (beacon_Check.l0 k1 false l0_1 (l0_1.length : Int) (wrap64 (x12_1 + 1)) a0_0 l0_1)) = some r := H
       have A11 := Aside0.mk A110; clear A110
       by_cases c12 : t111 = true
       ·subst c12
        rw [if_pos rfl] at H
        by_cases c13 : x12_1 = 0
        ·rw [if_pos c13] at H
         have c13b0 : (x12_1 == 0) = true := beq_iff_eq.mpr c13
         have c13b1 : (x12_1 != 0) = false := bne_eq_false_iff_eq.mpr c13
         clear c13
         have H' := Aside0.mk H
         clear H
         have p109 : 0 ≤ (x12_1 : Int) := of_decide_eq_true gA
         have q109 : x12_1 < (l0_1.length : Int) := of_decide_eq_true gA
         obtain ⟨ad109, e109, hx109_0, hx109_1⟩ := at_T101 HR0_1.out x12_1 p109 q109
         cases e109
         replace hx109_0 := bc HB hx109_0; replace hx109_1 := bc HB hx109_1; replace p109 := eq_true p109; replace q109 := eq_true q109
         try go_wp2_with (first | ((with_reducible refine gate_dst (N := 5) rfl ?_); refine bx #[.int .i64 0, .int .i64 0] 101 ?_; intro gb110 hg w14 hbox hb; have BK110 := Aside0.mk hbox; have GW110 := ge HB hg; have GE110 := ge HB hg; replace HB := bs HB hb; have NB107_110 := nL BK107 hg; have NB110_107 := nG BK107 hg; replace BK107 := kb BK107 hb; clear hb hbox hg; have hnb15 := NB110_107.out; have hnc15 := NB107_110.out; obtain ⟨q16_0, q16_1⟩ := cA2 BK110; obtain ⟨f16_0, f16_1⟩ := fA2 BK110))
         have n0_ : Aside0 (((w14.setCell ⟨gb110, 0, none⟩ (.int .i64 ((rd_T101 l0_1 x12_1).f0))).setCell ⟨gb110, 1, none⟩ (.int .i64 ((rd_T101 l0_1 x12_1).f1))).heap[gb107]? = some (.cells #[.int .i64 a0_0, .slice (some ad109) l0_1.length c0_1] 42 (0, 0))) := ⟨by refine rK ?_; refine blk_far ?_ NB107_110.out _; refine rK ?_; refine blk_far ?_ NB107_110.out _; refine rK ?_; exact BK107.out⟩
         have n1_ : Aside0 (((w14.setCell ⟨gb110, 0, none⟩ (.int .i64 ((rd_T101 l0_1 x12_1).f0))).setCell ⟨gb110, 1, none⟩ (.int .i64 ((rd_T101 l0_1 x12_1).f1))).heap[gb110]? = some (.cells #[.int .i64 ((rd_T101 l0_1 x12_1).f0), .int .i64 ((rd_T101 l0_1 x12_1).f1)] 101 (0, 0))) := ⟨by refine rK ?_; refine blk_put (cs := #[.int .i64 ((rd_T101 l0_1 x12_1).f0), .int .i64 0]) ?_ 1 _ rfl; refine rK ?_; refine blk_put (cs := #[.int .i64 0, .int .i64 0]) ?_ 0 _ rfl; refine rK ?_; exact BK110.out⟩
         have n2_ : Aside0 (Below w.heap.size w ((w14.setCell ⟨gb110, 0, none⟩ (.int .i64 ((rd_T101 l0_1 x12_1).f0))).setCell ⟨gb110, 1, none⟩ (.int .i64 ((rd_T101 l0_1 x12_1).f1)))) := ⟨uB HB⟩
         (try clear BK107); (try clear BK110); (try clear HB)
         generalize ((w14.setCell ⟨gb110, 0, none⟩ (.int .i64 ((rd_T101 l0_1 x12_1).f0))).setCell ⟨gb110, 1, none⟩ (.int .i64 ((rd_T101 l0_1 x12_1).f1))) = w17 at n0_ n1_ n2_ ⊢
         have BK107 := n0_; have BK110 := n1_; have HB := n2_; clear n0_ n1_ n2_; replace BK107 := Aside0.mk (blk_drew BK107.out); replace BK110 := Aside0.mk (blk_drew BK110.out); replace HB := Aside0.mk (below_drew1 HB.out)
         refine start_ (n := 33) (S := fun w' => w'.cell? ⟨gb110, 0, none⟩ = some (.int .i64 ((rd_T101 l0_1 x12_1).f0)) ∧ w'.cell? ⟨gb110, 1, none⟩ = some (.int .i64 ((rd_T101 l0_1 x12_1).f1))) (ds := []) #[false, false, false, false, false, false, false, false, false, false, false, false, false, false, false, false, false, false, false, false, false, false, false, false, false, false, false, false, false, false, false, false, false] (by kernel_rfl) rfl rfl (cA2 BK110) (fun hHeld => ?_)
         refine with_tabW beacon_Check.tab5 beacon_Check.bits5 (fun HT_ HW_ => ?_)
         generalize w17.drew = w18 at BK107 BK110 HB hHeld ⊢
         refine pA 0 (some 17) ?_; refine pA 1 (some 18) ?_; refine pA 2 (some 19) ?_; refine tA 3 (some 20) ?_; refine pA 4 (some 21) ?_; refine pA 5 (some 22) ?_; refine pA 6 (some 23) ?_; refine pA 7 (some 24) ?_; refine tA 8 (some 25) ?_; refine pA 9 (some 26) ?_; refine pA 10 (some 27) ?_; refine pA 11 (some 28) ?_; refine pA 12 (some 29) ?_; refine tA 13 (some 30) ?_
         refine oA 14 (some 31) (fun K hK => ?_)
         refine gR Try.func71 #[.int .i64 ((rd_T101 l0_1 x12_1).f1)] ?_
         with_reducible refine (beacon_epoch.calls ((rd_T101 l0_1 x12_1).f1) true _ A11.out).mono ?_
         rintro e w' ⟨rfl, ⟨nd, rfl⟩⟩
         refine ⟨_, rfl, ?_⟩
         refine hK.out _ _ (cA2 BK110) (fun hHeld => ?_)
         clear hK K; refine nA 31 ?_; refine pA 15 (some 32) ?_; refine pA 16 (some 33) ?_; refine pA 17 (some 34) ?_; refine pA 18 (some 35) ?_; refine pA 19 (some 36) ?_; refine pN 20 (some 37) ?_; refine pN 21 (some 38) ?_; refine pN 22 (some 39) ?_; refine pN 23 (some 40) ?_; refine pN 24 (some 41) ?_; refine pN 25 (some 42) ?_; refine pN 26 (some 43) ?_; refine pN 27 (some 44) ?_; refine pN 28 (some 45) ?_; refine pN 29 (some 46) ?_; refine pA 30 (some 47) ?_; refine pA 31 (some 48) ?_; refine pA 32 (some 3) ?_
         refine dA ?_
         try go_wp2
         go_roundg k1
         case measure => have := HK1.out; omega
         case rel => exact ⟨(true), (wrap64 (x12_1 + 1)), gv, gv, H', ⟨by have := HK1.out; omega⟩, ⟨uK BK107⟩, ⟨uB HB⟩⟩
        rw [if_neg c13] at H
        have c13b0 : (x12_1 == 0) = false := beq_eq_false_iff_ne.mpr c13
        have c13b1 : (x12_1 != 0) = true := bne_iff_ne.mpr c13
        obtain ⟨ji19, hji19⟩ : ∃ j_ : Int, (wrap64 (x12_1 - 1)) = j_ := ⟨_, rfl⟩
        replace H : (if 0 ≤ (ji19) then (if (ji19) < (l0_1.length : Int) then (beacon_Check.l0 k1 (decide (((rd_T101 l0_1 (ji19)).f0) < ((rd_T101 l0_1 x12_1).f0))) l0_1 (l0_1.length : Int) (wrap64 (x12_1 + 1)) a0_0 l0_1) else (none)) else (none)) = some r := by first | (rw [hji19] at H; exact H) | (simp only [hji19] at H ⊢; exact H)
        (try rw [hji19] at A11)
        have hji19w : (IntKind.i64.wrap (x12_1 - 1)) = ji19 := (i64_w _).trans hji19
        by_cases c20 : 0 ≤ (ji19)
        rotate_left
        ·rw [if_neg c20] at H
         exact absurd H (by simp)
        rw [if_pos c20] at H; have c20b0 : decide (0 ≤ (ji19)) = true := decide_eq_true c20; clear c20
        by_cases c21 : (ji19) < (l0_1.length : Int)
        rotate_left
        ·rw [if_neg c21] at H
         exact absurd H (by simp)
        rw [if_pos c21] at H; have c21b0 := decide_eq_true c21; clear c21
        have H' := Aside0.mk H
        clear H
        have p109 : 0 ≤ (x12_1 : Int) := of_decide_eq_true gA
        have q109 : x12_1 < (l0_1.length : Int) := of_decide_eq_true gA
        obtain ⟨ad109, e109, hx109_0, hx109_1⟩ := at_T101 HR0_1.out x12_1 p109 q109
        cases e109
        replace hx109_0 := bc HB hx109_0; replace hx109_1 := bc HB hx109_1; replace p109 := eq_true p109; replace q109 := eq_true q109
        try go_wp2_with (first | ((with_reducible refine gate_dst (N := 5) rfl ?_); refine bx #[.int .i64 0, .int .i64 0] 101 ?_; intro gb110 hg w22 hbox hb; have BK110 := Aside0.mk hbox; have GW110 := ge HB hg; have GE110 := ge HB hg; replace HB := bs HB hb; have NB107_110 := nL BK107 hg; have NB110_107 := nG BK107 hg; replace BK107 := kb BK107 hb; clear hb hbox hg; have hnb23 := NB110_107.out; have hnc23 := NB107_110.out; obtain ⟨q24_0, q24_1⟩ := cA2 BK110; obtain ⟨f24_0, f24_1⟩ := fA2 BK110))
        have n0_ : Aside0 (((w22.setCell ⟨gb110, 0, none⟩ (.int .i64 ((rd_T101 l0_1 x12_1).f0))).setCell ⟨gb110, 1, none⟩ (.int .i64 ((rd_T101 l0_1 x12_1).f1))).heap[gb107]? = some (.cells #[.int .i64 a0_0, .slice (some ad109) l0_1.length c0_1] 42 (0, 0))) := ⟨by refine rK ?_; refine blk_far ?_ NB107_110.out _; refine rK ?_; refine blk_far ?_ NB107_110.out _; refine rK ?_; exact BK107.out⟩
        have n1_ : Aside0 (((w22.setCell ⟨gb110, 0, none⟩ (.int .i64 ((rd_T101 l0_1 x12_1).f0))).setCell ⟨gb110, 1, none⟩ (.int .i64 ((rd_T101 l0_1 x12_1).f1))).heap[gb110]? = some (.cells #[.int .i64 ((rd_T101 l0_1 x12_1).f0), .int .i64 ((rd_T101 l0_1 x12_1).f1)] 101 (0, 0))) := ⟨by refine rK ?_; refine blk_put (cs := #[.int .i64 ((rd_T101 l0_1 x12_1).f0), .int .i64 0]) ?_ 1 _ rfl; refine rK ?_; refine blk_put (cs := #[.int .i64 0, .int .i64 0]) ?_ 0 _ rfl; refine rK ?_; exact BK110.out⟩
        have n2_ : Aside0 (Below w.heap.size w ((w22.setCell ⟨gb110, 0, none⟩ (.int .i64 ((rd_T101 l0_1 x12_1).f0))).setCell ⟨gb110, 1, none⟩ (.int .i64 ((rd_T101 l0_1 x12_1).f1)))) := ⟨uB HB⟩
        (try clear BK107); (try clear BK110); (try clear HB)
        generalize ((w22.setCell ⟨gb110, 0, none⟩ (.int .i64 ((rd_T101 l0_1 x12_1).f0))).setCell ⟨gb110, 1, none⟩ (.int .i64 ((rd_T101 l0_1 x12_1).f1))) = w25 at n0_ n1_ n2_ ⊢
        have BK107 := n0_; have BK110 := n1_; have HB := n2_; clear n0_ n1_ n2_; replace BK107 := Aside0.mk (blk_drew BK107.out); replace BK110 := Aside0.mk (blk_drew BK110.out); replace HB := Aside0.mk (below_drew1 HB.out)
        have p112 : 0 ≤ ((ji19) : Int) := of_decide_eq_true gA
        have q112 : (ji19) < (l0_1.length : Int) := of_decide_eq_true gA
        obtain ⟨ad112, e112, hx112_0, hx112_1⟩ := at_T101 HR0_1.out (ji19) p112 q112; have hw112_1 := hx112_1; have hw112_0 := hx112_0
        obtain rfl : ad109 = ad112 := (by injection e112)
        replace hx112_0 := bc HB hx112_0; replace hx112_1 := bc HB hx112_1; replace p112 := eq_true p112; replace q112 := eq_true q112
        refine start_ (n := 33) (S := fun w' => w'.cell? ⟨gb110, 0, none⟩ = some (.int .i64 ((rd_T101 l0_1 x12_1).f0)) ∧ w'.cell? ⟨gb110, 1, none⟩ = some (.int .i64 ((rd_T101 l0_1 x12_1).f1)) ∧ w'.cell? ⟨gb107, 0, none⟩ = some (.int .i64 a0_0) ∧ w'.cell? ⟨gb107, 1, none⟩ = some (.slice (some ad109) l0_1.length c0_1) ∧ w'.cell? (ad109.add (((ji19)).toNat * 2)) = some (.int .i64 ((rd_T101 l0_1 (ji19)).f0)) ∧ w'.cell? ⟨(ad109.add (((ji19)).toNat * 2)).block, (ad109.add (((ji19)).toNat * 2)).off + 1, none⟩ = some (.int .i64 ((rd_T101 l0_1 (ji19)).f1))) (ds := []) #[false, false, false, false, false, false, false, false, false, false, false, false, false, false, false, false, false, false, false, false, false, false, false, false, false, false, false, false, false, false, false, false, false] (by kernel_rfl) rfl rfl ⟨(blk_cell BK110.out 0).trans rfl, (blk_cell BK110.out 1).trans rfl, (blk_cell BK107.out 0).trans rfl, (blk_cell BK107.out 1).trans rfl, ((HB.out.cell (World.block_lt_of_cell? w _ hw112_0)).trans hw112_0), ((HB.out.cell (World.block_lt_of_cell? w _ hw112_1)).trans hw112_1)⟩ (fun hHeld => ?_)
        refine with_tabW beacon_Check.tab5 beacon_Check.bits5 (fun HT_ HW_ => ?_)
        generalize w25.drew = w26 at BK107 BK110 HB hx112_0 hx112_1 hHeld ⊢
        refine pA 0 (some 17) ?_; refine pA 1 (some 18) ?_; refine pA 2 (some 19) ?_; refine tA 3 (some 20) ?_; refine pA 4 (some 21) ?_; refine pA 5 (some 22) ?_; refine pA 6 (some 23) ?_; refine pA 7 (some 24) ?_; refine tA 8 (some 25) ?_; refine pA 9 (some 26) ?_; refine pA 10 (some 27) ?_; refine pA 11 (some 28) ?_; refine pA 12 (some 29) ?_; refine tA 13 (some 30) ?_
        refine oA 14 (some 31) (fun K hK => ?_)
        refine gR Try.func71 #[.int .i64 ((rd_T101 l0_1 x12_1).f1)] ?_
        with_reducible refine (beacon_epoch.calls ((rd_T101 l0_1 x12_1).f1) true _ A11.out).mono ?_
        rintro e w' ⟨rfl, ⟨nd, rfl⟩⟩
        refine ⟨_, rfl, ?_⟩
        refine hK.out _ _ ⟨(blk_cell BK110.out 0).trans rfl, (blk_cell BK110.out 1).trans rfl, (blk_cell BK107.out 0).trans rfl, (blk_cell BK107.out 1).trans rfl, ((HB.out.cell (World.block_lt_of_cell? w _ hw112_0)).trans hw112_0), ((HB.out.cell (World.block_lt_of_cell? w _ hw112_1)).trans hw112_1)⟩ (fun hHeld => ?_)
        clear hK K; refine nA 31 ?_; refine pA 15 (some 32) ?_; refine pA 16 (some 33) ?_; refine pA 17 (some 34) ?_; refine pA 18 (some 35) ?_; refine pA 19 (some 36) ?_; refine pA 20 (some 37) ?_; refine pA 22 (some 39) ?_; refine pA 23 (some 40) ?_; refine pA 27 (some 44) ?_; refine tA 21 (some 38) ?_; refine pA 24 (some 41) ?_; refine pA 25 (some 42) ?_; refine tA 26 (some 43) ?_; refine tA 28 (some 45) ?_; refine pA 29 (some 46) ?_; refine pA 30 (some 47) ?_; refine pA 31 (some 48) ?_; refine pA 32 (some 3) ?_
        refine dA ?_
        try go_wp2
        go_roundg k1
        case measure => have := HK1.out; omega
        case rel => exact ⟨(decide (((rd_T101 l0_1 (ji19)).f0) < ((rd_T101 l0_1 x12_1).f0))), (wrap64 (x12_1 + 1)), (by first | rfl | (simp; done) | (simp only [← hji19] <;> (first | rfl | simp)) | (simp [*]; done)), gv, H', ⟨by have := HK1.out; omega⟩, ⟨uK BK107⟩, ⟨uB HB⟩⟩
       replace c12 := Bool.eq_false_iff.mpr c12
       subst c12
       rw [if_neg (show ¬ (false = true) by decide)] at H
       have H' := Aside0.mk H
       clear H
       have p109 : 0 ≤ (x12_1 : Int) := of_decide_eq_true gA
       have q109 : x12_1 < (l0_1.length : Int) := of_decide_eq_true gA
       obtain ⟨ad109, e109, hx109_0, hx109_1⟩ := at_T101 HR0_1.out x12_1 p109 q109
       cases e109
       replace hx109_0 := bc HB hx109_0; replace hx109_1 := bc HB hx109_1; replace p109 := eq_true p109; replace q109 := eq_true q109
       try go_wp2_with (first | ((with_reducible refine gate_dst (N := 5) rfl ?_); refine bx #[.int .i64 0, .int .i64 0] 101 ?_; intro gb110 hg w27 hbox hb; have BK110 := Aside0.mk hbox; have GW110 := ge HB hg; have GE110 := ge HB hg; replace HB := bs HB hb; have NB107_110 := nL BK107 hg; have NB110_107 := nG BK107 hg; replace BK107 := kb BK107 hb; clear hb hbox hg; have hnb28 := NB110_107.out; have hnc28 := NB107_110.out; obtain ⟨q29_0, q29_1⟩ := cA2 BK110; obtain ⟨f29_0, f29_1⟩ := fA2 BK110))
       have n0_ : Aside0 (((w27.setCell ⟨gb110, 0, none⟩ (.int .i64 ((rd_T101 l0_1 x12_1).f0))).setCell ⟨gb110, 1, none⟩ (.int .i64 ((rd_T101 l0_1 x12_1).f1))).heap[gb107]? = some (.cells #[.int .i64 a0_0, .slice (some ad109) l0_1.length c0_1] 42 (0, 0))) := ⟨by refine rK ?_; refine blk_far ?_ NB107_110.out _; refine rK ?_; refine blk_far ?_ NB107_110.out _; refine rK ?_; exact BK107.out⟩
       have n1_ : Aside0 (((w27.setCell ⟨gb110, 0, none⟩ (.int .i64 ((rd_T101 l0_1 x12_1).f0))).setCell ⟨gb110, 1, none⟩ (.int .i64 ((rd_T101 l0_1 x12_1).f1))).heap[gb110]? = some (.cells #[.int .i64 ((rd_T101 l0_1 x12_1).f0), .int .i64 ((rd_T101 l0_1 x12_1).f1)] 101 (0, 0))) := ⟨by refine rK ?_; refine blk_put (cs := #[.int .i64 ((rd_T101 l0_1 x12_1).f0), .int .i64 0]) ?_ 1 _ rfl; refine rK ?_; refine blk_put (cs := #[.int .i64 0, .int .i64 0]) ?_ 0 _ rfl; refine rK ?_; exact BK110.out⟩
       have n2_ : Aside0 (Below w.heap.size w ((w27.setCell ⟨gb110, 0, none⟩ (.int .i64 ((rd_T101 l0_1 x12_1).f0))).setCell ⟨gb110, 1, none⟩ (.int .i64 ((rd_T101 l0_1 x12_1).f1)))) := ⟨uB HB⟩
       (try clear BK107); (try clear BK110); (try clear HB)
       generalize ((w27.setCell ⟨gb110, 0, none⟩ (.int .i64 ((rd_T101 l0_1 x12_1).f0))).setCell ⟨gb110, 1, none⟩ (.int .i64 ((rd_T101 l0_1 x12_1).f1))) = w30 at n0_ n1_ n2_ ⊢
       have BK107 := n0_; have BK110 := n1_; have HB := n2_; clear n0_ n1_ n2_; replace BK107 := Aside0.mk (blk_drew BK107.out); replace BK110 := Aside0.mk (blk_drew BK110.out); replace HB := Aside0.mk (below_drew1 HB.out)
       refine start_ (n := 33) (S := fun w' => w'.cell? ⟨gb110, 0, none⟩ = some (.int .i64 ((rd_T101 l0_1 x12_1).f0)) ∧ w'.cell? ⟨gb110, 1, none⟩ = some (.int .i64 ((rd_T101 l0_1 x12_1).f1))) (ds := []) #[false, false, false, false, false, false, false, false, false, false, false, false, false, false, false, false, false, false, false, false, false, false, false, false, false, false, false, false, false, false, false, false, false] (by kernel_rfl) rfl rfl (cA2 BK110) (fun hHeld => ?_)
       refine with_tabW beacon_Check.tab5 beacon_Check.bits5 (fun HT_ HW_ => ?_)
       generalize w30.drew = w31 at BK107 BK110 HB hHeld ⊢
       refine pA 0 (some 17) ?_; refine pA 1 (some 18) ?_; refine pA 2 (some 19) ?_; refine tA 3 (some 20) ?_; refine pA 4 (some 21) ?_; refine pA 5 (some 22) ?_; refine pA 6 (some 23) ?_; refine pA 7 (some 24) ?_; refine tA 8 (some 25) ?_; refine pA 9 (some 26) ?_; refine pA 10 (some 27) ?_; refine pA 11 (some 28) ?_; refine pA 12 (some 29) ?_; refine tA 13 (some 30) ?_
       refine oA 14 (some 31) (fun K hK => ?_)
       refine gR Try.func71 #[.int .i64 ((rd_T101 l0_1 x12_1).f1)] ?_
       with_reducible refine (beacon_epoch.calls ((rd_T101 l0_1 x12_1).f1) false _ A11.out).mono ?_
       rintro e w' ⟨rfl, ⟨nd, rfl⟩⟩
       refine ⟨_, rfl, ?_⟩
       refine hK.out _ _ (cA2 BK110) (fun hHeld => ?_)
       clear hK K; refine nA 31 ?_; refine pA 15 (some 32) ?_; refine pA 16 (some 33) ?_; refine pN 17 (some 34) ?_; refine pN 18 (some 35) ?_; refine pN 19 (some 36) ?_; refine pN 20 (some 37) ?_; refine pN 21 (some 38) ?_; refine pN 22 (some 39) ?_; refine pN 23 (some 40) ?_; refine pN 24 (some 41) ?_; refine pN 25 (some 42) ?_; refine pN 26 (some 43) ?_; refine pN 27 (some 44) ?_; refine pN 28 (some 45) ?_; refine pN 29 (some 46) ?_; refine pN 30 (some 47) ?_; refine pA 31 (some 48) ?_; refine pA 32 (some 3) ?_
       refine dA ?_
       try go_wp2
       go_roundg k1
       case measure => have := HK1.out; omega
       case rel => exact ⟨(false), (wrap64 (x12_1 + 1)), gv, gv, H', ⟨by have := HK1.out; omega⟩, ⟨uK BK107⟩, ⟨uB HB⟩⟩
      rw [if_neg c10] at H; have c10b0 : decide (((rd_T101 l0_1 x12_1).f0) < 64) = false := decide_eq_false c10; clear c10
      have H' := Aside0.mk H
      clear H
      have p109 : 0 ≤ (x12_1 : Int) := of_decide_eq_true gA
      have q109 : x12_1 < (l0_1.length : Int) := of_decide_eq_true gA
      obtain ⟨ad109, e109, hx109_0, hx109_1⟩ := at_T101 HR0_1.out x12_1 p109 q109
      cases e109
      replace hx109_0 := bc HB hx109_0; replace hx109_1 := bc HB hx109_1; replace p109 := eq_true p109; replace q109 := eq_true q109
      try go_wp2_with (first | ((with_reducible refine gate_dst (N := 5) rfl ?_); refine bx #[.int .i64 0, .int .i64 0] 101 ?_; intro gb110 hg w32 hbox hb; have BK110 := Aside0.mk hbox; have GW110 := ge HB hg; have GE110 := ge HB hg; replace HB := bs HB hb; have NB107_110 := nL BK107 hg; have NB110_107 := nG BK107 hg; replace BK107 := kb BK107 hb; clear hb hbox hg; have hnb33 := NB110_107.out; have hnc33 := NB107_110.out; obtain ⟨q34_0, q34_1⟩ := cA2 BK110; obtain ⟨f34_0, f34_1⟩ := fA2 BK110))
      have n0_ : Aside0 (((w32.setCell ⟨gb110, 0, none⟩ (.int .i64 ((rd_T101 l0_1 x12_1).f0))).setCell ⟨gb110, 1, none⟩ (.int .i64 ((rd_T101 l0_1 x12_1).f1))).heap[gb107]? = some (.cells #[.int .i64 a0_0, .slice (some ad109) l0_1.length c0_1] 42 (0, 0))) := ⟨by refine rK ?_; refine blk_far ?_ NB107_110.out _; refine rK ?_; refine blk_far ?_ NB107_110.out _; refine rK ?_; exact BK107.out⟩
      have n1_ : Aside0 (((w32.setCell ⟨gb110, 0, none⟩ (.int .i64 ((rd_T101 l0_1 x12_1).f0))).setCell ⟨gb110, 1, none⟩ (.int .i64 ((rd_T101 l0_1 x12_1).f1))).heap[gb110]? = some (.cells #[.int .i64 ((rd_T101 l0_1 x12_1).f0), .int .i64 ((rd_T101 l0_1 x12_1).f1)] 101 (0, 0))) := ⟨by refine rK ?_; refine blk_put (cs := #[.int .i64 ((rd_T101 l0_1 x12_1).f0), .int .i64 0]) ?_ 1 _ rfl; refine rK ?_; refine blk_put (cs := #[.int .i64 0, .int .i64 0]) ?_ 0 _ rfl; refine rK ?_; exact BK110.out⟩
      have n2_ : Aside0 (Below w.heap.size w ((w32.setCell ⟨gb110, 0, none⟩ (.int .i64 ((rd_T101 l0_1 x12_1).f0))).setCell ⟨gb110, 1, none⟩ (.int .i64 ((rd_T101 l0_1 x12_1).f1)))) := ⟨uB HB⟩
      (try clear BK107); (try clear BK110); (try clear HB)
      generalize ((w32.setCell ⟨gb110, 0, none⟩ (.int .i64 ((rd_T101 l0_1 x12_1).f0))).setCell ⟨gb110, 1, none⟩ (.int .i64 ((rd_T101 l0_1 x12_1).f1))) = w35 at n0_ n1_ n2_ ⊢
      have BK107 := n0_; have BK110 := n1_; have HB := n2_; clear n0_ n1_ n2_; replace BK107 := Aside0.mk (blk_drew BK107.out); replace BK110 := Aside0.mk (blk_drew BK110.out); replace HB := Aside0.mk (below_drew1 HB.out)
      refine start_ (n := 33) (S := fun w' => w'.cell? ⟨gb110, 0, none⟩ = some (.int .i64 ((rd_T101 l0_1 x12_1).f0)) ∧ w'.cell? ⟨gb110, 1, none⟩ = some (.int .i64 ((rd_T101 l0_1 x12_1).f1))) (ds := []) #[false, false, false, false, false, false, false, false, false, false, false, false, false, false, false, false, false, false, false, false, false, false, false, false, false, false, false, false, false, false, false, false, false] (by kernel_rfl) rfl rfl (cA2 BK110) (fun hHeld => ?_)
      refine with_tabW beacon_Check.tab5 beacon_Check.bits5 (fun HT_ HW_ => ?_)
      generalize w35.drew = w36 at BK107 BK110 HB hHeld ⊢
      refine pA 0 (some 17) ?_; refine pA 1 (some 18) ?_; refine pA 2 (some 19) ?_; refine tA 3 (some 20) ?_; refine pA 4 (some 21) ?_; refine pA 5 (some 22) ?_; refine pA 6 (some 23) ?_; refine pA 7 (some 24) ?_; refine tA 8 (some 25) ?_; refine pA 9 (some 26) ?_; refine pA 10 (some 27) ?_; refine pA 11 (some 28) ?_; refine pN 12 (some 29) ?_; refine pN 13 (some 30) ?_; refine pN 14 (some 31) ?_; refine pA 15 (some 32) ?_; refine pA 16 (some 33) ?_; refine pN 17 (some 34) ?_; refine pN 18 (some 35) ?_; refine pN 19 (some 36) ?_; refine pN 20 (some 37) ?_; refine pN 21 (some 38) ?_; refine pN 22 (some 39) ?_; refine pN 23 (some 40) ?_; refine pN 24 (some 41) ?_; refine pN 25 (some 42) ?_; refine pN 26 (some 43) ?_; refine pN 27 (some 44) ?_; refine pN 28 (some 45) ?_; refine pN 29 (some 46) ?_; refine pN 30 (some 47) ?_; refine pA 31 (some 48) ?_; refine pA 32 (some 3) ?_
      refine dA ?_
      try go_wp2
      go_roundg k1
      case measure => have := HK1.out; omega
      case rel => exact ⟨(false), (wrap64 (x12_1 + 1)), gv, gv, H', ⟨by have := HK1.out; omega⟩, ⟨uK BK107⟩, ⟨uB HB⟩⟩
     rw [if_neg c9] at H; have c9b0 : decide (0 ≤ ((rd_T101 l0_1 x12_1).f0)) = false := decide_eq_false c9; clear c9
     have H' := Aside0.mk H
     clear H
     have p109 : 0 ≤ (x12_1 : Int) := of_decide_eq_true gA
     have q109 : x12_1 < (l0_1.length : Int) := of_decide_eq_true gA
     obtain ⟨ad109, e109, hx109_0, hx109_1⟩ := at_T101 HR0_1.out x12_1 p109 q109
     cases e109
     replace hx109_0 := bc HB hx109_0; replace hx109_1 := bc HB hx109_1; replace p109 := eq_true p109; replace q109 := eq_true q109
     try go_wp2_with (first | ((with_reducible refine gate_dst (N := 5) rfl ?_); refine bx #[.int .i64 0, .int .i64 0] 101 ?_; intro gb110 hg w37 hbox hb; have BK110 := Aside0.mk hbox; have GW110 := ge HB hg; have GE110 := ge HB hg; replace HB := bs HB hb; have NB107_110 := nL BK107 hg; have NB110_107 := nG BK107 hg; replace BK107 := kb BK107 hb; clear hb hbox hg; have hnb38 := NB110_107.out; have hnc38 := NB107_110.out; obtain ⟨q39_0, q39_1⟩ := cA2 BK110; obtain ⟨f39_0, f39_1⟩ := fA2 BK110))
     have n0_ : Aside0 (((w37.setCell ⟨gb110, 0, none⟩ (.int .i64 ((rd_T101 l0_1 x12_1).f0))).setCell ⟨gb110, 1, none⟩ (.int .i64 ((rd_T101 l0_1 x12_1).f1))).heap[gb107]? = some (.cells #[.int .i64 a0_0, .slice (some ad109) l0_1.length c0_1] 42 (0, 0))) := ⟨by refine rK ?_; refine blk_far ?_ NB107_110.out _; refine rK ?_; refine blk_far ?_ NB107_110.out _; refine rK ?_; exact BK107.out⟩
     have n1_ : Aside0 (((w37.setCell ⟨gb110, 0, none⟩ (.int .i64 ((rd_T101 l0_1 x12_1).f0))).setCell ⟨gb110, 1, none⟩ (.int .i64 ((rd_T101 l0_1 x12_1).f1))).heap[gb110]? = some (.cells #[.int .i64 ((rd_T101 l0_1 x12_1).f0), .int .i64 ((rd_T101 l0_1 x12_1).f1)] 101 (0, 0))) := ⟨by refine rK ?_; refine blk_put (cs := #[.int .i64 ((rd_T101 l0_1 x12_1).f0), .int .i64 0]) ?_ 1 _ rfl; refine rK ?_; refine blk_put (cs := #[.int .i64 0, .int .i64 0]) ?_ 0 _ rfl; refine rK ?_; exact BK110.out⟩
     have n2_ : Aside0 (Below w.heap.size w ((w37.setCell ⟨gb110, 0, none⟩ (.int .i64 ((rd_T101 l0_1 x12_1).f0))).setCell ⟨gb110, 1, none⟩ (.int .i64 ((rd_T101 l0_1 x12_1).f1)))) := ⟨uB HB⟩
     (try clear BK107); (try clear BK110); (try clear HB)
     generalize ((w37.setCell ⟨gb110, 0, none⟩ (.int .i64 ((rd_T101 l0_1 x12_1).f0))).setCell ⟨gb110, 1, none⟩ (.int .i64 ((rd_T101 l0_1 x12_1).f1))) = w40 at n0_ n1_ n2_ ⊢
     have BK107 := n0_; have BK110 := n1_; have HB := n2_; clear n0_ n1_ n2_; replace BK107 := Aside0.mk (blk_drew BK107.out); replace BK110 := Aside0.mk (blk_drew BK110.out); replace HB := Aside0.mk (below_drew1 HB.out)
     refine start_ (n := 33) (S := fun w' => w'.cell? ⟨gb110, 0, none⟩ = some (.int .i64 ((rd_T101 l0_1 x12_1).f0)) ∧ w'.cell? ⟨gb110, 1, none⟩ = some (.int .i64 ((rd_T101 l0_1 x12_1).f1))) (ds := []) #[false, false, false, false, false, false, false, false, false, false, false, false, false, false, false, false, false, false, false, false, false, false, false, false, false, false, false, false, false, false, false, false, false] (by kernel_rfl) rfl rfl (cA2 BK110) (fun hHeld => ?_)
     refine with_tabW beacon_Check.tab5 beacon_Check.bits5 (fun HT_ HW_ => ?_)
     generalize w40.drew = w41 at BK107 BK110 HB hHeld ⊢
     refine pA 0 (some 17) ?_; refine pA 1 (some 18) ?_; refine pA 2 (some 19) ?_; refine tA 3 (some 20) ?_; refine pA 4 (some 21) ?_; refine pA 5 (some 22) ?_; refine pA 6 (some 23) ?_; refine pN 7 (some 24) ?_; refine pN 8 (some 25) ?_; refine pN 9 (some 26) ?_; refine pA 10 (some 27) ?_; refine pA 11 (some 28) ?_; refine pN 12 (some 29) ?_; refine pN 13 (some 30) ?_; refine pN 14 (some 31) ?_; refine pA 15 (some 32) ?_; refine pA 16 (some 33) ?_; refine pN 17 (some 34) ?_; refine pN 18 (some 35) ?_; refine pN 19 (some 36) ?_; refine pN 20 (some 37) ?_; refine pN 21 (some 38) ?_; refine pN 22 (some 39) ?_; refine pN 23 (some 40) ?_; refine pN 24 (some 41) ?_; refine pN 25 (some 42) ?_; refine pN 26 (some 43) ?_; refine pN 27 (some 44) ?_; refine pN 28 (some 45) ?_; refine pN 29 (some 46) ?_; refine pN 30 (some 47) ?_; refine pA 31 (some 48) ?_; refine pA 32 (some 3) ?_
     refine dA ?_
     try go_wp2
     go_roundg k1
     case measure => have := HK1.out; omega
     case rel => exact ⟨(false), (wrap64 (x12_1 + 1)), gv, gv, H', ⟨by have := HK1.out; omega⟩, ⟨uK BK107⟩, ⟨uB HB⟩⟩
    replace c8 := Bool.eq_false_iff.mpr c8
    subst c8
    rw [if_neg (show ¬ (false = true) by decide)] at H
    have H' := Aside0.mk H
    clear H
    have p109 : 0 ≤ (x12_1 : Int) := of_decide_eq_true gA
    have q109 : x12_1 < (l0_1.length : Int) := of_decide_eq_true gA
    obtain ⟨ad109, e109, hx109_0, hx109_1⟩ := at_T101 HR0_1.out x12_1 p109 q109
    cases e109
    replace hx109_0 := bc HB hx109_0; replace hx109_1 := bc HB hx109_1; replace p109 := eq_true p109; replace q109 := eq_true q109
    try go_wp2_with (first | ((with_reducible refine gate_dst (N := 5) rfl ?_); refine bx #[.int .i64 0, .int .i64 0] 101 ?_; intro gb110 hg w42 hbox hb; have BK110 := Aside0.mk hbox; have GW110 := ge HB hg; have GE110 := ge HB hg; replace HB := bs HB hb; have NB107_110 := nL BK107 hg; have NB110_107 := nG BK107 hg; replace BK107 := kb BK107 hb; clear hb hbox hg; have hnb43 := NB110_107.out; have hnc43 := NB107_110.out; obtain ⟨q44_0, q44_1⟩ := cA2 BK110; obtain ⟨f44_0, f44_1⟩ := fA2 BK110))
    have n0_ : Aside0 (((w42.setCell ⟨gb110, 0, none⟩ (.int .i64 ((rd_T101 l0_1 x12_1).f0))).setCell ⟨gb110, 1, none⟩ (.int .i64 ((rd_T101 l0_1 x12_1).f1))).heap[gb107]? = some (.cells #[.int .i64 a0_0, .slice (some ad109) l0_1.length c0_1] 42 (0, 0))) := ⟨by refine rK ?_; refine blk_far ?_ NB107_110.out _; refine rK ?_; refine blk_far ?_ NB107_110.out _; refine rK ?_; exact BK107.out⟩
    have n1_ : Aside0 (((w42.setCell ⟨gb110, 0, none⟩ (.int .i64 ((rd_T101 l0_1 x12_1).f0))).setCell ⟨gb110, 1, none⟩ (.int .i64 ((rd_T101 l0_1 x12_1).f1))).heap[gb110]? = some (.cells #[.int .i64 ((rd_T101 l0_1 x12_1).f0), .int .i64 ((rd_T101 l0_1 x12_1).f1)] 101 (0, 0))) := ⟨by refine rK ?_; refine blk_put (cs := #[.int .i64 ((rd_T101 l0_1 x12_1).f0), .int .i64 0]) ?_ 1 _ rfl; refine rK ?_; refine blk_put (cs := #[.int .i64 0, .int .i64 0]) ?_ 0 _ rfl; refine rK ?_; exact BK110.out⟩
    have n2_ : Aside0 (Below w.heap.size w ((w42.setCell ⟨gb110, 0, none⟩ (.int .i64 ((rd_T101 l0_1 x12_1).f0))).setCell ⟨gb110, 1, none⟩ (.int .i64 ((rd_T101 l0_1 x12_1).f1)))) := ⟨uB HB⟩
    (try clear BK107); (try clear BK110); (try clear HB)
    generalize ((w42.setCell ⟨gb110, 0, none⟩ (.int .i64 ((rd_T101 l0_1 x12_1).f0))).setCell ⟨gb110, 1, none⟩ (.int .i64 ((rd_T101 l0_1 x12_1).f1))) = w45 at n0_ n1_ n2_ ⊢
    have BK107 := n0_; have BK110 := n1_; have HB := n2_; clear n0_ n1_ n2_; replace BK107 := Aside0.mk (blk_drew BK107.out); replace BK110 := Aside0.mk (blk_drew BK110.out); replace HB := Aside0.mk (below_drew1 HB.out)
    refine start_ (n := 33) (S := fun w' => True) (ds := []) #[false, false, false, false, false, false, false, false, false, false, false, false, false, false, false, false, false, false, false, false, false, false, false, false, false, false, false, false, false, false, false, false, false] (by kernel_rfl) rfl rfl trivial (fun hHeld => ?_)
    refine with_tabW beacon_Check.tab5 beacon_Check.bits5 (fun HT_ HW_ => ?_)
    generalize w45.drew = w46 at BK107 BK110 HB hHeld ⊢
    refine pA 0 (some 17) ?_; refine pA 1 (some 18) ?_; refine pN 2 (some 19) ?_; refine pN 3 (some 20) ?_; refine pN 4 (some 21) ?_; refine pA 5 (some 22) ?_; refine pA 6 (some 23) ?_; refine pN 7 (some 24) ?_; refine pN 8 (some 25) ?_; refine pN 9 (some 26) ?_; refine pA 10 (some 27) ?_; refine pA 11 (some 28) ?_; refine pN 12 (some 29) ?_; refine pN 13 (some 30) ?_; refine pN 14 (some 31) ?_; refine pA 15 (some 32) ?_; refine pA 16 (some 33) ?_; refine pN 17 (some 34) ?_; refine pN 18 (some 35) ?_; refine pN 19 (some 36) ?_; refine pN 20 (some 37) ?_; refine pN 21 (some 38) ?_; refine pN 22 (some 39) ?_; refine pN 23 (some 40) ?_; refine pN 24 (some 41) ?_; refine pN 25 (some 42) ?_; refine pN 26 (some 43) ?_; refine pN 27 (some 44) ?_; refine pN 28 (some 45) ?_; refine pN 29 (some 46) ?_; refine pN 30 (some 47) ?_; refine pA 31 (some 48) ?_; refine pA 32 (some 3) ?_
    refine dA ?_
    try go_wp2
    go_roundg k1
    case measure => have := HK1.out; omega
    case rel => exact ⟨(false), (wrap64 (x12_1 + 1)), gv, gv, H', ⟨by have := HK1.out; omega⟩, ⟨uK BK107⟩, ⟨uB HB⟩⟩
   rw [if_neg c5] at H
   have c5b0 : decide (x12_1 < (l0_1.length : Int)) = false := decide_eq_false c5
   clear c5
   by_cases c47 : x3_1 = true
   ·subst c47
    rw [if_pos rfl] at H
    obtain rfl := Option.some.inj H
    go_wp2
    go_ret
    exact ⟨gE, uB HB⟩
   replace c47 := Bool.eq_false_iff.mpr c47
   subst c47
   rw [if_neg (show ¬ (false = true) by decide)] at H
   obtain rfl := Option.some.inj H
   go_wp2
   go_ret
   exact ⟨gE, uB HB⟩
def beacon_Bytes.l0 : Nat → List Int → List (S101) → Int → Int → Option (List Int × Int)
 | 0, _, _, _, _ => none
 | k + 1, x5, x30, x31, x32 => if x32 < x31 then (if 0 ≤ x32 then (if x32 < (x30.length : Int) then ((wire_Put.f ((rd_T101 x30 x32).f1) 4).bind fun bt124 => (if x5.length < 140737488355328 then ((some (x5 ++ [((rd_T101 x30 x32).f0) % 256] : List Int)).bind fun y128 => (if y128.length + bt124.1.length < 140737488355328 then (beacon_Bytes.l0 k (y128 ++ bt124.1) x30 x31 (wrap64 (x32 + 1))) else (none))) else (none))) else (none)) else (none)) else (some (x5, 0))
def beacon_Bytes.f (k : Nat) (a0_0 : Int) (l0_1 : List (S101)) : Option (List Int × Int) := (beacon_Check.f k a0_0 l0_1).bind fun t114 => (if t114 = 0 then ((wire_Put.f a0_0 4).bind fun bt115 => (if bt115.1.length < 140737488355328 then (beacon_Bytes.l0 k (bt115.1 ++ [((l0_1.length : Int)) % 256]) l0_1 (l0_1.length : Int) 0) else (none))) else (some (([] : List Int), t114)))
theorem beacon_Bytes.mono_l : ∀ k, (∀ y0 y1 y2 y3, LeO (beacon_Bytes.l0 k y0 y1 y2 y3) (beacon_Bytes.l0 (k + 1) y0 y1 y2 y3))
 | 0 => fun _ _ _ _ r h => by simp [beacon_Bytes.l0] at h
 | k + 1 => by
  have ih0 := beacon_Bytes.mono_l k
  ·intro y0 y1 y2 y3
   unfold beacon_Bytes.l0
   repeat' first
   | (with_reducible exact ih0 _ _ _ _)
   | (with_reducible exact beacon_Check.mono _ _ _)
   | (with_reducible exact LeO.refl _)
   | (with_reducible exact LeO.none _)
   | (with_reducible refine LeO.ite ?_ ?_)
   | (with_reducible refine LeO.bind ?_ (fun _ => ?_))
   | exact ih0 _ _ _ _
   | exact beacon_Check.mono _ _ _
   | exact LeO.none _
   | refine LeO.ite ?_ ?_
   | refine LeO.bind ?_ (fun _ => ?_)
theorem beacon_Bytes.mono : ∀ a0 a1 k, LeO (beacon_Bytes.f k a0 a1) (beacon_Bytes.f (k + 1) a0 a1) := by
 intro a0 a1 k
 have ih0 := beacon_Bytes.mono_l k
 unfold beacon_Bytes.f
 repeat' first
   | (with_reducible exact ih0 _ _ _ _)
   | (with_reducible exact beacon_Check.mono _ _ _)
   | (with_reducible exact LeO.refl _)
   | (with_reducible exact LeO.none _)
   | (with_reducible refine LeO.ite ?_ ?_)
   | (with_reducible refine LeO.bind ?_ (fun _ => ?_))
   | exact ih0 _ _ _ _
   | exact beacon_Check.mono _ _ _
   | exact LeO.none _
   | refine LeO.ite ?_ ?_
   | refine LeO.bind ?_ (fun _ => ?_)
theorem beacon_Bytes.calls (k : Nat) (a0_0 : Int) (A0_1 : Option Addr) (c0_1 : Nat) (l0_1 : List (S101)) (r1 : List Int) (r2 : Int) (w : World) (hr0_1 : Kd.C k101 w A0_1 l0_1.length l0_1) (hc0_1 : l0_1.length ≤ c0_1) (h : beacon_Bytes.f k a0_0 l0_1 = some (r1, r2)) :
  Calls Try.prog 32 #[.agg #[.int .i64 a0_0, .slice A0_1 l0_1.length c0_1]] w fun e w' => ∃ v0_ : Value, e = .returned (.tuple #[v0_, .int .i64 r2]) ∧ Kd.R (Kd.int .u8) 5 w' w.heap.size (fun _ => True) v0_ r1 ∧ Below w.heap.size w w' := by
 have hu42 := Try.underlying42; have hu101 := Try.underlying101; have HR0_1 := Aside0.mk hr0_1; have HC0_1 := Aside0.mk hc0_1; clear hr0_1 hc0_1; have HB := Aside0.mk (Below.refl w.heap.size w)
 have H : ((beacon_Check.f k a0_0 l0_1).bind fun t114 => (if t114 = 0 then ((wire_Put.f a0_0 4).bind fun bt115 => (if bt115.1.length < 140737488355328 then (beacon_Bytes.l0 k (bt115.1 ++ [((l0_1.length : Int)) % 256]) l0_1 (l0_1.length : Int) 0) else (none))) else (some (([] : List Int), t114)))) = some (r1, r2) := h
 clear h; replace H := Option.bind_eq_some_iff.mp H; obtain ⟨t114, A20, H⟩ := H
 replace H : (if t114 = 0 then ((wire_Put.f a0_0 4).bind fun bt115 => (if bt115.1.length < 140737488355328 then (beacon_Bytes.l0 k (bt115.1 ++ [((l0_1.length : Int)) % 256]) l0_1 (l0_1.length : Int) 0) else (none))) else (some (([] : List Int), t114))) = some (r1, r2) := H
 have A2 := Aside0.mk A20; clear A20
 by_cases c3 : t114 = 0
 ·rw [if_pos c3] at H
  have c3b0 : (t114 == 0) = true := beq_iff_eq.mpr c3
  have c3b1 : (t114 != 0) = false := bne_eq_false_iff_eq.mpr c3
  clear c3; replace H := Option.bind_eq_some_iff.mp H
  obtain ⟨⟨t115, t116⟩, A40, H⟩ := H
  replace H : (if t115.length < 140737488355328 then (beacon_Bytes.l0 k (t115 ++ [((l0_1.length : Int)) % 256]) l0_1 (l0_1.length : Int) 0) else (none)) = some (r1, r2) := H
  have A4 := Aside0.mk A40; clear A40
  by_cases c5 : t115.length < 140737488355328
  rotate_left
  ·rw [if_neg c5] at H
   exact absurd H (by simp)
  rw [if_pos c5] at H; have LMc5 := Aside0.mk c5; clear c5
  obtain ⟨y119, hy119⟩ : ∃ y_ : List Int, y_ = (t115 ++ [((l0_1.length : Int)) % 256]) := ⟨_, rfl⟩
  replace H : (beacon_Bytes.l0 k y119 l0_1 (l0_1.length : Int) 0) = some (r1, r2) := by first | (rw [hy119]; with_reducible exact H) | (have H2_ := (Option.bind_some _ _).symm.trans H; rw [hy119]; with_reducible exact H2_) | (have H2_ := (Option.bind_some _ _).symm.trans H; with_reducible exact H2_) | with_reducible exact H | (rw [hy119]; exact H) | exact H
  have Ny119 := Aside0.mk hy119; clear hy119
  have H' := Aside0.mk H
  clear H
  go_enter Try.func32, Try.ntmps32
  go_wp2_with (first | ((with_reducible refine gate_dst (N := 1) rfl ?_); refine bx #[.int .i64 a0_0, .slice A0_1 l0_1.length c0_1] 42 ?_; intro gb113 hg w6 hbox hb; have BK113 := Aside0.mk hbox; have GW113 := ge HB hg; have GE113 := ge HB hg; replace HB := bs HB hb; clear hb hbox hg; obtain ⟨q7_0, q7_1⟩ := cA2 BK113; obtain ⟨f7_0, f7_1⟩ := fA2 BK113) | ((with_reducible refine gate_callee (f := 52) rfl ?_); refine gL (some 12) Try.func52 #[.agg #[.int .i64 a0_0, .slice A0_1 l0_1.length c0_1]] ?_; (with_reducible refine (beacon_Check.calls k a0_0 _ _ l0_1 t114 _ ?side1 ?side2 A2.out).mono ?_); (case side1 => repeat (first | exact (Kd.C_below HR0_1.out HB.out) | (with_reducible refine Kd.C_alloc ?_ _) | (with_reducible refine Kd.C_drewN ?_ _) | (with_reducible refine Kd.C_drew ?_))); (case side2 => exact HC0_1.out); rintro e w8 ⟨rfl, hb⟩; refine ⟨_, rfl, ?_⟩; replace BK113 := kb BK113 hb; replace HB := bs HB hb; (try clear hb); (try clear hb2); (try clear hk); (try clear hi); obtain ⟨q9_0, q9_1⟩ := cA2 BK113; obtain ⟨f9_0, f9_1⟩ := fA2 BK113) | ((with_reducible refine gate_callee (f := 20) rfl ?_); refine gL (some 19) Try.func20 #[.int .i64 a0_0, .int .i64 4] ?_; (with_reducible refine (wire_Put.calls a0_0 4 t115 t116 _ A4.out).mono ?_); rintro e w10 ⟨v117, rfl, ho0, hb⟩; refine ⟨_, rfl, ?_⟩; have HO118 := Aside0.mk (Kd.R_lower ho0 (below_size (uB HB))); replace BK113 := kb BK113 hb; replace HB := bs HB hb; (try clear hb); (try clear hb2); (try clear hk); (try clear hi); (try clear ho0); obtain ⟨q11_0, q11_1⟩ := cA2 BK113; obtain ⟨f11_0, f11_1⟩ := fA2 BK113) | ((with_reducible refine gate_builtin (b := .append) (xs := #[.tmp 22, .tmp 27]) rfl ?_); at_builtin; refine Kd.R_append (Kd.int .u8) (w0 := w) w.heap.size rfl (.tmp 22) (.tmp 27) 26 5 (.int .u8 0) 1 rfl Try.underlying26 info5 rfl (by decide) (by omega) v117 t115 (((l0_1.length : Int)) % 256) [.int .u8 (((l0_1.length : Int)) % 256)] (fun _ => True) (fun _ => False) rfl rfl ?aP (fun _ hk => hk.elim) ?aF ?aO ?aB ?aS ?aL ?_; (case aP => exact rfl); (case aB => exact (uB HB)); (case aF => exact (fun _ _ => trivial)); (case aO => exact (uR HO118)); (case aS => exact (below_size (uB HB))); (case aL => have := LMc5.out; omega); intro v120 w12 ho hb hg hat; rw [← Ny119.out] at ho; have n0_ := Aside0.mk (blk_grown (uK BK113) hg (Kd.R_ne HO118.out BK113.out (by decide))); have n1_ := Aside0.mk (hb); have n2_ := Aside0.mk (ho); clear BK113; clear HB; clear HO118; have BK113 := n0_; have HB := n1_; have HO121 := n2_; clear n0_ n1_ n2_; clear ho hb hg hat; obtain ⟨q13_0, q13_1⟩ := cA2 BK113; obtain ⟨f13_0, f13_1⟩ := fA2 BK113))
  go_loopg [5, 32] k (fun kq v5 v32 w' => ∃ (x5_1 : List Int) (x32_1 : Int), v32 = .int .i64 x32_1 ∧ Aside0 (beacon_Bytes.l0 kq x5_1 l0_1 (l0_1.length : Int) x32_1 = some (r1, r2)) ∧ Aside0 (kq ≤ k) ∧ Aside0 (Kd.R (Kd.int .u8) 5 w' w.heap.size (fun _ => True) v5 x5_1) ∧ Aside0 (w'.heap[gb113]? = some (.cells #[.int .i64 a0_0, (.slice A0_1 l0_1.length c0_1)] 42 (0, 0))) ∧ Aside0 (Below w.heap.size w w'))
  case atStart => exact ⟨(y119), (0), gv, H', ⟨Nat.le_refl _⟩, ⟨uR HO121⟩, ⟨uK BK113⟩, ⟨uB HB⟩⟩
  case round =>
   clear H'; (try clear c2); (try clear p2); (try clear c3); (try clear c3b0); (try clear c3b1); (try clear c5); (try clear q11_0); (try clear q11_1); (try clear q13_0); (try clear q13_1); (try clear q7_0); (try clear q7_1); (try clear q9_0); (try clear q9_1); (try clear f11_0); (try clear f11_1); (try clear f13_0); (try clear f13_1); (try clear f7_0); (try clear f7_1); (try clear f9_0); (try clear f9_1); obtain ⟨x5_1, x32_1, rfl, HA, HK1, HO_5, BK113, HB⟩ := hrel
   cases gk with
   | zero => exact absurd HA.out (by simp [beacon_Bytes.l0])
   | succ k1 =>
    have H := HA.out
    clear HA
    simp only [beacon_Bytes.l0] at H
    by_cases c14 : x32_1 < (l0_1.length : Int)
    ·rw [if_pos c14] at H
     have c14b0 := decide_eq_true c14; clear c14
     by_cases c15 : 0 ≤ x32_1
     rotate_left
     ·rw [if_neg c15] at H
      exact absurd H (by simp)
     rw [if_pos c15] at H; have c15b0 : decide (0 ≤ x32_1) = true := decide_eq_true c15; clear c15
     by_cases c16 : x32_1 < (l0_1.length : Int)
     rotate_left
     ·rw [if_neg c16] at H
      exact absurd H (by simp)
     rw [if_pos c16] at H; have c16b0 := decide_eq_true c16; clear c16; replace H := Option.bind_eq_some_iff.mp H
     obtain ⟨⟨t124, t125⟩, A170, H⟩ := H
     replace H : (if x5_1.length < 140737488355328 then ((some (x5_1 ++ [((rd_T101 l0_1 x32_1).f0) % 256] : List Int)).bind fun y128 => (if y128.length + t124.length < 140737488355328 then (beacon_Bytes.l0 k1 (y128 ++ t124) l0_1 (l0_1.length : Int) (wrap64 (x32_1 + 1))) else (none))) else (none)) = some (r1, r2) := H
     have A17 := Aside0.mk A170; clear A170
     by_cases c18 : x5_1.length < 140737488355328
     rotate_left
     ·rw [if_neg c18] at H
      exact absurd H (by simp)
     rw [if_pos c18] at H; have LMc18 := Aside0.mk c18; clear c18
     obtain ⟨y128, hy128⟩ : ∃ y_ : List Int, y_ = (x5_1 ++ [((rd_T101 l0_1 x32_1).f0) % 256]) := ⟨_, rfl⟩
     replace H : (if y128.length + t124.length < 140737488355328 then (beacon_Bytes.l0 k1 (y128 ++ t124) l0_1 (l0_1.length : Int) (wrap64 (x32_1 + 1))) else (none)) = some (r1, r2) := by first | (rw [hy128]; with_reducible exact H) | (have H2_ := (Option.bind_some _ _).symm.trans H; rw [hy128]; with_reducible exact H2_) | (have H2_ := (Option.bind_some _ _).symm.trans H; with_reducible exact H2_) | with_reducible exact H | (rw [hy128]; exact H) | exact H
     have Ny128 := Aside0.mk hy128; clear hy128
     by_cases c19 : y128.length + t124.length < 140737488355328
     rotate_left
     ·rw [if_neg c19] at H
      exact absurd H (by simp)
     rw [if_pos c19] at H; have LMc19 := Aside0.mk c19; clear c19
     obtain ⟨y131, hy131⟩ : ∃ y_ : List Int, y_ = (y128 ++ t124) := ⟨_, rfl⟩
     replace H : (beacon_Bytes.l0 k1 y131 l0_1 (l0_1.length : Int) (wrap64 (x32_1 + 1))) = some (r1, r2) := by first | (rw [hy131]; with_reducible exact H) | (have H2_ := (Option.bind_some _ _).symm.trans H; rw [hy131]; with_reducible exact H2_) | (have H2_ := (Option.bind_some _ _).symm.trans H; with_reducible exact H2_) | with_reducible exact H | (rw [hy131]; exact H) | exact H
     have Ny131 := Aside0.mk hy131; clear hy131
     have H' := Aside0.mk H
     clear H
     have p122 : 0 ≤ (x32_1 : Int) := of_decide_eq_true gA
     have q122 : x32_1 < (l0_1.length : Int) := of_decide_eq_true gA
     obtain ⟨ad122, e122, hx122_0, hx122_1⟩ := at_T101 HR0_1.out x32_1 p122 q122
     cases e122
     replace hx122_0 := bc HB hx122_0; replace hx122_1 := bc HB hx122_1; replace p122 := eq_true p122; replace q122 := eq_true q122
     go_wp2_with (first | ((with_reducible refine gate_dst (N := 8) rfl ?_); refine bx #[.int .i64 0, .int .i64 0] 101 ?_; intro gb123 hg w20 hbox hb; replace HO_5 := Aside0.mk (Kd.R_below (uR HO_5) hb); have BK123 := Aside0.mk hbox; have GW123 := ge HB hg; have GE123 := ge HB hg; replace HB := bs HB hb; have NB113_123 := nL BK113 hg; have NB123_113 := nG BK113 hg; replace BK113 := kb BK113 hb; clear hb hbox hg; have hnb21 := NB123_113.out; have hnc21 := NB113_123.out; obtain ⟨q22_0, q22_1⟩ := cA2 BK123; obtain ⟨f22_0, f22_1⟩ := fA2 BK123) | ((with_reducible refine gate_callee (f := 20) rfl ?_); refine gL (some 39) Try.func20 #[.int .i64 ((rd_T101 l0_1 x32_1).f1), .int .i64 4] ?_; (with_reducible refine (wire_Put.calls ((rd_T101 l0_1 x32_1).f1) 4 t124 t125 _ A17.out).mono ?_); rintro e w23 ⟨v126, rfl, ho0, hb⟩; refine ⟨_, rfl, ?_⟩; have HO127 := Aside0.mk (Kd.R_lower (Kd.R_new' ho0 (Kd.R_lt (fR HO_5 BK123))) (below_size (uB HB))); replace HO_5 := Aside0.mk (Kd.R_elder' (fR HO_5 BK123) (Kd.R_base ho0) hb); replace BK113 := kc BK113 hb; replace BK123 := kc BK123 hb; replace HB := bs HB hb; (try clear hb); (try clear hb2); (try clear hk); (try clear hi); (try clear ho0); obtain ⟨q24_0, q24_1⟩ := cA2 BK123; obtain ⟨f24_0, f24_1⟩ := fA2 BK123) | ((with_reducible refine gate_builtin (b := .append) (xs := #[.tmp 42, .tmp 46]) rfl ?_); at_builtin; refine Kd.R_append (Kd.int .u8) (w0 := w) w.heap.size rfl (.tmp 42) (.tmp 46) 26 5 (.int .u8 0) 1 rfl Try.underlying26 info5 rfl (by decide) (by omega) u5 x5_1 (((rd_T101 l0_1 x32_1).f0) % 256) [.int .u8 (((rd_T101 l0_1 x32_1).f0) % 256)] (fun k_ => some k_ ≠ (v126 : Value).ownBlock) (fun _ => False) rfl rfl ?aP (fun _ hk => hk.elim) ?aF ?aO ?aB ?aS ?aL ?_; (case aP => exact rfl); (case aB => exact (uB HB)); (case aF => exact (fun k_ hk => Kd.fresh' (Kd.R_lt (uR HO127)) k_ hk)); (case aO => exact (mR HO_5)); (case aS => exact (below_size (uB HB))); (case aL => have := LMc18.out; omega); intro v129 w25 ho hb hg hat; rw [← Ny128.out] at ho; have n0_ := Aside0.mk (blk_grown (uK BK113) hg (Kd.R_ne HO_5.out BK113.out (by decide))); have n1_ := Aside0.mk (blk_grown (uK BK123) hg (Kd.R_ne HO_5.out BK123.out (by decide))); have n2_ := Aside0.mk (Kd.R_after (ok := (fun _ => True)) (uR HO127) hg hat); have n3_ := Aside0.mk (hb); have n4_ := Aside0.mk (ho); clear BK113; clear BK123; clear HO127; clear HB; clear HO_5; have BK113 := n0_; have BK123 := n1_; have HO127 := n2_; have HB := n3_; have HO130 := n4_; clear n0_ n1_ n2_ n3_ n4_; clear ho hb hg hat; obtain ⟨Ao27, co27, eo27⟩ := Kd.R_slice HO127.out; subst eo27) | ((with_reducible refine gate_builtin (b := .append) (xs := #[.tmp 47, .tmp 48]) rfl ?_); at_builtin; refine Kd.R_append_rows (Kd.int .u8) (w0 := w) w.heap.size rfl (.tmp 47) (.tmp 48) 26 5 (.int .u8 0) 1 rfl Try.underlying26 info5 rfl (by decide) (by omega) v129 y128 t124 _ _ _ (fun k_ => some k_ ≠ (.slice Ao27 t124.length co27 : Value).ownBlock) (fun _ => False) rfl rfl ?aO ?aR (fun _ _ h => h) (fun _ h => h.elim) ?aF ?aB ?aS ?aL ?_; (case aR => exact rC (Kd.R_reads' HO127.out).2.2); (case aB => exact (uB HB)); (case aF => exact (fun k_ hk => Kd.fresh' (Kd.R_lt (uR HO127)) k_ hk)); (case aO => exact (uR HO130)); (case aS => exact (below_size (uB HB))); (case aL => have := LMc19.out; omega); intro v132 w26 ho hb hg hat; rw [← Ny131.out] at ho; have n0_ := Aside0.mk (blk_grown (uK BK113) hg (Kd.R_ne HO130.out BK113.out (by decide))); have n1_ := Aside0.mk (blk_grown (uK BK123) hg (Kd.R_ne HO130.out BK123.out (by decide))); have n2_ := Aside0.mk (Kd.R_after (ok := (fun _ => True)) (uR HO127) hg hat); have n3_ := Aside0.mk (hb); have n4_ := Aside0.mk (ho); clear BK113; clear BK123; clear HO127; clear HB; clear HO130; have BK113 := n0_; have BK123 := n1_; have HO127 := n2_; have HB := n3_; have HO133 := n4_; clear n0_ n1_ n2_ n3_ n4_; clear ho hb hg hat))
     go_roundg k1
     case measure => have := HK1.out; omega
     case rel => exact ⟨(y131), (wrap64 (x32_1 + 1)), gv, H', ⟨by have := HK1.out; omega⟩, ⟨by refine rR ?_; exact Kd.R_mono HO133.out (fun _ hk => trivial)⟩, ⟨uK BK113⟩, ⟨uB HB⟩⟩
    rw [if_neg c14] at H
    have c14b0 : decide (x32_1 < (l0_1.length : Int)) = false := decide_eq_false c14
    clear c14
    simp only [Option.some.injEq, Prod.mk.injEq] at H
    obtain ⟨rfl, rfl⟩ := H
    go_wp2
    go_ret2
    exact ⟨_, gE, by refine rR ?_; exact HO_5.out, uB HB⟩
 rw [if_neg c3] at H
 have c3b0 : (t114 == 0) = false := beq_eq_false_iff_ne.mpr c3
 have c3b1 : (t114 != 0) = true := bne_iff_ne.mpr c3
 simp only [Option.some.injEq, Prod.mk.injEq] at H
 obtain ⟨rfl, rfl⟩ := H
 go_enter Try.func32, Try.ntmps32
 go_wp2_with (first | ((with_reducible refine gate_dst (N := 1) rfl ?_); refine bx #[.int .i64 a0_0, .slice A0_1 l0_1.length c0_1] 42 ?_; intro gb113 hg w28 hbox hb; have BK113 := Aside0.mk hbox; have GW113 := ge HB hg; have GE113 := ge HB hg; replace HB := bs HB hb; clear hb hbox hg; obtain ⟨q29_0, q29_1⟩ := cA2 BK113; obtain ⟨f29_0, f29_1⟩ := fA2 BK113) | ((with_reducible refine gate_callee (f := 52) rfl ?_); refine gL (some 12) Try.func52 #[.agg #[.int .i64 a0_0, .slice A0_1 l0_1.length c0_1]] ?_; (with_reducible refine (beacon_Check.calls k a0_0 _ _ l0_1 t114 _ ?side1 ?side2 A2.out).mono ?_); (case side1 => repeat (first | exact (Kd.C_below HR0_1.out HB.out) | (with_reducible refine Kd.C_alloc ?_ _) | (with_reducible refine Kd.C_drewN ?_ _) | (with_reducible refine Kd.C_drew ?_))); (case side2 => exact HC0_1.out); rintro e w30 ⟨rfl, hb⟩; refine ⟨_, rfl, ?_⟩; replace BK113 := kb BK113 hb; replace HB := bs HB hb; (try clear hb); (try clear hb2); (try clear hk); (try clear hi)))
 go_ret2
 exact ⟨_, gE, gO, uB HB⟩
def height_Null.f (a0 : Int) : Option (Bool × Int × Int × Int × Int × Int) := some (true, 0, 0, 0, 0, a0)
theorem height_Null.calls (a0 : Int) (r1 : Bool) (r2 : Int) (r3 : Int) (r4 : Int) (r5 : Int) (r6 : Int) (w : World) (h : height_Null.f a0 = some (r1, r2, r3, r4, r5, r6)) :
  Calls Try.prog 99 #[.int .i64 a0] w fun e w' => e = .returned (.agg #[.bool r1, .int .i64 r2, .int .i64 r3, .int .i64 r4, .int .i64 r5, .int .i64 r6]) ∧ Below w.heap.size w w' := by
 have hu58 := Try.underlying58; have HB := Aside0.mk (Below.refl w.heap.size w)
 have H : (some (true, 0, 0, 0, 0, a0)) = some (r1, r2, r3, r4, r5, r6) := h
 clear h
 simp only [Option.some.injEq, Prod.mk.injEq] at H
 obtain ⟨rfl, rfl, rfl, rfl, rfl, rfl⟩ := H
 go_enter Try.func99, Try.ntmps99
 go_wp2_with (first | ((with_reducible refine gate_dst (N := 2) rfl ?_); refine bx #[.bool false, .int .i64 0, .int .i64 0, .int .i64 0, .int .i64 0, .int .i64 0] 58 ?_; intro gb134 hg w2 hbox hb; have BK134 := Aside0.mk hbox; have GW134 := ge HB hg; have GE134 := ge HB hg; replace HB := bs HB hb; clear hb hbox hg; obtain ⟨q3_0, q3_1, q3_2, q3_3, q3_4, q3_5⟩ := cA6 BK134; obtain ⟨f3_0, f3_1, f3_2, f3_3, f3_4, f3_5⟩ := fA6 BK134))
 refine bodyPost_ret (results_cell_row rfl _ _ gb134 58 #[.bool true, .int .i64 0, .int .i64 0, .int .i64 0, .int .i64 0, .int .i64 a0] (0, 0) _ rfl (by refine rK ?_; refine blk_put (cs := #[.bool true, .int .i64 0, .int .i64 0, .int .i64 0, .int .i64 0, .int .i64 0]) ?_ 5 _ rfl; refine rK ?_; refine blk_put (cs := #[.bool true, .int .i64 0, .int .i64 0, .int .i64 0, .int .i64 0, .int .i64 0]) ?_ 4 _ rfl; refine rK ?_; refine blk_put (cs := #[.bool true, .int .i64 0, .int .i64 0, .int .i64 0, .int .i64 0, .int .i64 0]) ?_ 3 _ rfl; refine rK ?_; refine blk_put (cs := #[.bool true, .int .i64 0, .int .i64 0, .int .i64 0, .int .i64 0, .int .i64 0]) ?_ 2 _ rfl; refine rK ?_; refine blk_put (cs := #[.bool true, .int .i64 0, .int .i64 0, .int .i64 0, .int .i64 0, .int .i64 0]) ?_ 1 _ rfl; refine rK ?_; refine blk_put (cs := #[.bool false, .int .i64 0, .int .i64 0, .int .i64 0, .int .i64 0, .int .i64 0]) ?_ 0 _ rfl; refine rK ?_; exact BK134.out) Try.underlying58 rfl (by kernel_rfl)) rfl ?_
 exact ⟨gE, uB HB⟩
theorem eqA58 (d : Nat) (w : World) (x0 y0 : Bool) (x1 y1 : Int) (x2 y2 : Int) (x3 y3 : Int) (x4 y4 : Int) (x5 y5 : Int) :
  (Op.equalIn (d + 2) 58 (.agg #[.bool x0, .int .i64 x1, .int .i64 x2, .int .i64 x3, .int .i64 x4, .int .i64 x5]) (.agg #[.bool y0, .int .i64 y1, .int .i64 y2, .int .i64 y3, .int .i64 y4, .int .i64 y5])).run Try.prog w = .ok (x0 == y0 && (x1 == y1 && (x2 == y2 && (x3 == y3 && (x4 == y4 && (x5 == y5)))))) w := by
 refine eqA_of Try.underlying58 (by kernel_rfl) ?_
 refine eqf_cons (by rfl) (by go_simp; rfl) (by go_simp; rfl) (by go_simp) ?_
 refine eqf_cons (by rfl) (by go_simp; rfl) (by go_simp; rfl) (by go_simp) ?_
 refine eqf_cons (by rfl) (by go_simp; rfl) (by go_simp; rfl) (by go_simp) ?_
 refine eqf_cons (by rfl) (by go_simp; rfl) (by go_simp; rfl) (by go_simp) ?_
 refine eqf_cons (by rfl) (by go_simp; rfl) (by go_simp; rfl) (by go_simp) ?_
 exact eqf_last (by rfl) (by go_simp; rfl) (by go_simp; rfl) (by go_simp)
theorem eqA60 (d : Nat) (w : World) (x0 y0 : Int) (x1 y1 : Int) (x2 y2 : Int) :
  (Op.equalIn (d + 2) 60 (.agg #[.int .i64 x0, .int .i64 x1, .int .i64 x2]) (.agg #[.int .i64 y0, .int .i64 y1, .int .i64 y2])).run Try.prog w = .ok (x0 == y0 && (x1 == y1 && (x2 == y2))) w := by
 refine eqA_of Try.underlying60 (by kernel_rfl) ?_
 refine eqf_cons (by rfl) (by go_simp; rfl) (by go_simp; rfl) (by go_simp) ?_
 refine eqf_cons (by rfl) (by go_simp; rfl) (by go_simp; rfl) (by go_simp) ?_
 exact eqf_last (by rfl) (by go_simp; rfl) (by go_simp; rfl) (by go_simp)
theorem eqA62 (d : Nat) (w : World) (x0 y0 : Int) (x1 y1 : Int) (x2 y2 : Bool) (x3 y3 : Int) (x4 y4 : Int) (x5 y5 : Int) (x6 y6 : Int) (x7 y7 : Int) (x8 y8 : Int) (x9 y9 : Int) (x10 y10 : Int) (x11 y11 : Int) :
  (Op.equalIn (d + 3) 62 (.agg #[.int .i64 x0, .int .i64 x1, .bool x2, .int .i64 x3, .int .i64 x4, .int .i64 x5, .int .i64 x6, .int .i64 x7, .int .i64 x8, .int .i64 x9, .int .i64 x10, .int .i64 x11]) (.agg #[.int .i64 y0, .int .i64 y1, .bool y2, .int .i64 y3, .int .i64 y4, .int .i64 y5, .int .i64 y6, .int .i64 y7, .int .i64 y8, .int .i64 y9, .int .i64 y10, .int .i64 y11])).run Try.prog w = .ok (x0 == y0 && (x1 == y1 && ((x2 == y2 && (x3 == y3 && (x4 == y4 && (x5 == y5 && (x6 == y6 && (x7 == y7)))))) && ((x8 == y8 && (x9 == y9 && (x10 == y10))) && (x11 == y11))))) w := by
 refine eqA_of Try.underlying62 (by kernel_rfl) ?_
 refine eqf_cons (by rfl) (by go_simp; rfl) (by go_simp; rfl) (by go_simp) ?_
 refine eqf_cons (by rfl) (by go_simp; rfl) (by go_simp; rfl) (by go_simp) ?_
 refine eqf_cons (by rfl) (by go_simp) (by go_simp) (eqA58 (d + 0) w _ _ _ _ _ _ _ _ _ _ _ _) ?_
 refine eqf_cons (by rfl) (by go_simp) (by go_simp) (eqA60 (d + 0) w _ _ _ _ _ _) ?_
 exact eqf_last (by rfl) (by go_simp; rfl) (by go_simp; rfl) (by go_simp)
end Go.Proofs.Ytpgmmnlkiogamaa.P
namespace Go.Proofs.Ytpgmmnlkiogamaa.P
open Go.RowKit YtpgmmnlkiogamaaW.PrintWords YtpgmmnlkiogamaaW.PrintLast YtpgmmnlkiogamaaW.PrintMore
attribute [local go_sem] max2_int min2_int max_two min_two max_three min_three max_four min_four
attribute [local go_sem high] eqA58
def height_Check.j0 : Nat → Bool → Bool → Int → Int → Int → Int → Int → Option (Int)
 | 0, _, _, _, _, _, _, _ => none
 | k + 1, x3, x136000, x136001, x136002, x136003, x136004, x136005 => if x136000 = true then (if x3 = true then ((height_Null.f x136005).bind fun bt136 => (if ((bt136.1 && (x136001 == bt136.2.1 && (x136002 == bt136.2.2.1 && (x136003 == bt136.2.2.2.1 && (x136004 == bt136.2.2.2.2.1 && (x136005 == bt136.2.2.2.2.2)))))) = true) then (some 0) else (some 1))) else (some 1)) else (if x3 = true then (if x136001 ≥ 0 then (if x136001 ≤ 4611686018427387903 then (if x136002 ≥ 0 then (if x136002 < 64 then (if (x136003 / 2) = 0 then (if x136004 ≥ (-1099511627776) then (if x136004 ≤ 1099511627776 then (some 0) else (some 1)) else (some 1)) else (some 1)) else (some 1)) else (some 1)) else (some 1)) else (some 1)) else (some 1))
def height_Check.f (k : Nat) (a0_0 : Bool) (a0_1 : Int) (a0_2 : Int) (a0_3 : Int) (a0_4 : Int) (a0_5 : Int) : Option (Int) := if a0_5 ≥ 0 then (height_Check.j0 k (decide (a0_5 < 64)) a0_0 a0_1 a0_2 a0_3 a0_4 a0_5) else (height_Check.j0 k false a0_0 a0_1 a0_2 a0_3 a0_4 a0_5)
theorem height_Check.mono_l : ∀ k, (∀ y0 y1 y2 y3 y4 y5 y6, LeO (height_Check.j0 k y0 y1 y2 y3 y4 y5 y6) (height_Check.j0 (k + 1) y0 y1 y2 y3 y4 y5 y6))
 | 0 => fun _ _ _ _ _ _ _ r h => by simp [height_Check.j0] at h
 | k + 1 => by
  have ih0 := height_Check.mono_l k
  ·intro y0 y1 y2 y3 y4 y5 y6
   unfold height_Check.j0
   repeat' first
   | (with_reducible exact ih0 _ _ _ _ _ _ _)
   | (with_reducible exact LeO.refl _)
   | (with_reducible exact LeO.none _)
   | (with_reducible refine LeO.ite ?_ ?_)
   | (with_reducible refine LeO.bind ?_ (fun _ => ?_))
   | exact ih0 _ _ _ _ _ _ _
   | exact LeO.none _
   | refine LeO.ite ?_ ?_
   | refine LeO.bind ?_ (fun _ => ?_)
theorem height_Check.mono : ∀ a0 a1 a2 a3 a4 a5 k, LeO (height_Check.f k a0 a1 a2 a3 a4 a5) (height_Check.f (k + 1) a0 a1 a2 a3 a4 a5) := by
 intro a0 a1 a2 a3 a4 a5 k
 have ih0 := height_Check.mono_l k
 unfold height_Check.f
 repeat' first
   | (with_reducible exact ih0 _ _ _ _ _ _ _)
   | (with_reducible exact LeO.refl _)
   | (with_reducible exact LeO.none _)
   | (with_reducible refine LeO.ite ?_ ?_)
   | (with_reducible refine LeO.bind ?_ (fun _ => ?_))
   | exact ih0 _ _ _ _ _ _ _
   | exact LeO.none _
   | refine LeO.ite ?_ ?_
   | refine LeO.bind ?_ (fun _ => ?_)
def height_Check.T3 : Bool × List (List Nat × List Nat) := (true, [([], []), ([0], [0]), ([1], [1]), ([1], [1]), ([3, 1], [1, 3]), ([4, 1, 1], [1, 4]), ([2, 5, 1], [1, 2, 5]), ([1, 6], [1, 6]), ([7, 5, 0, 1, 2, 3, 4, 5, 6, 7], [0, 7])])
def height_Check.B3 : List Nat := [0, 1, 3, 3, 11, 27, 63, 127, 255]
theorem height_Check.tab3 : rtab .any (opsOf Try.f91 3) = height_Check.T3 := by kernel_rfl
theorem height_Check.bits3 : waitsOk height_Check.T3.2 height_Check.B3 = true := by kernel_rfl
theorem height_Check.calls (k : Nat) (a0_0 : Bool) (a0_1 : Int) (a0_2 : Int) (a0_3 : Int) (a0_4 : Int) (a0_5 : Int) (r : Int) (w : World) (h : height_Check.f k a0_0 a0_1 a0_2 a0_3 a0_4 a0_5 = some r) :
  Calls Try.prog 91 #[.agg #[.bool a0_0, .int .i64 a0_1, .int .i64 a0_2, .int .i64 a0_3, .int .i64 a0_4, .int .i64 a0_5]] w fun e w' => e = .returned (.int .i64 r) ∧ Below w.heap.size w w' := by
 have hu58 := Try.underlying58; have HB := Aside0.mk (Below.refl w.heap.size w)
 have H : (if a0_5 ≥ 0 then (height_Check.j0 k (decide (a0_5 < 64)) a0_0 a0_1 a0_2 a0_3 a0_4 a0_5) else (height_Check.j0 k false a0_0 a0_1 a0_2 a0_3 a0_4 a0_5)) = some r := h
 clear h; have HC2 := Aside0.mk H; clear H
 go_enter Try.func91, Try.ntmps91
 go_upto_region 1 with (first | ((with_reducible refine gate_dst (N := 1) rfl ?_); refine bx #[.bool a0_0, .int .i64 a0_1, .int .i64 a0_2, .int .i64 a0_3, .int .i64 a0_4, .int .i64 a0_5] 58 ?_; intro gb135 hg w3 hbox hb; have BK135 := Aside0.mk hbox; have GW135 := ge HB hg; have GE135 := ge HB hg; replace HB := bs HB hb; clear hb hbox hg))
 (try simp only [Act.put, List.setIfInBounds_toArray, List.set_cons_zero, List.set_cons_succ])
 go_cut [3] (fun v3 wc => ∃ (kq : Nat) (x3_1 : Bool), v3 = .bool x3_1 ∧ Aside0 (height_Check.j0 kq x3_1 a0_0 a0_1 a0_2 a0_3 a0_4 a0_5 = some r) ∧ Aside0 (kq ≤ k) ∧ Aside0 (wc.heap[gb135]? = some (.cells #[.bool a0_0, .int .i64 a0_1, .int .i64 a0_2, .int .i64 a0_3, .int .i64 a0_4, .int .i64 a0_5] 58 (0, 0))) ∧ Aside0 (Below w.heap.size w wc))
 case first =>
  have H := HC2.out
  clear HC2
  by_cases c4 : a0_5 ≥ 0
  ·rw [if_pos c4] at H
   have c4b0 : decide (0 ≤ a0_5) = true := decide_eq_true c4; clear c4
   (first | rw [c4b0] | (simp only [i64_w, i32_w]; rw [c4b0]) | rw [c4b1] | skip)
   have H' := Aside0.mk H
   clear H; obtain ⟨q5_0, q5_1, q5_2, q5_3, q5_4, q5_5⟩ := cA6 BK135; obtain ⟨f5_0, f5_1, f5_2, f5_3, f5_4, f5_5⟩ := fA6 BK135
   go_wp2
   go_meet
   case rel => exact ⟨_, (decide (a0_5 < 64)), gv, H', ⟨by first | omega | exact Nat.le_refl _⟩, ⟨uK BK135⟩, ⟨uB HB⟩⟩
  rw [if_neg c4] at H; have c4b0 : decide (0 ≤ a0_5) = false := decide_eq_false c4; clear c4
  (first | rw [c4b0] | (simp only [i64_w, i32_w]; rw [c4b0]) | rw [c4b1] | skip)
  have H' := Aside0.mk H
  clear H; obtain ⟨q6_0, q6_1, q6_2, q6_3, q6_4, q6_5⟩ := cA6 BK135; obtain ⟨f6_0, f6_1, f6_2, f6_3, f6_4, f6_5⟩ := fA6 BK135
  go_wp2
  go_meet
  case rel => exact ⟨_, (false), gv, H', ⟨by first | omega | exact Nat.le_refl _⟩, ⟨uK BK135⟩, ⟨uB HB⟩⟩
 case rest =>
  clear HC2; (try clear p2); (try clear c4); (try clear c4b0); (try clear q5_0); (try clear q5_1); (try clear q5_2); (try clear q5_3); (try clear q5_4); (try clear q5_5); (try clear q6_0); (try clear q6_1); (try clear q6_2); (try clear q6_3); (try clear q6_4); (try clear q6_5); (try clear f5_0); (try clear f5_1); (try clear f5_2); (try clear f5_3); (try clear f5_4); (try clear f5_5); (try clear f6_0); (try clear f6_1); (try clear f6_2); (try clear f6_3); (try clear f6_4); (try clear f6_5); obtain ⟨kq, x3_1, rfl, HA, HJ1, BK135, HB⟩ := hcut
  cases kq with
  | zero => exact absurd HA.out (by simp [height_Check.j0])
  | succ kj1 =>
   have H := HA.out
   clear HA
   simp only [height_Check.j0] at H
   by_cases c7 : a0_0 = true
   ·subst c7
    have H1 : (if x3_1 = true then ((height_Null.f a0_5).bind fun bt136 => (if ((bt136.1 && (a0_1 == bt136.2.1 && (a0_2 == bt136.2.2.1 && (a0_3 == bt136.2.2.2.1 && (a0_4 == bt136.2.2.2.2.1 && (a0_5 == bt136.2.2.2.2.2)))))) = true) then (some 0) else (some 1))) else (some 1)) = some r := by rw [if_pos rfl] at H; exact H
    clear H; have H := H1; clear H1
    by_cases c8 : x3_1 = true
    ·subst c8
     have H1 : ((height_Null.f a0_5).bind fun bt136 => (if ((bt136.1 && (a0_1 == bt136.2.1 && (a0_2 == bt136.2.2.1 && (a0_3 == bt136.2.2.2.1 && (a0_4 == bt136.2.2.2.2.1 && (a0_5 == bt136.2.2.2.2.2)))))) = true) then (some 0) else (some 1))) = some r := by rw [if_pos rfl] at H; exact H
     clear H; have H := H1; clear H1; replace H := Option.bind_eq_some_iff.mp H
     obtain ⟨⟨t136, t137, t138, t139, t140, t141⟩, A90, H⟩ := H
     replace H : (if ((t136 && (a0_1 == t137 && (a0_2 == t138 && (a0_3 == t139 && (a0_4 == t140 && (a0_5 == t141)))))) = true) then (some 0) else (some 1)) = some r := H
     have A9 := Aside0.mk A90; clear A90
     by_cases c10 : ((t136 && (a0_1 == t137 && (a0_2 == t138 && (a0_3 == t139 && (a0_4 == t140 && (a0_5 == t141)))))) = true)
     ·rw [if_pos c10] at H
      have c10b0 : (t136 && (a0_1 == t137 && (a0_2 == t138 && (a0_3 == t139 && (a0_4 == t140 && (a0_5 == t141)))))) = true := c10
      clear c10
      obtain rfl := Option.some.inj H
      obtain ⟨q11_0, q11_1, q11_2, q11_3, q11_4, q11_5⟩ := cA6 BK135; obtain ⟨f11_0, f11_1, f11_2, f11_3, f11_4, f11_5⟩ := fA6 BK135
      try go_wp2
      replace BK135 := Aside0.mk (blk_drew BK135.out); replace HB := Aside0.mk (below_drew1 HB.out)
      refine start_ (n := 9) (S := fun w' => w'.cell? ⟨gb135, 0, none⟩ = some (.bool true) ∧ w'.cell? ⟨gb135, 1, none⟩ = some (.int .i64 a0_1) ∧ w'.cell? ⟨gb135, 2, none⟩ = some (.int .i64 a0_2) ∧ w'.cell? ⟨gb135, 3, none⟩ = some (.int .i64 a0_3) ∧ w'.cell? ⟨gb135, 4, none⟩ = some (.int .i64 a0_4) ∧ w'.cell? ⟨gb135, 5, none⟩ = some (.int .i64 a0_5)) (ds := []) #[false, false, false, false, false, false, false, false, false] (by kernel_rfl) rfl rfl (cA6 BK135) (fun hHeld => ?_)
      refine with_tabW height_Check.tab3 height_Check.bits3 (fun HT_ HW_ => ?_)
      generalize wc.drew = w12 at BK135 HB hHeld ⊢
      refine pA 0 (some 14) ?_; refine pA 1 (some 15) ?_; refine pA 3 (some 17) ?_; refine tA 2 (some 16) ?_; refine tA 4 (some 18) ?_
      refine oA 5 (some 19) (fun K hK => ?_)
      refine gR Try.func99 #[.int .i64 a0_5] ?_
      with_reducible refine (height_Null.calls a0_5 t136 t137 t138 t139 t140 t141 _ A9.out).mono ?_
      rintro e w13 ⟨rfl, hb⟩
      refine ⟨_, rfl, ?_⟩
      replace BK135 := kb BK135 hb; replace HB := bs HB hb; (try clear hb); (try clear hb2); (try clear hk); (try clear hi)
      refine hK.out _ _ (cA6 BK135) (fun hHeld => ?_)
      clear hK K; refine nA 19 ?_; refine pA 6 (some 20) ?_; refine pA 7 (some 21) ?_; refine pA 8 (some 3) ?_
      refine dA ?_
      try go_wp2
      go_ret
      exact ⟨gE, uB HB⟩
     rw [if_neg c10] at H
     have c10b0 : (t136 && (a0_1 == t137 && (a0_2 == t138 && (a0_3 == t139 && (a0_4 == t140 && (a0_5 == t141)))))) = false := by simpa using c10
     clear c10
     obtain rfl := Option.some.inj H
     obtain ⟨q14_0, q14_1, q14_2, q14_3, q14_4, q14_5⟩ := cA6 BK135; obtain ⟨f14_0, f14_1, f14_2, f14_3, f14_4, f14_5⟩ := fA6 BK135
     try go_wp2
     replace BK135 := Aside0.mk (blk_drew BK135.out); replace HB := Aside0.mk (below_drew1 HB.out)
     refine start_ (n := 9) (S := fun w' => w'.cell? ⟨gb135, 0, none⟩ = some (.bool true) ∧ w'.cell? ⟨gb135, 1, none⟩ = some (.int .i64 a0_1) ∧ w'.cell? ⟨gb135, 2, none⟩ = some (.int .i64 a0_2) ∧ w'.cell? ⟨gb135, 3, none⟩ = some (.int .i64 a0_3) ∧ w'.cell? ⟨gb135, 4, none⟩ = some (.int .i64 a0_4) ∧ w'.cell? ⟨gb135, 5, none⟩ = some (.int .i64 a0_5)) (ds := []) #[false, false, false, false, false, false, false, false, false] (by kernel_rfl) rfl rfl (cA6 BK135) (fun hHeld => ?_)
     refine with_tabW height_Check.tab3 height_Check.bits3 (fun HT_ HW_ => ?_)
     generalize wc.drew = w15 at BK135 HB hHeld ⊢
     refine pA 0 (some 14) ?_; refine pA 1 (some 15) ?_; refine pA 3 (some 17) ?_; refine tA 2 (some 16) ?_; refine tA 4 (some 18) ?_
     refine oA 5 (some 19) (fun K hK => ?_)
     refine gR Try.func99 #[.int .i64 a0_5] ?_
     with_reducible refine (height_Null.calls a0_5 t136 t137 t138 t139 t140 t141 _ A9.out).mono ?_
     rintro e w16 ⟨rfl, hb⟩
     refine ⟨_, rfl, ?_⟩
     replace BK135 := kb BK135 hb; replace HB := bs HB hb; (try clear hb); (try clear hb2); (try clear hk); (try clear hi)
     refine hK.out _ _ (cA6 BK135) (fun hHeld => ?_)
     clear hK K; refine nA 19 ?_; refine pA 6 (some 20) ?_; refine pA 7 (some 21) ?_; refine pA 8 (some 3) ?_
     refine dA ?_
     try go_wp2
     go_ret
     exact ⟨gE, uB HB⟩
    replace c8 := Bool.eq_false_iff.mpr c8
    subst c8
    rw [if_neg (show ¬ (false = true) by decide)] at H
    obtain rfl := Option.some.inj H
    obtain ⟨q17_0, q17_1, q17_2, q17_3, q17_4, q17_5⟩ := cA6 BK135; obtain ⟨f17_0, f17_1, f17_2, f17_3, f17_4, f17_5⟩ := fA6 BK135
    try go_wp2
    replace BK135 := Aside0.mk (blk_drew BK135.out); replace HB := Aside0.mk (below_drew1 HB.out)
    refine start_ (n := 9) (S := fun w' => True) (ds := []) #[false, false, false, false, false, false, false, false, false] (by kernel_rfl) rfl rfl trivial (fun hHeld => ?_)
    refine with_tabW height_Check.tab3 height_Check.bits3 (fun HT_ HW_ => ?_)
    generalize wc.drew = w18 at BK135 HB hHeld ⊢
    refine pA 0 (some 14) ?_; refine pA 1 (some 15) ?_; refine pN 2 (some 16) ?_; refine pN 3 (some 17) ?_; refine pN 4 (some 18) ?_; refine pN 5 (some 19) ?_; refine pN 6 (some 20) ?_; refine pA 7 (some 21) ?_; refine pA 8 (some 3) ?_
    refine dA ?_
    try go_wp2
    go_ret
    exact ⟨gE, uB HB⟩
   replace c7 := Bool.eq_false_iff.mpr c7
   subst c7
   rw [if_neg (show ¬ (false = true) by decide)] at H
   by_cases c19 : x3_1 = true
   ·subst c19
    rw [if_pos rfl] at H
    by_cases c20 : a0_1 ≥ 0
    ·rw [if_pos c20] at H
     have c20b0 : decide (0 ≤ a0_1) = true := decide_eq_true c20; clear c20
     by_cases c21 : a0_1 ≤ 4611686018427387903
     ·rw [if_pos c21] at H
      have c21b0 := decide_eq_true c21; clear c21
      by_cases c22 : a0_2 ≥ 0
      ·rw [if_pos c22] at H
       have c22b0 : decide (0 ≤ a0_2) = true := decide_eq_true c22; clear c22
       by_cases c23 : a0_2 < 64
       ·rw [if_pos c23] at H
        have c23b0 := decide_eq_true c23; clear c23
        by_cases c24 : (a0_3 / 2) = 0
        ·rw [if_pos c24] at H
         have c24b0 : ((a0_3 / 2) == 0) = true := beq_iff_eq.mpr c24
         have c24b1 : ((a0_3 / 2) != 0) = false := bne_eq_false_iff_eq.mpr c24
         clear c24
         by_cases c25 : a0_4 ≥ (-1099511627776)
         ·rw [if_pos c25] at H
          have c25b0 : decide ((-1099511627776) ≤ a0_4) = true := decide_eq_true c25; clear c25
          by_cases c26 : a0_4 ≤ 1099511627776
          ·rw [if_pos c26] at H
           have c26b0 := decide_eq_true c26; clear c26
           obtain rfl := Option.some.inj H
           obtain ⟨q27_0, q27_1, q27_2, q27_3, q27_4, q27_5⟩ := cA6 BK135; obtain ⟨f27_0, f27_1, f27_2, f27_3, f27_4, f27_5⟩ := fA6 BK135
           go_wp2
           go_ret
           exact ⟨gE, uB HB⟩
          rw [if_neg c26] at H; have c26b0 : decide (a0_4 ≤ 1099511627776) = false := decide_eq_false c26; clear c26
          obtain rfl := Option.some.inj H
          obtain ⟨q28_0, q28_1, q28_2, q28_3, q28_4, q28_5⟩ := cA6 BK135; obtain ⟨f28_0, f28_1, f28_2, f28_3, f28_4, f28_5⟩ := fA6 BK135
          go_wp2
          go_ret
          exact ⟨gE, uB HB⟩
         rw [if_neg c25] at H; have c25b0 : decide ((-1099511627776) ≤ a0_4) = false := decide_eq_false c25; clear c25
         obtain rfl := Option.some.inj H
         obtain ⟨q29_0, q29_1, q29_2, q29_3, q29_4, q29_5⟩ := cA6 BK135; obtain ⟨f29_0, f29_1, f29_2, f29_3, f29_4, f29_5⟩ := fA6 BK135
         go_wp2
         go_ret
         exact ⟨gE, uB HB⟩
        rw [if_neg c24] at H
        have c24b0 : ((a0_3 / 2) == 0) = false := beq_eq_false_iff_ne.mpr c24
        have c24b1 : ((a0_3 / 2) != 0) = true := bne_iff_ne.mpr c24
        obtain rfl := Option.some.inj H
        obtain ⟨q30_0, q30_1, q30_2, q30_3, q30_4, q30_5⟩ := cA6 BK135; obtain ⟨f30_0, f30_1, f30_2, f30_3, f30_4, f30_5⟩ := fA6 BK135
        go_wp2
        go_ret
        exact ⟨gE, uB HB⟩
       rw [if_neg c23] at H; have c23b0 : decide (a0_2 < 64) = false := decide_eq_false c23; clear c23
       obtain rfl := Option.some.inj H
       obtain ⟨q31_0, q31_1, q31_2, q31_3, q31_4, q31_5⟩ := cA6 BK135; obtain ⟨f31_0, f31_1, f31_2, f31_3, f31_4, f31_5⟩ := fA6 BK135
       go_wp2
       go_ret
       exact ⟨gE, uB HB⟩
      rw [if_neg c22] at H; have c22b0 : decide (0 ≤ a0_2) = false := decide_eq_false c22; clear c22
      obtain rfl := Option.some.inj H
      obtain ⟨q32_0, q32_1, q32_2, q32_3, q32_4, q32_5⟩ := cA6 BK135; obtain ⟨f32_0, f32_1, f32_2, f32_3, f32_4, f32_5⟩ := fA6 BK135
      go_wp2
      go_ret
      exact ⟨gE, uB HB⟩
     rw [if_neg c21] at H; have c21b0 : decide (a0_1 ≤ 4611686018427387903) = false := decide_eq_false c21; clear c21
     obtain rfl := Option.some.inj H
     obtain ⟨q33_0, q33_1, q33_2, q33_3, q33_4, q33_5⟩ := cA6 BK135; obtain ⟨f33_0, f33_1, f33_2, f33_3, f33_4, f33_5⟩ := fA6 BK135
     go_wp2
     go_ret
     exact ⟨gE, uB HB⟩
    rw [if_neg c20] at H; have c20b0 : decide (0 ≤ a0_1) = false := decide_eq_false c20; clear c20
    obtain rfl := Option.some.inj H
    obtain ⟨q34_0, q34_1, q34_2, q34_3, q34_4, q34_5⟩ := cA6 BK135; obtain ⟨f34_0, f34_1, f34_2, f34_3, f34_4, f34_5⟩ := fA6 BK135
    go_wp2
    go_ret
    exact ⟨gE, uB HB⟩
   replace c19 := Bool.eq_false_iff.mpr c19
   subst c19
   rw [if_neg (show ¬ (false = true) by decide)] at H
   obtain rfl := Option.some.inj H
   obtain ⟨q35_0, q35_1, q35_2, q35_3, q35_4, q35_5⟩ := cA6 BK135; obtain ⟨f35_0, f35_1, f35_2, f35_3, f35_4, f35_5⟩ := fA6 BK135
   go_wp2
   go_ret
   exact ⟨gE, uB HB⟩
end Go.Proofs.Ytpgmmnlkiogamaa.P
namespace Go.Proofs.Ytpgmmnlkiogamaa.P
open Go.RowKit YtpgmmnlkiogamaaW.PrintWords YtpgmmnlkiogamaaW.PrintLast YtpgmmnlkiogamaaW.PrintMore
attribute [local go_sem] max2_int min2_int max_two min_two max_three min_three max_four min_four
def height_At.f (k : Nat) (a0_0 : Int) (a0_1 : Int) (a0_2 : Int) (a1 : Int) (a2 : Int) : Option (Bool × Int × Int × Int × Int × Int × Int) := (height_Check.f k false a0_0 a0_1 a0_2 a1 a2).bind fun t145 => (if t145 = 0 then (some (false, a0_0, a0_1, a0_2, a1, a2, 0)) else (some (false, 0, 0, 0, 0, 0, t145)))
theorem height_At.mono : ∀ a0 a1 a2 a3 a4 k, LeO (height_At.f k a0 a1 a2 a3 a4) (height_At.f (k + 1) a0 a1 a2 a3 a4) := by
 intro a0 a1 a2 a3 a4 k
 unfold height_At.f
 repeat' first
   | (with_reducible exact height_Check.mono _ _ _ _ _ _ _)
   | (with_reducible exact LeO.refl _)
   | (with_reducible exact LeO.none _)
   | (with_reducible refine LeO.ite ?_ ?_)
   | (with_reducible refine LeO.bind ?_ (fun _ => ?_))
   | exact height_Check.mono _ _ _ _ _ _ _
   | exact LeO.none _
   | refine LeO.ite ?_ ?_
   | refine LeO.bind ?_ (fun _ => ?_)
theorem height_At.calls (k : Nat) (a0_0 : Int) (a0_1 : Int) (a0_2 : Int) (a1 : Int) (a2 : Int) (r1 : Bool) (r2 : Int) (r3 : Int) (r4 : Int) (r5 : Int) (r6 : Int) (r7 : Int) (w : World) (h : height_At.f k a0_0 a0_1 a0_2 a1 a2 = some (r1, r2, r3, r4, r5, r6, r7)) :
  Calls Try.prog 92 #[.agg #[.int .i64 a0_0, .int .i64 a0_1, .int .i64 a0_2], .int .i64 a1, .int .i64 a2] w fun e w' => e = .returned (.tuple #[.agg #[.bool r1, .int .i64 r2, .int .i64 r3, .int .i64 r4, .int .i64 r5, .int .i64 r6], .int .i64 r7]) ∧ Below w.heap.size w w' := by
 have hu60 := Try.underlying60; have hu58 := Try.underlying58; have HB := Aside0.mk (Below.refl w.heap.size w)
 have H : ((height_Check.f k false a0_0 a0_1 a0_2 a1 a2).bind fun t145 => (if t145 = 0 then (some (false, a0_0, a0_1, a0_2, a1, a2, 0)) else (some (false, 0, 0, 0, 0, 0, t145)))) = some (r1, r2, r3, r4, r5, r6, r7) := h
 clear h; replace H := Option.bind_eq_some_iff.mp H; obtain ⟨t145, A40, H⟩ := H
 replace H : (if t145 = 0 then (some (false, a0_0, a0_1, a0_2, a1, a2, 0)) else (some (false, 0, 0, 0, 0, 0, t145))) = some (r1, r2, r3, r4, r5, r6, r7) := H
 have A4 := Aside0.mk A40; clear A40
 by_cases c5 : t145 = 0
 ·rw [if_pos c5] at H
  have c5b0 : (t145 == 0) = true := beq_iff_eq.mpr c5
  have c5b1 : (t145 != 0) = false := bne_eq_false_iff_eq.mpr c5
  clear c5
  simp only [Option.some.injEq, Prod.mk.injEq] at H
  obtain ⟨rfl, rfl, rfl, rfl, rfl, rfl, rfl⟩ := H
  go_enter Try.func92, Try.ntmps92
  go_wp2_with (first | ((with_reducible refine gate_dst (N := 3) rfl ?_); refine bx #[.int .i64 a0_0, .int .i64 a0_1, .int .i64 a0_2] 60 ?_; intro gb142 hg w6 hbox hb; have BK142 := Aside0.mk hbox; have GW142 := ge HB hg; have GE142 := ge HB hg; replace HB := bs HB hb; clear hb hbox hg) | ((with_reducible refine gate_dst (N := 6) rfl ?_); refine bx #[.bool false, .int .i64 0, .int .i64 0, .int .i64 0, .int .i64 0, .int .i64 0] 58 ?_; intro gb143 hg w7 hbox hb; have BK143 := Aside0.mk hbox; have GW143 := ge HB hg; have GE143 := ge HB hg; replace HB := bs HB hb; have NB142_143 := nL BK142 hg; have NB143_142 := nG BK142 hg; replace BK142 := kb BK142 hb; clear hb hbox hg; have hnb8 := NB142_143.out; have hnc8 := NB143_142.out; obtain ⟨q9_0, q9_1, q9_2⟩ := cA3 BK142; obtain ⟨f9_0, f9_1, f9_2⟩ := fA3 BK142) | ((with_reducible refine gate_dst (N := 8) rfl ?_); refine bx #[.bool false, .int .i64 0, .int .i64 0, .int .i64 0, .int .i64 0, .int .i64 0] 58 ?_; intro gb144 hg w10 hbox hb; have BK144 := Aside0.mk hbox; have GW144 := ge HB hg; have GE144 := ge HB hg; replace HB := bs HB hb; have NB142_144 := nL BK142 hg; have NB144_142 := nG BK142 hg; replace BK142 := kb BK142 hb; have NB143_144 := nL BK143 hg; have NB144_143 := nG BK143 hg; replace BK143 := kb BK143 hb; clear hb hbox hg; have hnb11 := NB144_142.out; have hnc11 := NB142_144.out; have hnb12 := NB144_143.out; have hnc12 := NB143_144.out; obtain ⟨q13_0, q13_1, q13_2, q13_3, q13_4, q13_5⟩ := cA6 BK144; obtain ⟨f13_0, f13_1, f13_2, f13_3, f13_4, f13_5⟩ := fA6 BK144) | ((with_reducible refine gate_callee (f := 91) rfl ?_); refine gL (some 20) Try.func91 #[.agg #[.bool false, .int .i64 a0_0, .int .i64 a0_1, .int .i64 a0_2, .int .i64 a1, .int .i64 a2]] ?_; (with_reducible refine (height_Check.calls k false a0_0 a0_1 a0_2 a1 a2 t145 _ A4.out).mono ?_); rintro e w14 ⟨rfl, hb⟩; refine ⟨_, rfl, ?_⟩; replace BK142 := kc BK142 hb; replace BK143 := kc BK143 hb; replace BK144 := kc BK144 hb; replace HB := bs HB hb; (try clear hb); (try clear hb2); (try clear hk); (try clear hi); obtain ⟨q15_0, q15_1, q15_2, q15_3, q15_4, q15_5⟩ := cA6 BK144; obtain ⟨f15_0, f15_1, f15_2, f15_3, f15_4, f15_5⟩ := fA6 BK144; obtain ⟨q16_0, q16_1, q16_2, q16_3, q16_4, q16_5⟩ := cA6 BK143; obtain ⟨f16_0, f16_1, f16_2, f16_3, f16_4, f16_5⟩ := fA6 BK143))
  refine bodyPost_ret (results_ct rfl _ _ gb143 58 #[.bool false, .int .i64 a0_0, .int .i64 a0_1, .int .i64 a0_2, .int .i64 a1, .int .i64 a2] (0, 0) _ rfl (by refine rK ?_; refine blk_put (cs := #[.bool false, .int .i64 a0_0, .int .i64 a0_1, .int .i64 a0_2, .int .i64 a1, .int .i64 0]) ?_ 5 _ rfl; refine rK ?_; refine blk_put (cs := #[.bool false, .int .i64 a0_0, .int .i64 a0_1, .int .i64 a0_2, .int .i64 0, .int .i64 0]) ?_ 4 _ rfl; refine rK ?_; refine blk_put (cs := #[.bool false, .int .i64 a0_0, .int .i64 a0_1, .int .i64 0, .int .i64 0, .int .i64 0]) ?_ 3 _ rfl; refine rK ?_; refine blk_put (cs := #[.bool false, .int .i64 a0_0, .int .i64 0, .int .i64 0, .int .i64 0, .int .i64 0]) ?_ 2 _ rfl; refine rK ?_; refine blk_put (cs := #[.bool false, .int .i64 0, .int .i64 0, .int .i64 0, .int .i64 0, .int .i64 0]) ?_ 1 _ rfl; refine rK ?_; refine blk_put (cs := #[.bool false, .int .i64 0, .int .i64 0, .int .i64 0, .int .i64 0, .int .i64 0]) ?_ 0 _ rfl; refine rK ?_; exact BK143.out) Try.underlying58 rfl (by kernel_rfl)) rfl ?_
  exact ⟨gE, uB HB⟩
 rw [if_neg c5] at H
 have c5b0 : (t145 == 0) = false := beq_eq_false_iff_ne.mpr c5
 have c5b1 : (t145 != 0) = true := bne_iff_ne.mpr c5
 simp only [Option.some.injEq, Prod.mk.injEq] at H
 obtain ⟨rfl, rfl, rfl, rfl, rfl, rfl, rfl⟩ := H
 go_enter Try.func92, Try.ntmps92
 go_wp2_with (first | ((with_reducible refine gate_dst (N := 3) rfl ?_); refine bx #[.int .i64 a0_0, .int .i64 a0_1, .int .i64 a0_2] 60 ?_; intro gb142 hg w17 hbox hb; have BK142 := Aside0.mk hbox; have GW142 := ge HB hg; have GE142 := ge HB hg; replace HB := bs HB hb; clear hb hbox hg) | ((with_reducible refine gate_dst (N := 6) rfl ?_); refine bx #[.bool false, .int .i64 0, .int .i64 0, .int .i64 0, .int .i64 0, .int .i64 0] 58 ?_; intro gb143 hg w18 hbox hb; have BK143 := Aside0.mk hbox; have GW143 := ge HB hg; have GE143 := ge HB hg; replace HB := bs HB hb; have NB142_143 := nL BK142 hg; have NB143_142 := nG BK142 hg; replace BK142 := kb BK142 hb; clear hb hbox hg; have hnb19 := NB142_143.out; have hnc19 := NB143_142.out; obtain ⟨q20_0, q20_1, q20_2⟩ := cA3 BK142; obtain ⟨f20_0, f20_1, f20_2⟩ := fA3 BK142) | ((with_reducible refine gate_dst (N := 8) rfl ?_); refine bx #[.bool false, .int .i64 0, .int .i64 0, .int .i64 0, .int .i64 0, .int .i64 0] 58 ?_; intro gb144 hg w21 hbox hb; have BK144 := Aside0.mk hbox; have GW144 := ge HB hg; have GE144 := ge HB hg; replace HB := bs HB hb; have NB142_144 := nL BK142 hg; have NB144_142 := nG BK142 hg; replace BK142 := kb BK142 hb; have NB143_144 := nL BK143 hg; have NB144_143 := nG BK143 hg; replace BK143 := kb BK143 hb; clear hb hbox hg; have hnb22 := NB144_142.out; have hnc22 := NB142_144.out; have hnb23 := NB144_143.out; have hnc23 := NB143_144.out; obtain ⟨q24_0, q24_1, q24_2, q24_3, q24_4, q24_5⟩ := cA6 BK144; obtain ⟨f24_0, f24_1, f24_2, f24_3, f24_4, f24_5⟩ := fA6 BK144) | ((with_reducible refine gate_callee (f := 91) rfl ?_); refine gL (some 20) Try.func91 #[.agg #[.bool false, .int .i64 a0_0, .int .i64 a0_1, .int .i64 a0_2, .int .i64 a1, .int .i64 a2]] ?_; (with_reducible refine (height_Check.calls k false a0_0 a0_1 a0_2 a1 a2 t145 _ A4.out).mono ?_); rintro e w25 ⟨rfl, hb⟩; refine ⟨_, rfl, ?_⟩; replace BK142 := kc BK142 hb; replace BK143 := kc BK143 hb; replace BK144 := kc BK144 hb; replace HB := bs HB hb; (try clear hb); (try clear hb2); (try clear hk); (try clear hi); obtain ⟨q26_0, q26_1, q26_2, q26_3, q26_4, q26_5⟩ := cA6 BK143; obtain ⟨f26_0, f26_1, f26_2, f26_3, f26_4, f26_5⟩ := fA6 BK143))
 refine bodyPost_ret (results_ct rfl _ _ gb143 58 #[.bool false, .int .i64 0, .int .i64 0, .int .i64 0, .int .i64 0, .int .i64 0] (0, 0) _ rfl (by refine rK ?_; refine blk_put (cs := #[.bool false, .int .i64 0, .int .i64 0, .int .i64 0, .int .i64 0, .int .i64 0]) ?_ 5 _ rfl; refine rK ?_; refine blk_put (cs := #[.bool false, .int .i64 0, .int .i64 0, .int .i64 0, .int .i64 0, .int .i64 0]) ?_ 4 _ rfl; refine rK ?_; refine blk_put (cs := #[.bool false, .int .i64 0, .int .i64 0, .int .i64 0, .int .i64 0, .int .i64 0]) ?_ 3 _ rfl; refine rK ?_; refine blk_put (cs := #[.bool false, .int .i64 0, .int .i64 0, .int .i64 0, .int .i64 0, .int .i64 0]) ?_ 2 _ rfl; refine rK ?_; refine blk_put (cs := #[.bool false, .int .i64 0, .int .i64 0, .int .i64 0, .int .i64 0, .int .i64 0]) ?_ 1 _ rfl; refine rK ?_; refine blk_put (cs := #[.bool false, .int .i64 0, .int .i64 0, .int .i64 0, .int .i64 0, .int .i64 0]) ?_ 0 _ rfl; refine rK ?_; exact BK143.out) Try.underlying58 rfl (by kernel_rfl)) rfl ?_
 exact ⟨gE, uB HB⟩
end Go.Proofs.Ytpgmmnlkiogamaa.P
