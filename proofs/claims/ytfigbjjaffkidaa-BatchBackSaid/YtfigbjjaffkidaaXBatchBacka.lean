/- Walks. -/
import Derived.Test.YtfigbjjaffkidaaProg
import Derived.Below
import Derived.Deep.Draws
import Derived.Deep.AppendLies
import Derived.Maps.AppendAt
import Derived.OwnWalk
import Derived.Laws.BytesArg
import Derived.Laws.MakeOwn
import Derived.Laws.OwnMore
import Derived.Deep.OwnRows
import Derived.Tactics
import Derived.Lib.ConvBytes
import Derived.Laws.Slices
import Derived.WalkKit
import Derived.KernelRfl
import Derived.RowKit3
import Derived.Deep.LoopGhost
import Derived.Deep.QuietTactic
import Derived.BigQuiet
import Derived.WideLaws
import Derived.Deep.DeepCutAuto
import Derived.Deep.CutBlock
import Derived.Deep.RegionHeld3
import Derived.Laws.Rows
import Derived.Lib.AppendStr
import Derived.ArgAppend
import Derived.Laws.IdiomCopy
import Derived.OrdersHeld
import Derived.Laws.BitsLemmas
import Derived.RowKit
import Derived.Test.YtfigbjjaffkidaaXBatchBackWWords
import Derived.Test.YtfigbjjaffkidaaXBatchBackWLast
import Derived.Test.YtfigbjjaffkidaaXBatchBackWTab
import Derived.Test.YtfigbjjaffkidaaXBatchBackWQPut
import Derived.Test.YtfigbjjaffkidaaXBatchBackWApart
import Derived.Test.YtfigbjjaffkidaaXBatchBackWArr
import Derived.Test.YtfigbjjaffkidaaXBatchBackWZeros
import Derived.Test.YtfigbjjaffkidaaXBatchBackWFoot
import Derived.Test.YtfigbjjaffkidaaXBatchBackWKept
import Derived.Test.YtfigbjjaffkidaaXBatchBackWShare
import Derived.Test.YtfigbjjaffkidaaXBatchBackWN
import Derived.Test.YtfigbjjaffkidaaXBatchBackWEqStruct
import Derived.Test.YtfigbjjaffkidaaXBatchBackWRepsOne
import Derived.Test.YtfigbjjaffkidaaXBatchBackWInv
import Derived.Test.YtfigbjjaffkidaaXBatchBackWGuard
import Derived.Test.YtfigbjjaffkidaaXBatchBackWNEv
import Derived.Test.YtfigbjjaffkidaaXBatchBackWMore
import Derived.Laws.BitsAllLaws
import Derived.OpenShut
import Derived.Laws.LoneSync
set_option linter.unusedVariables false
set_option linter.unusedSimpArgs false
set_option maxHeartbeats 8000000
set_option maxRecDepth 100000
namespace Go.Proofs.Ytfigbjjaffkidaa.P
open Go.RowKit YtfigbjjaffkidaaW.PrintWords YtfigbjjaffkidaaW.PrintLast YtfigbjjaffkidaaW.PrintMore
section
variable {P : Program} {ops : Array Oper} {Q : Exit → Act → World → Prop} {md : Region.Mode} {S : World → Prop} {ds : List Nat} {T : Bool × List (List Nat × List Nat)} {B : List Nat}
theorem pureA {i : Nat} {N : Option Tmp} {oi : Oper} {v : Value} {fuel : Nat} {l l' : Array Bool} {a a' : Act} {w : World} (HT : Aside0 (rtab md ops = T)) (h : wpAnyLast P md ops Q S ds fuel l' a' w)
    (hl : l.setIfInBounds i true = l' := by simp only [List.setIfInBounds_toArray, List.set_cons_zero, List.set_cons_succ]; rfl) (hi : ops[i]? = some oi := by rfl) (hN : oi.dst = N := by rfl) (hc : anyT T l.toList l'.toList i = true := by kernel_rfl)
    (hQ : ∀ c a w, Q (.panic c) (a.put oi.dst v) w → Q (.panic c) a w := by exact fun _ _ _ h => h) (hw : Region.wanted oi (yielded ops a.tmps) = true := by rfl) (hy : ∀ w', (execOp a.eval oi).run P w' = .ok (.value v) w' := by intro w'; go_simp; with_reducible rfl)
    (ha : a.put N v = a' := by simp only [Act.put, List.setIfInBounds_toArray, List.set_cons_zero, List.set_cons_succ, i64_w, i32_w]; rfl) : wpAnyLast P md ops Q S ds (fuel + 1) l a w :=
  pure_ l' hi hN (any_of HT.out hc) hQ (Or.inl ⟨hw, hy⟩) ha h
theorem takeA {i : Nat} {N : Option Tmp} {oi : Oper} {v : Value} {fuel : Nat} {l l' : Array Bool} {a a' : Act} {w : World} (HT : Aside0 (rtab md ops = T)) (HW : Aside0 (waitsOk T.2 B = true)) (hS : S w) (h : wpAnyLast P md ops Q S ds fuel l' a' w)
    (hl : l.setIfInBounds i true = l' := by simp only [List.setIfInBounds_toArray, List.set_cons_zero, List.set_cons_succ]; rfl) (hi : ops[i]? = some oi := by rfl) (hN : oi.dst = N := by rfl) (hc : takeW T B ds l.toList l'.toList i = true := by kernel_rfl)
    (hQ : ∀ c a w, Q (.panic c) (a.put oi.dst v) w → Q (.panic c) a w := by exact fun _ _ _ h => h) (hw : Region.wanted oi (yielded ops a.tmps) = true := by rfl) (hy : ∀ w', S w' → (execOp a.eval oi).run P w' = .ok (.value v) w' := by intro w' s; (repeat (obtain ⟨s0, s⟩ := s)); go_simp; with_reducible rfl)
    (ha : a.put N v = a' := by simp only [Act.put, List.setIfInBounds_toArray, List.set_cons_zero, List.set_cons_succ, i64_w, i32_w]; rfl) : wpAnyLast P md ops Q S ds (fuel + 1) l a w :=
  take_ l' hi hN (take_ofW HT.out HW.out hc) hQ (Or.inl ⟨hw, hy⟩) hS ha h
theorem oneA {i : Nat} {N : Option Tmp} {oi : Oper} {fuel : Nat} {l l' : Array Bool} {a : Act} {w : World} (HT : Aside0 (rtab md ops = T))
    (h : ∀ K : Act → World → Prop, Shut (∀ a' w', S w' → (S w' → wpAnyLast P md ops Q S ds fuel l' a' w') → K a' w') → if Region.wanted oi (yielded ops a.tmps) = true then Oper.wp P oi a w K Q else K (a.put N undef) w)
    (hl : l.setIfInBounds i true = l' := by simp only [List.setIfInBounds_toArray, List.set_cons_zero, List.set_cons_succ]; rfl) (hi : ops[i]? = some oi := by rfl) (hN : oi.dst = N := by rfl) (hc : (readyT T.2 l.toList == [i] && l.toList.set i true == l'.toList) = true := by kernel_rfl) (hd : i ∉ ds := by decide) :
    wpAnyLast P md ops Q S ds (fuel + 1) l a w := one_ l' hi hN (one_of HT.out hc) hd h
theorem normA {N : Tmp} {v : Value} {fuel : Nat} {l : Array Bool} {a a' : Act} {w : World} (h : wpAnyLast P md ops Q S ds fuel l a' w) (ha : a.put (some N) v = a' := by simp only [Act.put, List.setIfInBounds_toArray, List.set_cons_zero, List.set_cons_succ, i64_w, i32_w]; rfl) : wpAnyLast P md ops Q S ds fuel l (a.put (some N) v) w := norm_ ha h
theorem goesA {rest : List Oper} {oi : Oper} {a : Act} {w : World} (N : Option Tmp) {f : FuncId} {fn : Func} {as_ : Array Operand} {ts : Array TypeId} (hf : P.funcs[f]? = some fn) (args : Array Value)
    (h : Calls P f args w fun e w' => ∃ v, e = .returned v ∧ wpList P ops Q rest (a.put N v) w') (hd : oi.dst = N := by rfl) (hg : oi.guard = none := by rfl) (hname : (fn.name == "runtime.NumGoroutine") = false := by kernel_rfl) (hb : fn.body.isSome = true := by rfl)
    (hop : oi.op = .call { callee := .value (.func f), args := as_, argTypes := ts } := by rfl) (hargs : as_.map a.eval = args := by (try simp only [List.map_toArray, List.map_cons, List.map_nil]); first | done | rfl | (simp only [List.length_drop, List.length_take]; rfl)) :
    wpList P ops Q (oi :: rest) a w := goesL_ N hd hg hf hname hb args hop hargs h
end
theorem upV {p q : Prop} (h : Aside0 p) (e : p → q := by intro h_; (with_reducible repeat (first | apply Kd.V_alloc | apply Kd.V_drewN | apply Kd.V_drew)); exact h_) : q := e h.out
theorem upR {p q : Prop} (h : Aside0 p) (e : p → q := by intro h_; (with_reducible repeat (first | apply Kd.R_alloc | apply Kd.R_drewN | apply Kd.R_drew)); exact h_) : q := e h.out
theorem upN {p q : Prop} (h : Aside0 p) (e : p → q := by intro h_; (with_reducible repeat (first | apply Kd.N_alloc | apply Kd.N_drewN | apply Kd.N_drew)); exact h_) : q := e h.out
theorem upK {p q : Prop} (h : Aside0 p) (e : p → q := by intro h_; (with_reducible repeat (first | refine blk_drewN ?_ _ | refine blk_drew ?_ | refine blk_alloc ?_ _)); exact h_) : q := e h.out
theorem upB {p q : Prop} (h : Aside0 p) (e : p → q := by intro h_; repeat (first | (with_reducible first | exact h_ | apply below_alloc | apply pw_below_drewN | apply below_drew1 | refine below_set ?_ (Aside0.out (by assumption))) | exact h_)) : q := e h.out
end Go.Proofs.Ytfigbjjaffkidaa.P
namespace Go.Proofs.Ytfigbjjaffkidaa.P
open Go.RowKit YtfigbjjaffkidaaW.PrintWords YtfigbjjaffkidaaW.PrintLast YtfigbjjaffkidaaW.PrintMore
attribute [local go_sem] max2_int min2_int max_two min_two max_three min_three max_four min_four
def errW : Option Int → Value
 | none => .nilIface
 | some c => .iface 0 (.int .i64 c)
theorem errW_none : errW none = .nilIface := rfl
theorem errW_some (c : Int) : errW (some c) = .iface 0 (.int .i64 c) := rfl
theorem info5 : (Try.prog.info? 5).map (fun i => (i.zero, i.size, i.bytes)) = some (some (.int .u8 0), 1, 1) := by kernel_rfl
theorem info45 : (Try.prog.info? 45).map (fun i => (i.zero, i.size, i.bytes)) = some (some (.agg #[(.int .i64 0), (.int .i64 0), (.bool false), (.int .i64 0), (.int .i64 0), (.int .i64 0), (.int .i64 0), (.int .i64 0), (.int .i64 0), (.int .i64 0), (.int .i64 0), (.int .i64 0)]), 12, 96) := by kernel_rfl
structure S41 where
 f0 : Bool
 f1 : Int
 f2 : Int
 f3 : Int
 f4 : Int
 f5 : Int
def z41 : S41 := ⟨false, (0 : Int), (0 : Int), (0 : Int), (0 : Int), (0 : Int)⟩
def k41 : Kd S41 := Kd.iso (Kd.pair Kd.bool (Kd.pair (Kd.int .i64) (Kd.pair (Kd.int .i64) (Kd.pair (Kd.int .i64) (Kd.pair (Kd.int .i64) (Kd.int .i64)))))) (fun x : S41 => (x.f0, x.f1, x.f2, x.f3, x.f4, x.f5))
theorem k41_open {w : World} {x : S41} {cs : List Value} (h : k41.K w x cs) : cs = [.bool x.f0, .int .i64 x.f1, .int .i64 x.f2, .int .i64 x.f3, .int .i64 x.f4, .int .i64 x.f5] := by
 obtain ⟨_, _, rfl, rfl, ⟨_, _, rfl, rfl, ⟨_, _, rfl, rfl, ⟨_, _, rfl, rfl, ⟨_, _, rfl, rfl, rfl⟩⟩⟩⟩⟩ := h
 exact rfl
theorem k41_mkM (w : World) (base : Nat) (ok : Nat → Prop) (x : S41)  : k41.M w base ok x [.bool x.f0, .int .i64 x.f1, .int .i64 x.f2, .int .i64 x.f3, .int .i64 x.f4, .int .i64 x.f5] := ⟨[.bool x.f0], [.int .i64 x.f1, .int .i64 x.f2, .int .i64 x.f3, .int .i64 x.f4, .int .i64 x.f5], rfl, rfl, ⟨[.int .i64 x.f1], [.int .i64 x.f2, .int .i64 x.f3, .int .i64 x.f4, .int .i64 x.f5], rfl, rfl, ⟨[.int .i64 x.f2], [.int .i64 x.f3, .int .i64 x.f4, .int .i64 x.f5], rfl, rfl, ⟨[.int .i64 x.f3], [.int .i64 x.f4, .int .i64 x.f5], rfl, rfl, ⟨[.int .i64 x.f4], [.int .i64 x.f5], rfl, rfl, rfl⟩⟩⟩⟩⟩
structure S43 where
 f0 : Int
 f1 : Int
 f2 : Int
def z43 : S43 := ⟨(0 : Int), (0 : Int), (0 : Int)⟩
def k43 : Kd S43 := Kd.iso (Kd.pair (Kd.int .i64) (Kd.pair (Kd.int .i64) (Kd.int .i64))) (fun x : S43 => (x.f0, x.f1, x.f2))
theorem k43_open {w : World} {x : S43} {cs : List Value} (h : k43.K w x cs) : cs = [.int .i64 x.f0, .int .i64 x.f1, .int .i64 x.f2] := by
 obtain ⟨_, _, rfl, rfl, ⟨_, _, rfl, rfl, rfl⟩⟩ := h
 exact rfl
theorem k43_mkM (w : World) (base : Nat) (ok : Nat → Prop) (x : S43)  : k43.M w base ok x [.int .i64 x.f0, .int .i64 x.f1, .int .i64 x.f2] := ⟨[.int .i64 x.f0], [.int .i64 x.f1, .int .i64 x.f2], rfl, rfl, ⟨[.int .i64 x.f1], [.int .i64 x.f2], rfl, rfl, rfl⟩⟩
structure S45 where
 f0 : Int
 f1 : Int
 f2 : S41
 f3 : S43
 f4 : Int
def z45 : S45 := ⟨(0 : Int), (0 : Int), z41, z43, (0 : Int)⟩
def k45 : Kd S45 := Kd.iso (Kd.pair (Kd.int .i64) (Kd.pair (Kd.int .i64) (Kd.pair k41 (Kd.pair k43 (Kd.int .i64))))) (fun x : S45 => (x.f0, x.f1, x.f2, x.f3, x.f4))
theorem k45_open {w : World} {x : S45} {cs : List Value} (h : k45.K w x cs) : cs = [.int .i64 x.f0, .int .i64 x.f1, .bool x.f2.f0, .int .i64 x.f2.f1, .int .i64 x.f2.f2, .int .i64 x.f2.f3, .int .i64 x.f2.f4, .int .i64 x.f2.f5, .int .i64 x.f3.f0, .int .i64 x.f3.f1, .int .i64 x.f3.f2, .int .i64 x.f4] := by
 obtain ⟨_, _, rfl, rfl, ⟨_, _, rfl, rfl, ⟨_, _, rfl, s2, ⟨_, _, rfl, s8, rfl⟩⟩⟩⟩ := h
 obtain rfl := k41_open s2
 obtain rfl := k43_open s8
 exact rfl
theorem k45_mkM (w : World) (base : Nat) (ok : Nat → Prop) (x : S45)  : k45.M w base ok x [.int .i64 x.f0, .int .i64 x.f1, .bool x.f2.f0, .int .i64 x.f2.f1, .int .i64 x.f2.f2, .int .i64 x.f2.f3, .int .i64 x.f2.f4, .int .i64 x.f2.f5, .int .i64 x.f3.f0, .int .i64 x.f3.f1, .int .i64 x.f3.f2, .int .i64 x.f4] := ⟨[.int .i64 x.f0], [.int .i64 x.f1, .bool x.f2.f0, .int .i64 x.f2.f1, .int .i64 x.f2.f2, .int .i64 x.f2.f3, .int .i64 x.f2.f4, .int .i64 x.f2.f5, .int .i64 x.f3.f0, .int .i64 x.f3.f1, .int .i64 x.f3.f2, .int .i64 x.f4], rfl, rfl, ⟨[.int .i64 x.f1], [.bool x.f2.f0, .int .i64 x.f2.f1, .int .i64 x.f2.f2, .int .i64 x.f2.f3, .int .i64 x.f2.f4, .int .i64 x.f2.f5, .int .i64 x.f3.f0, .int .i64 x.f3.f1, .int .i64 x.f3.f2, .int .i64 x.f4], rfl, rfl, ⟨[.bool x.f2.f0, .int .i64 x.f2.f1, .int .i64 x.f2.f2, .int .i64 x.f2.f3, .int .i64 x.f2.f4, .int .i64 x.f2.f5], [.int .i64 x.f3.f0, .int .i64 x.f3.f1, .int .i64 x.f3.f2, .int .i64 x.f4], rfl, (k41_mkM w base ok x.f2 ), ⟨[.int .i64 x.f3.f0, .int .i64 x.f3.f1, .int .i64 x.f3.f2], [.int .i64 x.f4], rfl, (k43_mkM w base ok x.f3 ), rfl⟩⟩⟩⟩
def rd_T45 (xs : List S45) (i : Int) : S45 := xs.getD i.toNat z45
theorem at_T45 {w : World} {A : Option Addr} {n : Nat} {xs : List S45} (h : Kd.C k45 w A n xs) (i : Int) (h0 : 0 ≤ i) (h1 : i < n) : ∃ ad , A = some ad ∧ w.cell? (ad.add (i.toNat * 12)) = some (.int .i64 (rd_T45 xs i).f0) ∧ w.cell? ⟨(ad.add (i.toNat * 12)).block, (ad.add (i.toNat * 12)).off + 1, none⟩ = some (.int .i64 (rd_T45 xs i).f1) ∧ w.cell? ⟨(ad.add (i.toNat * 12)).block, (ad.add (i.toNat * 12)).off + 2, none⟩ = some (.bool (rd_T45 xs i).f2.f0) ∧ w.cell? ⟨(ad.add (i.toNat * 12)).block, (ad.add (i.toNat * 12)).off + 3, none⟩ = some (.int .i64 (rd_T45 xs i).f2.f1) ∧ w.cell? ⟨(ad.add (i.toNat * 12)).block, (ad.add (i.toNat * 12)).off + 4, none⟩ = some (.int .i64 (rd_T45 xs i).f2.f2) ∧ w.cell? ⟨(ad.add (i.toNat * 12)).block, (ad.add (i.toNat * 12)).off + 5, none⟩ = some (.int .i64 (rd_T45 xs i).f2.f3) ∧ w.cell? ⟨(ad.add (i.toNat * 12)).block, (ad.add (i.toNat * 12)).off + 6, none⟩ = some (.int .i64 (rd_T45 xs i).f2.f4) ∧ w.cell? ⟨(ad.add (i.toNat * 12)).block, (ad.add (i.toNat * 12)).off + 7, none⟩ = some (.int .i64 (rd_T45 xs i).f2.f5) ∧ w.cell? ⟨(ad.add (i.toNat * 12)).block, (ad.add (i.toNat * 12)).off + 8, none⟩ = some (.int .i64 (rd_T45 xs i).f3.f0) ∧ w.cell? ⟨(ad.add (i.toNat * 12)).block, (ad.add (i.toNat * 12)).off + 9, none⟩ = some (.int .i64 (rd_T45 xs i).f3.f1) ∧ w.cell? ⟨(ad.add (i.toNat * 12)).block, (ad.add (i.toNat * 12)).off + 10, none⟩ = some (.int .i64 (rd_T45 xs i).f3.f2) ∧ w.cell? ⟨(ad.add (i.toNat * 12)).block, (ad.add (i.toNat * 12)).off + 11, none⟩ = some (.int .i64 (rd_T45 xs i).f4) := by
 obtain ⟨ad, c, e, _, hK, hc0⟩ := Kd.C_get h z45 i h0 h1
 have hc : ∀ j u, c[j]? = some u → w.cell? (ad.add (i.toNat * 12 + j)) = some u := hc0
 obtain rfl := k45_open hK
 exact ⟨ad, e, hc 0 _ rfl, by rw [← add_field _ _ 1 (by omega)]; exact hc 1 _ rfl, by rw [← add_field _ _ 2 (by omega)]; exact hc 2 _ rfl, by rw [← add_field _ _ 3 (by omega)]; exact hc 3 _ rfl, by rw [← add_field _ _ 4 (by omega)]; exact hc 4 _ rfl, by rw [← add_field _ _ 5 (by omega)]; exact hc 5 _ rfl, by rw [← add_field _ _ 6 (by omega)]; exact hc 6 _ rfl, by rw [← add_field _ _ 7 (by omega)]; exact hc 7 _ rfl, by rw [← add_field _ _ 8 (by omega)]; exact hc 8 _ rfl, by rw [← add_field _ _ 9 (by omega)]; exact hc 9 _ rfl, by rw [← add_field _ _ 10 (by omega)]; exact hc 10 _ rfl, by rw [← add_field _ _ 11 (by omega)]; exact hc 11 _ rfl⟩
def rd_L7 (xs : List (List Int)) (i : Int) : (List Int) := xs.getD i.toNat ([] : List Int)
theorem at_L7 {w : World} {A : Option Addr} {n : Nat} {xs : List (List Int)} (h : Kd.C (Kd.slice 5 (Kd.int .u8)) w A n xs) (i : Int) (h0 : 0 ≤ i) (h1 : i < n) : ∃ ad A0 c0, A = some ad ∧ w.cell? (ad.add i.toNat) = some (.slice A0 (rd_L7 xs i).length c0) ∧ (rd_L7 xs i).length ≤ c0 ∧ (Kd.int .u8).C w A0 (rd_L7 xs i).length (rd_L7 xs i) := by
 obtain ⟨ad, c, e, _, hK, hc0⟩ := Kd.C_get h ([] : List Int) i h0 h1
 have hc : ∀ j u, c[j]? = some u → w.cell? (ad.add (i.toNat * 1 + j)) = some u := hc0
 obtain ⟨A0, c0, rfl, l0, g0⟩ := hK
 exact ⟨ad, A0, c0, e, by have hq := hc 0 _ rfl; rwa [Nat.mul_one, Nat.add_zero] at hq, l0, g0⟩
structure S24 where
 f0 : Int
 f1 : (List S45)
def z24 : S24 := ⟨(0 : Int), ([] : List S45)⟩
def k24 : Kd S24 := Kd.iso (Kd.pair (Kd.int .i64) (Kd.slice 45 k45)) (fun x : S24 => (x.f0, x.f1))
theorem k24_open {w : World} {x : S24} {cs : List Value} (h : k24.K w x cs) : ∃ A1 c1, cs = [.int .i64 x.f0, .slice A1 x.f1.length c1] ∧ x.f1.length ≤ c1 ∧ k45.C w A1 x.f1.length x.f1 := by
 obtain ⟨_, _, rfl, rfl, ⟨A1, c1, rfl, l1, g1⟩⟩ := h
 exact ⟨A1, c1, rfl, l1, g1⟩
theorem k24_mk (w : World) (x : S24) {A1 : Option Addr} {c1 : Nat} (l1 : x.f1.length ≤ c1) (g1 : k45.C w A1 x.f1.length x.f1) : k24.K w x [.int .i64 x.f0, .slice A1 x.f1.length c1] := ⟨[.int .i64 x.f0], [.slice A1 x.f1.length c1], rfl, rfl, ⟨A1, c1, rfl, l1, g1⟩⟩
theorem k24_mkF (W : World) (ok : Nat → Prop) (x : S24) {A1 : Option Addr} {c1 : Nat} (l1 : x.f1.length ≤ c1) (g1 : Kd.F k45 W ok A1 x.f1.length x.f1) : Kd.FK k24 W ok x [.int .i64 x.f0, .slice A1 x.f1.length c1] := fun W2 hW => k24_mk W2 x l1 (g1 W2 hW)
def rd_T24 (xs : List S24) (i : Int) : S24 := xs.getD i.toNat z24
theorem at_T24 {w : World} {A : Option Addr} {n : Nat} {xs : List S24} (h : Kd.C k24 w A n xs) (i : Int) (h0 : 0 ≤ i) (h1 : i < n) : ∃ ad A1 c1, A = some ad ∧ w.cell? (ad.add (i.toNat * 2)) = some (.int .i64 (rd_T24 xs i).f0) ∧ w.cell? ⟨(ad.add (i.toNat * 2)).block, (ad.add (i.toNat * 2)).off + 1, none⟩ = some (.slice A1 (rd_T24 xs i).f1.length c1) ∧ (rd_T24 xs i).f1.length ≤ c1 ∧ k45.C w A1 (rd_T24 xs i).f1.length (rd_T24 xs i).f1 := by
 obtain ⟨ad, c, e, _, hK, hc0⟩ := Kd.C_get h z24 i h0 h1
 have hc : ∀ j u, c[j]? = some u → w.cell? (ad.add (i.toNat * 2 + j)) = some u := hc0
 obtain ⟨A1, c1, rfl, l1, g1⟩ := k24_open hK
 exact ⟨ad, A1, c1, e, hc 0 _ rfl, by rw [← add_field _ _ 1 (by omega)]; exact hc 1 _ rfl, l1, g1⟩
theorem eqA41 (d : Nat) (w : World) (x0 y0 : Bool) (x1 y1 : Int) (x2 y2 : Int) (x3 y3 : Int) (x4 y4 : Int) (x5 y5 : Int) :
  (Op.equalIn (d + 2) 41 (.agg #[.bool x0, .int .i64 x1, .int .i64 x2, .int .i64 x3, .int .i64 x4, .int .i64 x5]) (.agg #[.bool y0, .int .i64 y1, .int .i64 y2, .int .i64 y3, .int .i64 y4, .int .i64 y5])).run Try.prog w = .ok (x0 == y0 && (x1 == y1 && (x2 == y2 && (x3 == y3 && (x4 == y4 && (x5 == y5)))))) w := by
 refine eqA_of Try.underlying41 (by kernel_rfl) ?_
 refine eqf_cons (by rfl) (by go_simp; rfl) (by go_simp; rfl) (by go_simp) ?_
 refine eqf_cons (by rfl) (by go_simp; rfl) (by go_simp; rfl) (by go_simp) ?_
 refine eqf_cons (by rfl) (by go_simp; rfl) (by go_simp; rfl) (by go_simp) ?_
 refine eqf_cons (by rfl) (by go_simp; rfl) (by go_simp; rfl) (by go_simp) ?_
 refine eqf_cons (by rfl) (by go_simp; rfl) (by go_simp; rfl) (by go_simp) ?_
 exact eqf_last (by rfl) (by go_simp; rfl) (by go_simp; rfl) (by go_simp)
theorem eqA43 (d : Nat) (w : World) (x0 y0 : Int) (x1 y1 : Int) (x2 y2 : Int) :
  (Op.equalIn (d + 2) 43 (.agg #[.int .i64 x0, .int .i64 x1, .int .i64 x2]) (.agg #[.int .i64 y0, .int .i64 y1, .int .i64 y2])).run Try.prog w = .ok (x0 == y0 && (x1 == y1 && (x2 == y2))) w := by
 refine eqA_of Try.underlying43 (by kernel_rfl) ?_
 refine eqf_cons (by rfl) (by go_simp; rfl) (by go_simp; rfl) (by go_simp) ?_
 refine eqf_cons (by rfl) (by go_simp; rfl) (by go_simp; rfl) (by go_simp) ?_
 exact eqf_last (by rfl) (by go_simp; rfl) (by go_simp; rfl) (by go_simp)
theorem eqA45 (d : Nat) (w : World) (x0 y0 : Int) (x1 y1 : Int) (x2 y2 : Bool) (x3 y3 : Int) (x4 y4 : Int) (x5 y5 : Int) (x6 y6 : Int) (x7 y7 : Int) (x8 y8 : Int) (x9 y9 : Int) (x10 y10 : Int) (x11 y11 : Int) :
  (Op.equalIn (d + 3) 45 (.agg #[.int .i64 x0, .int .i64 x1, .bool x2, .int .i64 x3, .int .i64 x4, .int .i64 x5, .int .i64 x6, .int .i64 x7, .int .i64 x8, .int .i64 x9, .int .i64 x10, .int .i64 x11]) (.agg #[.int .i64 y0, .int .i64 y1, .bool y2, .int .i64 y3, .int .i64 y4, .int .i64 y5, .int .i64 y6, .int .i64 y7, .int .i64 y8, .int .i64 y9, .int .i64 y10, .int .i64 y11])).run Try.prog w = .ok (x0 == y0 && (x1 == y1 && ((x2 == y2 && (x3 == y3 && (x4 == y4 && (x5 == y5 && (x6 == y6 && (x7 == y7)))))) && ((x8 == y8 && (x9 == y9 && (x10 == y10))) && (x11 == y11))))) w := by
 refine eqA_of Try.underlying45 (by kernel_rfl) ?_
 refine eqf_cons (by rfl) (by go_simp; rfl) (by go_simp; rfl) (by go_simp) ?_
 refine eqf_cons (by rfl) (by go_simp; rfl) (by go_simp; rfl) (by go_simp) ?_
 refine eqf_cons (by rfl) (by go_simp) (by go_simp) (eqA41 (d + 0) w _ _ _ _ _ _ _ _ _ _ _ _) ?_
 refine eqf_cons (by rfl) (by go_simp) (by go_simp) (eqA43 (d + 0) w _ _ _ _ _ _) ?_
 exact eqf_last (by rfl) (by go_simp; rfl) (by go_simp; rfl) (by go_simp)
end Go.Proofs.Ytfigbjjaffkidaa.P
namespace Go.Proofs.Ytfigbjjaffkidaa.P
open Go.RowKit YtfigbjjaffkidaaW.PrintWords YtfigbjjaffkidaaW.PrintLast YtfigbjjaffkidaaW.PrintMore
open YtfigbjjaffkidaaW.PrintWords renaming below_alloc → YA, pw_below_drewN → YB, below_drew1 → YC, blk_drewN → YD, blk_drew → YE, blk_alloc → YF, blk_cell → YG, blk_frozen → YH
open YtfigbjjaffkidaaW.PrintWords.Aside0 renaming mk → YI
attribute [local go_sem] max2_int min2_int max_two min_two max_three min_three max_four min_four
def thalwegref04_Own.f (l0 : List (S45)) : Option ((List (S45))) := if ([] : List (S45)).length + l0.length < 1466015503701 then (some (([] : List (S45)) ++ l0)) else (none)
def height_Null.f (a0 : Int) : Option (Bool × Int × Int × Int × Int × Int) := some (true, 0, 0, 0, 0, a0)
theorem height_Null.calls (a0 : Int) (r1 : Bool) (r2 : Int) (r3 : Int) (r4 : Int) (r5 : Int) (r6 : Int) (w : World) (h : height_Null.f a0 = some (r1, r2, r3, r4, r5, r6)) :
  Calls Try.prog 51 #[.int .i64 a0] w fun e w' => e = .returned (.agg #[.bool r1, .int .i64 r2, .int .i64 r3, .int .i64 r4, .int .i64 r5, .int .i64 r6]) ∧ Below w.heap.size w w' := by
 have hu41 := Try.underlying41
 have HB := YI (Below.refl w.heap.size w)
 have H : (some (true, 0, 0, 0, 0, a0)) = some (r1, r2, r3, r4, r5, r6) := h
 clear h
 simp only [Option.some.injEq, Prod.mk.injEq] at H
 obtain ⟨rfl, rfl, rfl, rfl, rfl, rfl⟩ := H
 go_enter Try.func51, Try.ntmps51
 go_wp2_with (first | ((with_reducible refine gate_dst (N := 2) rfl ?_); refine box_event ?hg (N := 2) ?hd (cs := #[.bool false, .int .i64 0, .int .i64 0, .int .i64 0, .int .i64 0, .int .i64 0]) (t := 41) ?hr ?_; (case hd => rfl); (case hg => rfl); (case hr => first | (go_simp; done) | (go_simp; rfl)); intro gb104 hg w2 hbox hb; have n0_ := YI (below_step (upB HB) hb); have n1_ := YI (hbox); have n2_ := YI ((by rw [hg]; exact (below_size (upB HB)) : w.heap.size ≤ gb104)); have n3_ := YI ((by rw [hg]; exact (below_size (upB HB)) : w.heap.size ≤ gb104)); clear HB; have HB := n0_; have BK104 := n1_; have GW104 := n2_; have GE104 := n3_; clear n0_ n1_ n2_ n3_; clear hb hbox hg; have q3_0 : w2.cell? ⟨gb104, 0, none⟩ = some (.bool false) := (YG BK104.out 0).trans rfl; have q3_1 : w2.cell? ⟨gb104, 1, none⟩ = some (.int .i64 0) := (YG BK104.out 1).trans rfl; have q3_2 : w2.cell? ⟨gb104, 2, none⟩ = some (.int .i64 0) := (YG BK104.out 2).trans rfl; have q3_3 : w2.cell? ⟨gb104, 3, none⟩ = some (.int .i64 0) := (YG BK104.out 3).trans rfl; have q3_4 : w2.cell? ⟨gb104, 4, none⟩ = some (.int .i64 0) := (YG BK104.out 4).trans rfl; have q3_5 : w2.cell? ⟨gb104, 5, none⟩ = some (.int .i64 0) := (YG BK104.out 5).trans rfl; have f3_0 := YH BK104.out 0; have f3_1 := YH BK104.out 1; have f3_2 := YH BK104.out 2; have f3_3 := YH BK104.out 3; have f3_4 := YH BK104.out 4; have f3_5 := YH BK104.out 5))
 refine bodyPost_ret (results_cell_row rfl _ _ gb104 41 #[.bool true, .int .i64 0, .int .i64 0, .int .i64 0, .int .i64 0, .int .i64 a0] (0, 0) _ rfl (by (with_reducible repeat (first | refine YD ?_ _ | refine YE ?_ | refine YF ?_ _)); refine blk_put (cs := #[.bool true, .int .i64 0, .int .i64 0, .int .i64 0, .int .i64 0, .int .i64 0]) ?_ 5 _ rfl; (with_reducible repeat (first | refine YD ?_ _ | refine YE ?_ | refine YF ?_ _)); refine blk_put (cs := #[.bool true, .int .i64 0, .int .i64 0, .int .i64 0, .int .i64 0, .int .i64 0]) ?_ 4 _ rfl; (with_reducible repeat (first | refine YD ?_ _ | refine YE ?_ | refine YF ?_ _)); refine blk_put (cs := #[.bool true, .int .i64 0, .int .i64 0, .int .i64 0, .int .i64 0, .int .i64 0]) ?_ 3 _ rfl; (with_reducible repeat (first | refine YD ?_ _ | refine YE ?_ | refine YF ?_ _)); refine blk_put (cs := #[.bool true, .int .i64 0, .int .i64 0, .int .i64 0, .int .i64 0, .int .i64 0]) ?_ 2 _ rfl; (with_reducible repeat (first | refine YD ?_ _ | refine YE ?_ | refine YF ?_ _)); refine blk_put (cs := #[.bool true, .int .i64 0, .int .i64 0, .int .i64 0, .int .i64 0, .int .i64 0]) ?_ 1 _ rfl; (with_reducible repeat (first | refine YD ?_ _ | refine YE ?_ | refine YF ?_ _)); refine blk_put (cs := #[.bool false, .int .i64 0, .int .i64 0, .int .i64 0, .int .i64 0, .int .i64 0]) ?_ 0 _ rfl; (with_reducible repeat (first | refine YD ?_ _ | refine YE ?_ | refine YF ?_ _)); exact BK104.out) Try.underlying41 rfl (by kernel_rfl)) rfl ?_
 exact ⟨by first | rfl | (simp [errW_none, errW_some] <;> rfl) | (simp [*, errW_none, errW_some] <;> rfl), by repeat (first | (with_reducible first | exact HB.out | apply YA | apply YB | apply YC | refine below_set ?_ GE104.out) | exact HB.out)⟩
end Go.Proofs.Ytfigbjjaffkidaa.P
namespace Go.Proofs.Ytfigbjjaffkidaa.P
open Go.RowKit YtfigbjjaffkidaaW.PrintWords YtfigbjjaffkidaaW.PrintLast YtfigbjjaffkidaaW.PrintMore
open YtfigbjjaffkidaaW.PrintWords renaming below_alloc → YA, pw_below_drewN → YB, below_drew1 → YC, blk_drewN → YD, blk_drew → YE, blk_alloc → YF, blk_cell → YG, blk_frozen → YH
open YtfigbjjaffkidaaW.PrintWords.Aside0 renaming mk → YI
open List renaming setIfInBounds_toArray → YJ, set_cons_zero → YK, set_cons_succ → YL
attribute [local go_sem] max2_int min2_int max_two min_two max_three min_three max_four min_four
attribute [local go_sem high] eqA41
def height_Check.j0 : Nat → Bool → Bool → Int → Int → Int → Int → Int → Option (Int)
 | 0, _, _, _, _, _, _, _ => none
 | k + 1, x3, x106000, x106001, x106002, x106003, x106004, x106005 => if x106000 = true then (if x3 = true then ((height_Null.f x106005).bind fun bt106 => (if ((bt106.1 && (x106001 == bt106.2.1 && (x106002 == bt106.2.2.1 && (x106003 == bt106.2.2.2.1 && (x106004 == bt106.2.2.2.2.1 && (x106005 == bt106.2.2.2.2.2)))))) = true) then (some 0) else (some 1))) else (some 1)) else (if x3 = true then (if x106001 ≥ 0 then (if x106001 ≤ 4611686018427387903 then (if x106002 ≥ 0 then (if x106002 < 64 then (if (x106003 / 2) = 0 then (if x106004 ≥ (-1099511627776) then (if x106004 ≤ 1099511627776 then (some 0) else (some 1)) else (some 1)) else (some 1)) else (some 1)) else (some 1)) else (some 1)) else (some 1)) else (some 1))
def height_Check.f (k : Nat) (a0_0 : Bool) (a0_1 : Int) (a0_2 : Int) (a0_3 : Int) (a0_4 : Int) (a0_5 : Int) : Option (Int) := if a0_5 ≥ 0 then (height_Check.j0 k (decide (a0_5 < 64)) a0_0 a0_1 a0_2 a0_3 a0_4 a0_5) else (height_Check.j0 k false a0_0 a0_1 a0_2 a0_3 a0_4 a0_5)
theorem height_Check.mono_l : ∀ k, (∀ y0 y1 y2 y3 y4 y5 y6, LeO (height_Check.j0 k y0 y1 y2 y3 y4 y5 y6) (height_Check.j0 (k + 1) y0 y1 y2 y3 y4 y5 y6))
 | 0 => fun _ _ _ _ _ _ _ r h => by simp [height_Check.j0] at h
 | k + 1 => by
  have ih0 := height_Check.mono_l k
  ·intro y0 y1 y2 y3 y4 y5 y6
   unfold height_Check.j0
   repeat' first
   | (with_reducible exact ih0 _ _ _ _ _ _ _)
   | (with_reducible exact LeO.refl _)
   | (with_reducible exact LeO.none _)
   | (with_reducible refine LeO.ite ?_ ?_)
   | (with_reducible refine LeO.bind ?_ (fun _ => ?_))
   | exact ih0 _ _ _ _ _ _ _
   | exact LeO.none _
   | refine LeO.ite ?_ ?_
   | refine LeO.bind ?_ (fun _ => ?_)
theorem height_Check.mono : ∀ a0 a1 a2 a3 a4 a5 k, LeO (height_Check.f k a0 a1 a2 a3 a4 a5) (height_Check.f (k + 1) a0 a1 a2 a3 a4 a5) := by
 intro a0 a1 a2 a3 a4 a5 k
 have ih0 := height_Check.mono_l k
 unfold height_Check.f
 repeat' first
   | (with_reducible exact ih0 _ _ _ _ _ _ _)
   | (with_reducible exact LeO.refl _)
   | (with_reducible exact LeO.none _)
   | (with_reducible refine LeO.ite ?_ ?_)
   | (with_reducible refine LeO.bind ?_ (fun _ => ?_))
   | exact ih0 _ _ _ _ _ _ _
   | exact LeO.none _
   | refine LeO.ite ?_ ?_
   | refine LeO.bind ?_ (fun _ => ?_)
def height_Check.T3 : Bool × List (List Nat × List Nat) := (true, [([], []), ([0], [0]), ([1], [1]), ([1], [1]), ([3, 1], [1, 3]), ([4, 1, 1], [1, 4]), ([2, 5, 1], [1, 2, 5]), ([1, 6], [1, 6]), ([7, 5, 0, 1, 2, 3, 4, 5, 6, 7], [0, 7])])
def height_Check.B3 : List Nat := [0, 1, 3, 3, 11, 27, 63, 127, 255]
theorem height_Check.tab3 : rtab .any (opsOf Try.f44 3) = height_Check.T3 := by kernel_rfl
theorem height_Check.bits3 : waitsOk height_Check.T3.2 height_Check.B3 = true := by kernel_rfl
theorem height_Check.calls (k : Nat) (a0_0 : Bool) (a0_1 : Int) (a0_2 : Int) (a0_3 : Int) (a0_4 : Int) (a0_5 : Int) (r : Int) (w : World) (h : height_Check.f k a0_0 a0_1 a0_2 a0_3 a0_4 a0_5 = some r) :
  Calls Try.prog 44 #[.agg #[.bool a0_0, .int .i64 a0_1, .int .i64 a0_2, .int .i64 a0_3, .int .i64 a0_4, .int .i64 a0_5]] w fun e w' => e = .returned (.int .i64 r) ∧ Below w.heap.size w w' := by
 have hu41 := Try.underlying41
 have HB := YI (Below.refl w.heap.size w)
 have H : (if a0_5 ≥ 0 then (height_Check.j0 k (decide (a0_5 < 64)) a0_0 a0_1 a0_2 a0_3 a0_4 a0_5) else (height_Check.j0 k false a0_0 a0_1 a0_2 a0_3 a0_4 a0_5)) = some r := h
 clear h; have HC2 := YI H; clear H
 go_enter Try.func44, Try.ntmps44
 go_upto_region 1 with (first | ((with_reducible refine gate_dst (N := 1) rfl ?_); refine box_event ?hg (N := 1) ?hd (cs := #[.bool a0_0, .int .i64 a0_1, .int .i64 a0_2, .int .i64 a0_3, .int .i64 a0_4, .int .i64 a0_5]) (t := 41) ?hr ?_; (case hd => rfl); (case hg => rfl); (case hr => first | (go_simp; done) | (go_simp; rfl)); intro gb105 hg w3 hbox hb; have n0_ := YI (below_step (upB HB) hb); have n1_ := YI (hbox); have n2_ := YI ((by rw [hg]; exact (below_size (upB HB)) : w.heap.size ≤ gb105)); have n3_ := YI ((by rw [hg]; exact (below_size (upB HB)) : w.heap.size ≤ gb105)); clear HB; have HB := n0_; have BK105 := n1_; have GW105 := n2_; have GE105 := n3_; clear n0_ n1_ n2_ n3_; clear hb hbox hg))
 (try simp only [Act.put, YJ, YK, YL])
 go_cut [3] (fun v3 wc => ∃ (kq : Nat) (x3_1 : Bool), v3 = .bool x3_1 ∧ Aside0 (height_Check.j0 kq x3_1 a0_0 a0_1 a0_2 a0_3 a0_4 a0_5 = some r) ∧ Aside0 (kq ≤ k) ∧ Aside0 (wc.heap[gb105]? = some (.cells #[.bool a0_0, .int .i64 a0_1, .int .i64 a0_2, .int .i64 a0_3, .int .i64 a0_4, .int .i64 a0_5] 41 (0, 0))) ∧ Aside0 (Below w.heap.size w wc))
 case first =>
  have H := HC2.out
  clear HC2
  by_cases c4 : a0_5 ≥ 0
  ·rw [if_pos c4] at H
   have c4b0 : decide (0 ≤ a0_5) = true := decide_eq_true c4; clear c4
   (first | rw [c4b0] | (simp only [i64_w, i32_w]; rw [c4b0]) | rw [c4b1] | skip)
   have H' := YI H
   clear H
   have q5_0 : w3.cell? ⟨gb105, 0, none⟩ = some (.bool a0_0) := (YG BK105.out 0).trans rfl
   have q5_1 : w3.cell? ⟨gb105, 1, none⟩ = some (.int .i64 a0_1) := (YG BK105.out 1).trans rfl
   have q5_2 : w3.cell? ⟨gb105, 2, none⟩ = some (.int .i64 a0_2) := (YG BK105.out 2).trans rfl
   have q5_3 : w3.cell? ⟨gb105, 3, none⟩ = some (.int .i64 a0_3) := (YG BK105.out 3).trans rfl
   have q5_4 : w3.cell? ⟨gb105, 4, none⟩ = some (.int .i64 a0_4) := (YG BK105.out 4).trans rfl
   have q5_5 : w3.cell? ⟨gb105, 5, none⟩ = some (.int .i64 a0_5) := (YG BK105.out 5).trans rfl
   have f5_0 := YH BK105.out 0
   have f5_1 := YH BK105.out 1
   have f5_2 := YH BK105.out 2
   have f5_3 := YH BK105.out 3
   have f5_4 := YH BK105.out 4
   have f5_5 := YH BK105.out 5
   go_wp2
   go_meet
   case rel => exact ⟨_, (decide (a0_5 < 64)), (by first | rfl | (simp; done) | (simp [*]; done)), H', ⟨by first | omega | exact Nat.le_refl _⟩, ⟨by (with_reducible repeat (first | refine YD ?_ _ | refine YE ?_ | refine YF ?_ _)); exact BK105.out⟩, ⟨by repeat (first | (with_reducible first | exact HB.out | apply YA | apply YB | apply YC | refine below_set ?_ GE105.out) | exact HB.out)⟩⟩
  rw [if_neg c4] at H; have c4b0 : decide (0 ≤ a0_5) = false := decide_eq_false c4; clear c4
  (first | rw [c4b0] | (simp only [i64_w, i32_w]; rw [c4b0]) | rw [c4b1] | skip)
  have H' := YI H
  clear H
  have q6_0 : w3.cell? ⟨gb105, 0, none⟩ = some (.bool a0_0) := (YG BK105.out 0).trans rfl
  have q6_1 : w3.cell? ⟨gb105, 1, none⟩ = some (.int .i64 a0_1) := (YG BK105.out 1).trans rfl
  have q6_2 : w3.cell? ⟨gb105, 2, none⟩ = some (.int .i64 a0_2) := (YG BK105.out 2).trans rfl
  have q6_3 : w3.cell? ⟨gb105, 3, none⟩ = some (.int .i64 a0_3) := (YG BK105.out 3).trans rfl
  have q6_4 : w3.cell? ⟨gb105, 4, none⟩ = some (.int .i64 a0_4) := (YG BK105.out 4).trans rfl
  have q6_5 : w3.cell? ⟨gb105, 5, none⟩ = some (.int .i64 a0_5) := (YG BK105.out 5).trans rfl
  have f6_0 := YH BK105.out 0
  have f6_1 := YH BK105.out 1
  have f6_2 := YH BK105.out 2
  have f6_3 := YH BK105.out 3
  have f6_4 := YH BK105.out 4
  have f6_5 := YH BK105.out 5
  go_wp2
  go_meet
  case rel => exact ⟨_, (false), (by first | rfl | (simp; done) | (simp [*]; done)), H', ⟨by first | omega | exact Nat.le_refl _⟩, ⟨by (with_reducible repeat (first | refine YD ?_ _ | refine YE ?_ | refine YF ?_ _)); exact BK105.out⟩, ⟨by repeat (first | (with_reducible first | exact HB.out | apply YA | apply YB | apply YC | refine below_set ?_ GE105.out) | exact HB.out)⟩⟩
 case rest =>
  clear HC2
  try clear p2; try clear c4
  try clear c4b0; try clear q5_0
  try clear q5_1; try clear q5_2
  try clear q5_3; try clear q5_4
  try clear q5_5; try clear q6_0
  try clear q6_1; try clear q6_2
  try clear q6_3; try clear q6_4
  try clear q6_5; try clear f5_0
  try clear f5_1; try clear f5_2
  try clear f5_3; try clear f5_4
  try clear f5_5; try clear f6_0
  try clear f6_1; try clear f6_2
  try clear f6_3; try clear f6_4; try clear f6_5
  obtain ⟨kq, x3_1, rfl, HA, HJ1, BK105, HB⟩ := hcut
  cases kq with
  | zero => exact absurd HA.out (by simp [height_Check.j0])
  | succ kj1 =>
   have H := HA.out
   clear HA
   simp only [height_Check.j0] at H
   by_cases c7 : a0_0 = true
   ·subst c7
    have H1 : (if x3_1 = true then ((height_Null.f a0_5).bind fun bt106 => (if ((bt106.1 && (a0_1 == bt106.2.1 && (a0_2 == bt106.2.2.1 && (a0_3 == bt106.2.2.2.1 && (a0_4 == bt106.2.2.2.2.1 && (a0_5 == bt106.2.2.2.2.2)))))) = true) then (some 0) else (some 1))) else (some 1)) = some r := by rw [if_pos rfl] at H; exact H
    clear H
    have H := H1
    clear H1
    by_cases c8 : x3_1 = true
    ·subst c8
     have H1 : ((height_Null.f a0_5).bind fun bt106 => (if ((bt106.1 && (a0_1 == bt106.2.1 && (a0_2 == bt106.2.2.1 && (a0_3 == bt106.2.2.2.1 && (a0_4 == bt106.2.2.2.2.1 && (a0_5 == bt106.2.2.2.2.2)))))) = true) then (some 0) else (some 1))) = some r := by rw [if_pos rfl] at H; exact H
     clear H
     have H := H1
     clear H1; replace H := Option.bind_eq_some_iff.mp H
     obtain ⟨⟨t106, t107, t108, t109, t110, t111⟩, A90, H⟩ := H
     replace H : (if ((t106 && (a0_1 == t107 && (a0_2 == t108 && (a0_3 == t109 && (a0_4 == t110 && (a0_5 == t111)))))) = true) then (some 0) else (some 1)) = some r := H
     have A9 := YI A90; clear A90
     by_cases c10 : ((t106 && (a0_1 == t107 && (a0_2 == t108 && (a0_3 == t109 && (a0_4 == t110 && (a0_5 == t111)))))) = true)
     ·rw [if_pos c10] at H
      have c10b0 : (t106 && (a0_1 == t107 && (a0_2 == t108 && (a0_3 == t109 && (a0_4 == t110 && (a0_5 == t111)))))) = true := c10
      clear c10
      obtain rfl := Option.some.inj H
      have q11_0 : wc.cell? ⟨gb105, 0, none⟩ = some (.bool true) := (YG BK105.out 0).trans rfl
      have q11_1 : wc.cell? ⟨gb105, 1, none⟩ = some (.int .i64 a0_1) := (YG BK105.out 1).trans rfl
      have q11_2 : wc.cell? ⟨gb105, 2, none⟩ = some (.int .i64 a0_2) := (YG BK105.out 2).trans rfl
      have q11_3 : wc.cell? ⟨gb105, 3, none⟩ = some (.int .i64 a0_3) := (YG BK105.out 3).trans rfl
      have q11_4 : wc.cell? ⟨gb105, 4, none⟩ = some (.int .i64 a0_4) := (YG BK105.out 4).trans rfl
      have q11_5 : wc.cell? ⟨gb105, 5, none⟩ = some (.int .i64 a0_5) := (YG BK105.out 5).trans rfl
      have f11_0 := YH BK105.out 0
      have f11_1 := YH BK105.out 1
      have f11_2 := YH BK105.out 2
      have f11_3 := YH BK105.out 3
      have f11_4 := YH BK105.out 4
      have f11_5 := YH BK105.out 5
      try go_wp2
      have n0_ := YI (YE BK105.out)
      have n1_ := YI (YC HB.out)
      clear BK105; clear HB; have BK105 := n0_; have HB := n1_; clear n0_ n1_
      refine start_ (n := 9) (S := fun w' => w'.cell? ⟨gb105, 0, none⟩ = some (.bool true) ∧ w'.cell? ⟨gb105, 1, none⟩ = some (.int .i64 a0_1) ∧ w'.cell? ⟨gb105, 2, none⟩ = some (.int .i64 a0_2) ∧ w'.cell? ⟨gb105, 3, none⟩ = some (.int .i64 a0_3) ∧ w'.cell? ⟨gb105, 4, none⟩ = some (.int .i64 a0_4) ∧ w'.cell? ⟨gb105, 5, none⟩ = some (.int .i64 a0_5)) (ds := []) #[false, false, false, false, false, false, false, false, false] (by kernel_rfl) rfl rfl ⟨(YG BK105.out 0).trans rfl, (YG BK105.out 1).trans rfl, (YG BK105.out 2).trans rfl, (YG BK105.out 3).trans rfl, (YG BK105.out 4).trans rfl, (YG BK105.out 5).trans rfl⟩ (fun hHeld => ?_); refine with_tabW height_Check.tab3 height_Check.bits3 (fun HT_ HW_ => ?_)
      generalize wc.drew = w12 at BK105 HB hHeld ⊢
      refine pure_ (i := 0) (N := some 14) (v := ?_) (a' := ?_) #[true, false, false, false, false, false, false, false, false] rfl rfl (any_of HT_.out (by kernel_rfl)) (fun _ _ _ h => h) (Or.inl ⟨by rfl, ?_⟩) ?_ ?_
      rotate_left
      ·intro w'
       go_simp; with_reducible rfl
      rotate_left
      ·simp only [Act.put, YJ, YK, YL, i64_w, i32_w]
       rfl
      refine pure_ (i := 1) (N := some 15) (v := ?_) (a' := ?_) #[true, true, false, false, false, false, false, false, false] rfl rfl (any_of HT_.out (by kernel_rfl)) (fun _ _ _ h => h) (Or.inl ⟨by rfl, ?_⟩) ?_ ?_
      rotate_left
      ·intro w'
       go_simp; with_reducible rfl
      rotate_left
      ·simp only [Act.put, YJ, YK, YL, i64_w, i32_w]
       rfl
      refine pure_ (i := 3) (N := some 17) (v := ?_) (a' := ?_) #[true, true, false, true, false, false, false, false, false] rfl rfl (any_of HT_.out (by kernel_rfl)) (fun _ _ _ h => h) (Or.inl ⟨by rfl, ?_⟩) ?_ ?_
      rotate_left
      ·intro w'
       go_simp; with_reducible rfl
      rotate_left
      ·simp only [Act.put, YJ, YK, YL, i64_w, i32_w]
       rfl
      refine take_ (i := 2) (N := some 16) (v := ?_) (a' := ?_) #[true, true, true, true, false, false, false, false, false] rfl rfl (take_ofW HT_.out HW_.out (by kernel_rfl)) (fun _ _ _ h => h) (Or.inl ⟨by rfl, ?_⟩) hHeld ?_ ?_
      rotate_left
      ·rintro w' ⟨s0, s1, s2, s3, s4, s5⟩
       go_simp; with_reducible rfl
      rotate_left
      ·simp only [Act.put, YJ, YK, YL, i64_w, i32_w]
       rfl
      refine take_ (i := 4) (N := some 18) (v := ?_) (a' := ?_) #[true, true, true, true, true, false, false, false, false] rfl rfl (take_ofW HT_.out HW_.out (by kernel_rfl)) (fun _ _ _ h => h) (Or.inl ⟨by rfl, ?_⟩) hHeld ?_ ?_
      rotate_left
      ·rintro w' ⟨s0, s1, s2, s3, s4, s5⟩
       go_simp; with_reducible rfl
      rotate_left
      ·simp only [Act.put, YJ, YK, YL, i64_w, i32_w]
       rfl
      refine oneA (i := 5) (N := some 19) HT_ (fun K hK => ?_)
      refine goes_ Try.func51 (by kernel_rfl) rfl #[.int .i64 a0_5] (by rfl) rfl rfl (by (try simp only [List.map_toArray, List.map_cons, List.map_nil]); first | done | rfl | (simp only [List.length_drop, List.length_take]; rfl)) ?_
      with_reducible refine (height_Null.calls a0_5 t106 t107 t108 t109 t110 t111 _ A9.out).mono ?_
      rintro e w13 ⟨rfl, hb⟩
      refine ⟨_, rfl, ?_⟩
      have n0_ := YI (blk_below (g := gb105) (o := .cells #[.bool true, .int .i64 a0_1, .int .i64 a0_2, .int .i64 a0_3, .int .i64 a0_4, .int .i64 a0_5] 41 (0, 0)) (upK BK105) hb)
      have n1_ := YI (below_step (upB HB) hb)
      clear BK105; clear HB; have BK105 := n0_; have HB := n1_; clear n0_ n1_; (try clear hb); (try clear hb2); (try clear hk); (try clear hi)
      refine hK.out _ _ ⟨(YG BK105.out 0).trans rfl, (YG BK105.out 1).trans rfl, (YG BK105.out 2).trans rfl, (YG BK105.out 3).trans rfl, (YG BK105.out 4).trans rfl, (YG BK105.out 5).trans rfl⟩ (fun hHeld => ?_)
      clear hK K
      refine normA (N := 19) ?_
      refine pure_ (i := 6) (N := some 20) (v := ?_) (a' := ?_) #[true, true, true, true, true, true, true, false, false] rfl rfl (any_of HT_.out (by kernel_rfl)) (fun _ _ _ h => h) (Or.inl ⟨by rfl, ?_⟩) ?_ ?_
      rotate_left
      ·intro w'
       go_simp; with_reducible rfl
      rotate_left
      ·simp only [Act.put, YJ, YK, YL, i64_w, i32_w]
       rfl
      refine pure_ (i := 7) (N := some 21) (v := ?_) (a' := ?_) #[true, true, true, true, true, true, true, true, false] rfl rfl (any_of HT_.out (by kernel_rfl)) (fun _ _ _ h => h) (Or.inl ⟨by rfl, ?_⟩) ?_ ?_
      rotate_left
      ·intro w'
       go_simp; with_reducible rfl
      rotate_left
      ·simp only [Act.put, YJ, YK, YL, i64_w, i32_w]
       rfl
      refine pure_ (i := 8) (N := some 3) (v := ?_) (a' := ?_) #[true, true, true, true, true, true, true, true, true] rfl rfl (any_of HT_.out (by kernel_rfl)) (fun _ _ _ h => h) (Or.inl ⟨by rfl, ?_⟩) ?_ ?_
      rotate_left
      ·intro w'
       go_simp; with_reducible rfl
      rotate_left
      ·simp only [Act.put, YJ, YK, YL, i64_w, i32_w]
       rfl
      refine done_ (done_of HT_.out (by kernel_rfl)) ?_
      try go_wp2
      go_ret
      exact ⟨by first | rfl | (simp [errW_none, errW_some] <;> rfl) | (simp [*, errW_none, errW_some] <;> rfl), by repeat (first | (with_reducible first | exact HB.out | apply YA | apply YB | apply YC | refine below_set ?_ GE105.out) | exact HB.out)⟩
     rw [if_neg c10] at H
     have c10b0 : (t106 && (a0_1 == t107 && (a0_2 == t108 && (a0_3 == t109 && (a0_4 == t110 && (a0_5 == t111)))))) = false := by simpa using c10
     clear c10
     obtain rfl := Option.some.inj H
     have q14_0 : wc.cell? ⟨gb105, 0, none⟩ = some (.bool true) := (YG BK105.out 0).trans rfl
     have q14_1 : wc.cell? ⟨gb105, 1, none⟩ = some (.int .i64 a0_1) := (YG BK105.out 1).trans rfl
     have q14_2 : wc.cell? ⟨gb105, 2, none⟩ = some (.int .i64 a0_2) := (YG BK105.out 2).trans rfl
     have q14_3 : wc.cell? ⟨gb105, 3, none⟩ = some (.int .i64 a0_3) := (YG BK105.out 3).trans rfl
     have q14_4 : wc.cell? ⟨gb105, 4, none⟩ = some (.int .i64 a0_4) := (YG BK105.out 4).trans rfl
     have q14_5 : wc.cell? ⟨gb105, 5, none⟩ = some (.int .i64 a0_5) := (YG BK105.out 5).trans rfl
     have f14_0 := YH BK105.out 0
     have f14_1 := YH BK105.out 1
     have f14_2 := YH BK105.out 2
     have f14_3 := YH BK105.out 3
     have f14_4 := YH BK105.out 4
     have f14_5 := YH BK105.out 5
     try go_wp2
     have n0_ := YI (YE BK105.out)
     have n1_ := YI (YC HB.out)
     clear BK105; clear HB; have BK105 := n0_; have HB := n1_; clear n0_ n1_
     refine start_ (n := 9) (S := fun w' => w'.cell? ⟨gb105, 0, none⟩ = some (.bool true) ∧ w'.cell? ⟨gb105, 1, none⟩ = some (.int .i64 a0_1) ∧ w'.cell? ⟨gb105, 2, none⟩ = some (.int .i64 a0_2) ∧ w'.cell? ⟨gb105, 3, none⟩ = some (.int .i64 a0_3) ∧ w'.cell? ⟨gb105, 4, none⟩ = some (.int .i64 a0_4) ∧ w'.cell? ⟨gb105, 5, none⟩ = some (.int .i64 a0_5)) (ds := []) #[false, false, false, false, false, false, false, false, false] (by kernel_rfl) rfl rfl ⟨(YG BK105.out 0).trans rfl, (YG BK105.out 1).trans rfl, (YG BK105.out 2).trans rfl, (YG BK105.out 3).trans rfl, (YG BK105.out 4).trans rfl, (YG BK105.out 5).trans rfl⟩ (fun hHeld => ?_); refine with_tabW height_Check.tab3 height_Check.bits3 (fun HT_ HW_ => ?_)
     generalize wc.drew = w15 at BK105 HB hHeld ⊢
     refine pure_ (i := 0) (N := some 14) (v := ?_) (a' := ?_) #[true, false, false, false, false, false, false, false, false] rfl rfl (any_of HT_.out (by kernel_rfl)) (fun _ _ _ h => h) (Or.inl ⟨by rfl, ?_⟩) ?_ ?_
     rotate_left
     ·intro w'
      go_simp; with_reducible rfl
     rotate_left
     ·simp only [Act.put, YJ, YK, YL, i64_w, i32_w]
      rfl
     refine pure_ (i := 1) (N := some 15) (v := ?_) (a' := ?_) #[true, true, false, false, false, false, false, false, false] rfl rfl (any_of HT_.out (by kernel_rfl)) (fun _ _ _ h => h) (Or.inl ⟨by rfl, ?_⟩) ?_ ?_
     rotate_left
     ·intro w'
      go_simp; with_reducible rfl
     rotate_left
     ·simp only [Act.put, YJ, YK, YL, i64_w, i32_w]
      rfl
     refine pure_ (i := 3) (N := some 17) (v := ?_) (a' := ?_) #[true, true, false, true, false, false, false, false, false] rfl rfl (any_of HT_.out (by kernel_rfl)) (fun _ _ _ h => h) (Or.inl ⟨by rfl, ?_⟩) ?_ ?_
     rotate_left
     ·intro w'
      go_simp; with_reducible rfl
     rotate_left
     ·simp only [Act.put, YJ, YK, YL, i64_w, i32_w]
      rfl
     refine take_ (i := 2) (N := some 16) (v := ?_) (a' := ?_) #[true, true, true, true, false, false, false, false, false] rfl rfl (take_ofW HT_.out HW_.out (by kernel_rfl)) (fun _ _ _ h => h) (Or.inl ⟨by rfl, ?_⟩) hHeld ?_ ?_
     rotate_left
     ·rintro w' ⟨s0, s1, s2, s3, s4, s5⟩
      go_simp; with_reducible rfl
     rotate_left
     ·simp only [Act.put, YJ, YK, YL, i64_w, i32_w]
      rfl
     refine take_ (i := 4) (N := some 18) (v := ?_) (a' := ?_) #[true, true, true, true, true, false, false, false, false] rfl rfl (take_ofW HT_.out HW_.out (by kernel_rfl)) (fun _ _ _ h => h) (Or.inl ⟨by rfl, ?_⟩) hHeld ?_ ?_
     rotate_left
     ·rintro w' ⟨s0, s1, s2, s3, s4, s5⟩
      go_simp; with_reducible rfl
     rotate_left
     ·simp only [Act.put, YJ, YK, YL, i64_w, i32_w]
      rfl
     refine oneA (i := 5) (N := some 19) HT_ (fun K hK => ?_)
     refine goes_ Try.func51 (by kernel_rfl) rfl #[.int .i64 a0_5] (by rfl) rfl rfl (by (try simp only [List.map_toArray, List.map_cons, List.map_nil]); first | done | rfl | (simp only [List.length_drop, List.length_take]; rfl)) ?_
     with_reducible refine (height_Null.calls a0_5 t106 t107 t108 t109 t110 t111 _ A9.out).mono ?_
     rintro e w16 ⟨rfl, hb⟩
     refine ⟨_, rfl, ?_⟩
     have n0_ := YI (blk_below (g := gb105) (o := .cells #[.bool true, .int .i64 a0_1, .int .i64 a0_2, .int .i64 a0_3, .int .i64 a0_4, .int .i64 a0_5] 41 (0, 0)) (upK BK105) hb)
     have n1_ := YI (below_step (upB HB) hb)
     clear BK105; clear HB; have BK105 := n0_; have HB := n1_; clear n0_ n1_; (try clear hb); (try clear hb2); (try clear hk); (try clear hi)
     refine hK.out _ _ ⟨(YG BK105.out 0).trans rfl, (YG BK105.out 1).trans rfl, (YG BK105.out 2).trans rfl, (YG BK105.out 3).trans rfl, (YG BK105.out 4).trans rfl, (YG BK105.out 5).trans rfl⟩ (fun hHeld => ?_)
     clear hK K
     refine normA (N := 19) ?_
     refine pure_ (i := 6) (N := some 20) (v := ?_) (a' := ?_) #[true, true, true, true, true, true, true, false, false] rfl rfl (any_of HT_.out (by kernel_rfl)) (fun _ _ _ h => h) (Or.inl ⟨by rfl, ?_⟩) ?_ ?_
     rotate_left
     ·intro w'
      go_simp; with_reducible rfl
     rotate_left
     ·simp only [Act.put, YJ, YK, YL, i64_w, i32_w]
      rfl
     refine pure_ (i := 7) (N := some 21) (v := ?_) (a' := ?_) #[true, true, true, true, true, true, true, true, false] rfl rfl (any_of HT_.out (by kernel_rfl)) (fun _ _ _ h => h) (Or.inl ⟨by rfl, ?_⟩) ?_ ?_
     rotate_left
     ·intro w'
      go_simp; with_reducible rfl
     rotate_left
     ·simp only [Act.put, YJ, YK, YL, i64_w, i32_w]
      rfl
     refine pure_ (i := 8) (N := some 3) (v := ?_) (a' := ?_) #[true, true, true, true, true, true, true, true, true] rfl rfl (any_of HT_.out (by kernel_rfl)) (fun _ _ _ h => h) (Or.inl ⟨by rfl, ?_⟩) ?_ ?_
     rotate_left
     ·intro w'
      go_simp; with_reducible rfl
     rotate_left
     ·simp only [Act.put, YJ, YK, YL, i64_w, i32_w]
      rfl
     refine done_ (done_of HT_.out (by kernel_rfl)) ?_
     try go_wp2
     go_ret
     exact ⟨by first | rfl | (simp [errW_none, errW_some] <;> rfl) | (simp [*, errW_none, errW_some] <;> rfl), by repeat (first | (with_reducible first | exact HB.out | apply YA | apply YB | apply YC | refine below_set ?_ GE105.out) | exact HB.out)⟩
    replace c8 := Bool.eq_false_iff.mpr c8
    subst c8
    have H1 : (some 1) = some r := by rw [if_neg (show ¬ (false = true) by decide)] at H; exact H
    clear H
    have H := H1
    clear H1
    obtain rfl := Option.some.inj H
    have q17_0 : wc.cell? ⟨gb105, 0, none⟩ = some (.bool true) := (YG BK105.out 0).trans rfl
    have q17_1 : wc.cell? ⟨gb105, 1, none⟩ = some (.int .i64 a0_1) := (YG BK105.out 1).trans rfl
    have q17_2 : wc.cell? ⟨gb105, 2, none⟩ = some (.int .i64 a0_2) := (YG BK105.out 2).trans rfl
    have q17_3 : wc.cell? ⟨gb105, 3, none⟩ = some (.int .i64 a0_3) := (YG BK105.out 3).trans rfl
    have q17_4 : wc.cell? ⟨gb105, 4, none⟩ = some (.int .i64 a0_4) := (YG BK105.out 4).trans rfl
    have q17_5 : wc.cell? ⟨gb105, 5, none⟩ = some (.int .i64 a0_5) := (YG BK105.out 5).trans rfl
    have f17_0 := YH BK105.out 0
    have f17_1 := YH BK105.out 1
    have f17_2 := YH BK105.out 2
    have f17_3 := YH BK105.out 3
    have f17_4 := YH BK105.out 4
    have f17_5 := YH BK105.out 5
    try go_wp2
    have n0_ := YI (YE BK105.out)
    have n1_ := YI (YC HB.out)
    clear BK105; clear HB; have BK105 := n0_; have HB := n1_; clear n0_ n1_
    refine start_ (n := 9) (S := fun w' => True) (ds := []) #[false, false, false, false, false, false, false, false, false] (by kernel_rfl) rfl rfl trivial (fun hHeld => ?_); refine with_tabW height_Check.tab3 height_Check.bits3 (fun HT_ HW_ => ?_)
    generalize wc.drew = w18 at BK105 HB hHeld ⊢
    refine pure_ (i := 0) (N := some 14) (v := ?_) (a' := ?_) #[true, false, false, false, false, false, false, false, false] rfl rfl (any_of HT_.out (by kernel_rfl)) (fun _ _ _ h => h) (Or.inl ⟨by rfl, ?_⟩) ?_ ?_
    rotate_left
    ·intro w'
     go_simp; with_reducible rfl
    rotate_left
    ·simp only [Act.put, YJ, YK, YL, i64_w, i32_w]
     rfl
    refine pure_ (i := 1) (N := some 15) (v := ?_) (a' := ?_) #[true, true, false, false, false, false, false, false, false] rfl rfl (any_of HT_.out (by kernel_rfl)) (fun _ _ _ h => h) (Or.inl ⟨by rfl, ?_⟩) ?_ ?_
    rotate_left
    ·intro w'
     go_simp; with_reducible rfl
    rotate_left
    ·simp only [Act.put, YJ, YK, YL, i64_w, i32_w]
     rfl
    refine pure_ (i := 2) (N := some 16) (v := undef) (a' := ?_) #[true, true, true, false, false, false, false, false, false] rfl rfl (any_of HT_.out (by kernel_rfl)) (fun _ _ _ h => h) (Or.inr ⟨by rfl, rfl⟩) ?_ ?_
    rotate_left
    ·simp only [Act.put, YJ, YK, YL, i64_w, i32_w]
     rfl
    refine pure_ (i := 3) (N := some 17) (v := undef) (a' := ?_) #[true, true, true, true, false, false, false, false, false] rfl rfl (any_of HT_.out (by kernel_rfl)) (fun _ _ _ h => h) (Or.inr ⟨by rfl, rfl⟩) ?_ ?_
    rotate_left
    ·simp only [Act.put, YJ, YK, YL, i64_w, i32_w]
     rfl
    refine pure_ (i := 4) (N := some 18) (v := undef) (a' := ?_) #[true, true, true, true, true, false, false, false, false] rfl rfl (any_of HT_.out (by kernel_rfl)) (fun _ _ _ h => h) (Or.inr ⟨by rfl, rfl⟩) ?_ ?_
    rotate_left
    ·simp only [Act.put, YJ, YK, YL, i64_w, i32_w]
     rfl
    refine pure_ (i := 5) (N := some 19) (v := undef) (a' := ?_) #[true, true, true, true, true, true, false, false, false] rfl rfl (any_of HT_.out (by kernel_rfl)) (fun _ _ _ h => h) (Or.inr ⟨by rfl, rfl⟩) ?_ ?_
    rotate_left
    ·simp only [Act.put, YJ, YK, YL, i64_w, i32_w]
     rfl
    refine pure_ (i := 6) (N := some 20) (v := undef) (a' := ?_) #[true, true, true, true, true, true, true, false, false] rfl rfl (any_of HT_.out (by kernel_rfl)) (fun _ _ _ h => h) (Or.inr ⟨by rfl, rfl⟩) ?_ ?_
    rotate_left
    ·simp only [Act.put, YJ, YK, YL, i64_w, i32_w]
     rfl
    refine pure_ (i := 7) (N := some 21) (v := ?_) (a' := ?_) #[true, true, true, true, true, true, true, true, false] rfl rfl (any_of HT_.out (by kernel_rfl)) (fun _ _ _ h => h) (Or.inl ⟨by rfl, ?_⟩) ?_ ?_
    rotate_left
    ·intro w'
     go_simp; with_reducible rfl
    rotate_left
    ·simp only [Act.put, YJ, YK, YL, i64_w, i32_w]
     rfl
    refine pure_ (i := 8) (N := some 3) (v := ?_) (a' := ?_) #[true, true, true, true, true, true, true, true, true] rfl rfl (any_of HT_.out (by kernel_rfl)) (fun _ _ _ h => h) (Or.inl ⟨by rfl, ?_⟩) ?_ ?_
    rotate_left
    ·intro w'
     go_simp; with_reducible rfl
    rotate_left
    ·simp only [Act.put, YJ, YK, YL, i64_w, i32_w]
     rfl
    refine done_ (done_of HT_.out (by kernel_rfl)) ?_
    try go_wp2
    go_ret
    exact ⟨by first | rfl | (simp [errW_none, errW_some] <;> rfl) | (simp [*, errW_none, errW_some] <;> rfl), by repeat (first | (with_reducible first | exact HB.out | apply YA | apply YB | apply YC | refine below_set ?_ GE105.out) | exact HB.out)⟩
   replace c7 := Bool.eq_false_iff.mpr c7
   subst c7
   have H1 : (if x3_1 = true then (if a0_1 ≥ 0 then (if a0_1 ≤ 4611686018427387903 then (if a0_2 ≥ 0 then (if a0_2 < 64 then (if (a0_3 / 2) = 0 then (if a0_4 ≥ (-1099511627776) then (if a0_4 ≤ 1099511627776 then (some 0) else (some 1)) else (some 1)) else (some 1)) else (some 1)) else (some 1)) else (some 1)) else (some 1)) else (some 1)) = some r := by rw [if_neg (show ¬ (false = true) by decide)] at H; exact H
   clear H
   have H := H1
   clear H1
   by_cases c19 : x3_1 = true
   ·subst c19
    have H1 : (if a0_1 ≥ 0 then (if a0_1 ≤ 4611686018427387903 then (if a0_2 ≥ 0 then (if a0_2 < 64 then (if (a0_3 / 2) = 0 then (if a0_4 ≥ (-1099511627776) then (if a0_4 ≤ 1099511627776 then (some 0) else (some 1)) else (some 1)) else (some 1)) else (some 1)) else (some 1)) else (some 1)) else (some 1)) = some r := by rw [if_pos rfl] at H; exact H
    clear H
    have H := H1
    clear H1
    by_cases c20 : a0_1 ≥ 0
    ·rw [if_pos c20] at H
     have c20b0 : decide (0 ≤ a0_1) = true := decide_eq_true c20; clear c20
     by_cases c21 : a0_1 ≤ 4611686018427387903
     ·rw [if_pos c21] at H
      have c21b0 : decide (a0_1 ≤ 4611686018427387903) = true := decide_eq_true c21; clear c21
      by_cases c22 : a0_2 ≥ 0
      ·rw [if_pos c22] at H
       have c22b0 : decide (0 ≤ a0_2) = true := decide_eq_true c22; clear c22
       by_cases c23 : a0_2 < 64
       ·rw [if_pos c23] at H
        have c23b0 : decide (a0_2 < 64) = true := decide_eq_true c23; clear c23
        by_cases c24 : (a0_3 / 2) = 0
        ·rw [if_pos c24] at H
         have c24b0 : ((a0_3 / 2) == 0) = true := beq_iff_eq.mpr c24
         have c24b1 : ((a0_3 / 2) != 0) = false := bne_eq_false_iff_eq.mpr c24
         clear c24
         by_cases c25 : a0_4 ≥ (-1099511627776)
         ·rw [if_pos c25] at H
          have c25b0 : decide ((-1099511627776) ≤ a0_4) = true := decide_eq_true c25; clear c25
          by_cases c26 : a0_4 ≤ 1099511627776
          ·rw [if_pos c26] at H
           have c26b0 : decide (a0_4 ≤ 1099511627776) = true := decide_eq_true c26; clear c26
           obtain rfl := Option.some.inj H
           have q27_0 : wc.cell? ⟨gb105, 0, none⟩ = some (.bool false) := (YG BK105.out 0).trans rfl
           have q27_1 : wc.cell? ⟨gb105, 1, none⟩ = some (.int .i64 a0_1) := (YG BK105.out 1).trans rfl
           have q27_2 : wc.cell? ⟨gb105, 2, none⟩ = some (.int .i64 a0_2) := (YG BK105.out 2).trans rfl
           have q27_3 : wc.cell? ⟨gb105, 3, none⟩ = some (.int .i64 a0_3) := (YG BK105.out 3).trans rfl
           have q27_4 : wc.cell? ⟨gb105, 4, none⟩ = some (.int .i64 a0_4) := (YG BK105.out 4).trans rfl
           have q27_5 : wc.cell? ⟨gb105, 5, none⟩ = some (.int .i64 a0_5) := (YG BK105.out 5).trans rfl
           have f27_0 := YH BK105.out 0
           have f27_1 := YH BK105.out 1
           have f27_2 := YH BK105.out 2
           have f27_3 := YH BK105.out 3
           have f27_4 := YH BK105.out 4
           have f27_5 := YH BK105.out 5
           go_wp2
           go_ret
           exact ⟨by first | rfl | (simp [errW_none, errW_some] <;> rfl) | (simp [*, errW_none, errW_some] <;> rfl), by repeat (first | (with_reducible first | exact HB.out | apply YA | apply YB | apply YC | refine below_set ?_ GE105.out) | exact HB.out)⟩
          rw [if_neg c26] at H; have c26b0 : decide (a0_4 ≤ 1099511627776) = false := decide_eq_false c26; clear c26
          obtain rfl := Option.some.inj H
          have q28_0 : wc.cell? ⟨gb105, 0, none⟩ = some (.bool false) := (YG BK105.out 0).trans rfl
          have q28_1 : wc.cell? ⟨gb105, 1, none⟩ = some (.int .i64 a0_1) := (YG BK105.out 1).trans rfl
          have q28_2 : wc.cell? ⟨gb105, 2, none⟩ = some (.int .i64 a0_2) := (YG BK105.out 2).trans rfl
          have q28_3 : wc.cell? ⟨gb105, 3, none⟩ = some (.int .i64 a0_3) := (YG BK105.out 3).trans rfl
          have q28_4 : wc.cell? ⟨gb105, 4, none⟩ = some (.int .i64 a0_4) := (YG BK105.out 4).trans rfl
          have q28_5 : wc.cell? ⟨gb105, 5, none⟩ = some (.int .i64 a0_5) := (YG BK105.out 5).trans rfl
          have f28_0 := YH BK105.out 0
          have f28_1 := YH BK105.out 1
          have f28_2 := YH BK105.out 2
          have f28_3 := YH BK105.out 3
          have f28_4 := YH BK105.out 4
          have f28_5 := YH BK105.out 5
          go_wp2
          go_ret
          exact ⟨by first | rfl | (simp [errW_none, errW_some] <;> rfl) | (simp [*, errW_none, errW_some] <;> rfl), by repeat (first | (with_reducible first | exact HB.out | apply YA | apply YB | apply YC | refine below_set ?_ GE105.out) | exact HB.out)⟩
         rw [if_neg c25] at H; have c25b0 : decide ((-1099511627776) ≤ a0_4) = false := decide_eq_false c25; clear c25
         obtain rfl := Option.some.inj H
         have q29_0 : wc.cell? ⟨gb105, 0, none⟩ = some (.bool false) := (YG BK105.out 0).trans rfl
         have q29_1 : wc.cell? ⟨gb105, 1, none⟩ = some (.int .i64 a0_1) := (YG BK105.out 1).trans rfl
         have q29_2 : wc.cell? ⟨gb105, 2, none⟩ = some (.int .i64 a0_2) := (YG BK105.out 2).trans rfl
         have q29_3 : wc.cell? ⟨gb105, 3, none⟩ = some (.int .i64 a0_3) := (YG BK105.out 3).trans rfl
         have q29_4 : wc.cell? ⟨gb105, 4, none⟩ = some (.int .i64 a0_4) := (YG BK105.out 4).trans rfl
         have q29_5 : wc.cell? ⟨gb105, 5, none⟩ = some (.int .i64 a0_5) := (YG BK105.out 5).trans rfl
         have f29_0 := YH BK105.out 0
         have f29_1 := YH BK105.out 1
         have f29_2 := YH BK105.out 2
         have f29_3 := YH BK105.out 3
         have f29_4 := YH BK105.out 4
         have f29_5 := YH BK105.out 5
         go_wp2
         go_ret
         exact ⟨by first | rfl | (simp [errW_none, errW_some] <;> rfl) | (simp [*, errW_none, errW_some] <;> rfl), by repeat (first | (with_reducible first | exact HB.out | apply YA | apply YB | apply YC | refine below_set ?_ GE105.out) | exact HB.out)⟩
        rw [if_neg c24] at H
        have c24b0 : ((a0_3 / 2) == 0) = false := beq_eq_false_iff_ne.mpr c24
        have c24b1 : ((a0_3 / 2) != 0) = true := bne_iff_ne.mpr c24
        obtain rfl := Option.some.inj H
        have q30_0 : wc.cell? ⟨gb105, 0, none⟩ = some (.bool false) := (YG BK105.out 0).trans rfl
        have q30_1 : wc.cell? ⟨gb105, 1, none⟩ = some (.int .i64 a0_1) := (YG BK105.out 1).trans rfl
        have q30_2 : wc.cell? ⟨gb105, 2, none⟩ = some (.int .i64 a0_2) := (YG BK105.out 2).trans rfl
        have q30_3 : wc.cell? ⟨gb105, 3, none⟩ = some (.int .i64 a0_3) := (YG BK105.out 3).trans rfl
        have q30_4 : wc.cell? ⟨gb105, 4, none⟩ = some (.int .i64 a0_4) := (YG BK105.out 4).trans rfl
        have q30_5 : wc.cell? ⟨gb105, 5, none⟩ = some (.int .i64 a0_5) := (YG BK105.out 5).trans rfl
        have f30_0 := YH BK105.out 0
        have f30_1 := YH BK105.out 1
        have f30_2 := YH BK105.out 2
        have f30_3 := YH BK105.out 3
        have f30_4 := YH BK105.out 4
        have f30_5 := YH BK105.out 5
        go_wp2
        go_ret
        exact ⟨by first | rfl | (simp [errW_none, errW_some] <;> rfl) | (simp [*, errW_none, errW_some] <;> rfl), by repeat (first | (with_reducible first | exact HB.out | apply YA | apply YB | apply YC | refine below_set ?_ GE105.out) | exact HB.out)⟩
       rw [if_neg c23] at H; have c23b0 : decide (a0_2 < 64) = false := decide_eq_false c23; clear c23
       obtain rfl := Option.some.inj H
       have q31_0 : wc.cell? ⟨gb105, 0, none⟩ = some (.bool false) := (YG BK105.out 0).trans rfl
       have q31_1 : wc.cell? ⟨gb105, 1, none⟩ = some (.int .i64 a0_1) := (YG BK105.out 1).trans rfl
       have q31_2 : wc.cell? ⟨gb105, 2, none⟩ = some (.int .i64 a0_2) := (YG BK105.out 2).trans rfl
       have q31_3 : wc.cell? ⟨gb105, 3, none⟩ = some (.int .i64 a0_3) := (YG BK105.out 3).trans rfl
       have q31_4 : wc.cell? ⟨gb105, 4, none⟩ = some (.int .i64 a0_4) := (YG BK105.out 4).trans rfl
       have q31_5 : wc.cell? ⟨gb105, 5, none⟩ = some (.int .i64 a0_5) := (YG BK105.out 5).trans rfl
       have f31_0 := YH BK105.out 0
       have f31_1 := YH BK105.out 1
       have f31_2 := YH BK105.out 2
       have f31_3 := YH BK105.out 3
       have f31_4 := YH BK105.out 4
       have f31_5 := YH BK105.out 5
       go_wp2
       go_ret
       exact ⟨by first | rfl | (simp [errW_none, errW_some] <;> rfl) | (simp [*, errW_none, errW_some] <;> rfl), by repeat (first | (with_reducible first | exact HB.out | apply YA | apply YB | apply YC | refine below_set ?_ GE105.out) | exact HB.out)⟩
      rw [if_neg c22] at H; have c22b0 : decide (0 ≤ a0_2) = false := decide_eq_false c22; clear c22
      obtain rfl := Option.some.inj H
      have q32_0 : wc.cell? ⟨gb105, 0, none⟩ = some (.bool false) := (YG BK105.out 0).trans rfl
      have q32_1 : wc.cell? ⟨gb105, 1, none⟩ = some (.int .i64 a0_1) := (YG BK105.out 1).trans rfl
      have q32_2 : wc.cell? ⟨gb105, 2, none⟩ = some (.int .i64 a0_2) := (YG BK105.out 2).trans rfl
      have q32_3 : wc.cell? ⟨gb105, 3, none⟩ = some (.int .i64 a0_3) := (YG BK105.out 3).trans rfl
      have q32_4 : wc.cell? ⟨gb105, 4, none⟩ = some (.int .i64 a0_4) := (YG BK105.out 4).trans rfl
      have q32_5 : wc.cell? ⟨gb105, 5, none⟩ = some (.int .i64 a0_5) := (YG BK105.out 5).trans rfl
      have f32_0 := YH BK105.out 0
      have f32_1 := YH BK105.out 1
      have f32_2 := YH BK105.out 2
      have f32_3 := YH BK105.out 3
      have f32_4 := YH BK105.out 4
      have f32_5 := YH BK105.out 5
      go_wp2
      go_ret
      exact ⟨by first | rfl | (simp [errW_none, errW_some] <;> rfl) | (simp [*, errW_none, errW_some] <;> rfl), by repeat (first | (with_reducible first | exact HB.out | apply YA | apply YB | apply YC | refine below_set ?_ GE105.out) | exact HB.out)⟩
     rw [if_neg c21] at H; have c21b0 : decide (a0_1 ≤ 4611686018427387903) = false := decide_eq_false c21; clear c21
     obtain rfl := Option.some.inj H
     have q33_0 : wc.cell? ⟨gb105, 0, none⟩ = some (.bool false) := (YG BK105.out 0).trans rfl
     have q33_1 : wc.cell? ⟨gb105, 1, none⟩ = some (.int .i64 a0_1) := (YG BK105.out 1).trans rfl
     have q33_2 : wc.cell? ⟨gb105, 2, none⟩ = some (.int .i64 a0_2) := (YG BK105.out 2).trans rfl
     have q33_3 : wc.cell? ⟨gb105, 3, none⟩ = some (.int .i64 a0_3) := (YG BK105.out 3).trans rfl
     have q33_4 : wc.cell? ⟨gb105, 4, none⟩ = some (.int .i64 a0_4) := (YG BK105.out 4).trans rfl
     have q33_5 : wc.cell? ⟨gb105, 5, none⟩ = some (.int .i64 a0_5) := (YG BK105.out 5).trans rfl
     have f33_0 := YH BK105.out 0
     have f33_1 := YH BK105.out 1
     have f33_2 := YH BK105.out 2
     have f33_3 := YH BK105.out 3
     have f33_4 := YH BK105.out 4
     have f33_5 := YH BK105.out 5
     go_wp2
     go_ret
     exact ⟨by first | rfl | (simp [errW_none, errW_some] <;> rfl) | (simp [*, errW_none, errW_some] <;> rfl), by repeat (first | (with_reducible first | exact HB.out | apply YA | apply YB | apply YC | refine below_set ?_ GE105.out) | exact HB.out)⟩
    rw [if_neg c20] at H; have c20b0 : decide (0 ≤ a0_1) = false := decide_eq_false c20; clear c20
    obtain rfl := Option.some.inj H
    have q34_0 : wc.cell? ⟨gb105, 0, none⟩ = some (.bool false) := (YG BK105.out 0).trans rfl
    have q34_1 : wc.cell? ⟨gb105, 1, none⟩ = some (.int .i64 a0_1) := (YG BK105.out 1).trans rfl
    have q34_2 : wc.cell? ⟨gb105, 2, none⟩ = some (.int .i64 a0_2) := (YG BK105.out 2).trans rfl
    have q34_3 : wc.cell? ⟨gb105, 3, none⟩ = some (.int .i64 a0_3) := (YG BK105.out 3).trans rfl
    have q34_4 : wc.cell? ⟨gb105, 4, none⟩ = some (.int .i64 a0_4) := (YG BK105.out 4).trans rfl
    have q34_5 : wc.cell? ⟨gb105, 5, none⟩ = some (.int .i64 a0_5) := (YG BK105.out 5).trans rfl
    have f34_0 := YH BK105.out 0
    have f34_1 := YH BK105.out 1
    have f34_2 := YH BK105.out 2
    have f34_3 := YH BK105.out 3
    have f34_4 := YH BK105.out 4
    have f34_5 := YH BK105.out 5
    go_wp2
    go_ret
    exact ⟨by first | rfl | (simp [errW_none, errW_some] <;> rfl) | (simp [*, errW_none, errW_some] <;> rfl), by repeat (first | (with_reducible first | exact HB.out | apply YA | apply YB | apply YC | refine below_set ?_ GE105.out) | exact HB.out)⟩
   replace c19 := Bool.eq_false_iff.mpr c19
   subst c19
   have H1 : (some 1) = some r := by rw [if_neg (show ¬ (false = true) by decide)] at H; exact H
   clear H
   have H := H1
   clear H1
   obtain rfl := Option.some.inj H
   have q35_0 : wc.cell? ⟨gb105, 0, none⟩ = some (.bool false) := (YG BK105.out 0).trans rfl
   have q35_1 : wc.cell? ⟨gb105, 1, none⟩ = some (.int .i64 a0_1) := (YG BK105.out 1).trans rfl
   have q35_2 : wc.cell? ⟨gb105, 2, none⟩ = some (.int .i64 a0_2) := (YG BK105.out 2).trans rfl
   have q35_3 : wc.cell? ⟨gb105, 3, none⟩ = some (.int .i64 a0_3) := (YG BK105.out 3).trans rfl
   have q35_4 : wc.cell? ⟨gb105, 4, none⟩ = some (.int .i64 a0_4) := (YG BK105.out 4).trans rfl
   have q35_5 : wc.cell? ⟨gb105, 5, none⟩ = some (.int .i64 a0_5) := (YG BK105.out 5).trans rfl
   have f35_0 := YH BK105.out 0
   have f35_1 := YH BK105.out 1
   have f35_2 := YH BK105.out 2
   have f35_3 := YH BK105.out 3
   have f35_4 := YH BK105.out 4
   have f35_5 := YH BK105.out 5
   go_wp2
   go_ret
   exact ⟨by first | rfl | (simp [errW_none, errW_some] <;> rfl) | (simp [*, errW_none, errW_some] <;> rfl), by repeat (first | (with_reducible first | exact HB.out | apply YA | apply YB | apply YC | refine below_set ?_ GE105.out) | exact HB.out)⟩
end Go.Proofs.Ytfigbjjaffkidaa.P
namespace Go.Proofs.Ytfigbjjaffkidaa.P
open Go.RowKit YtfigbjjaffkidaaW.PrintWords YtfigbjjaffkidaaW.PrintLast YtfigbjjaffkidaaW.PrintMore
open YtfigbjjaffkidaaW.PrintWords renaming below_alloc → YA, pw_below_drewN → YB, below_drew1 → YC, below_step → YD, below_size → YE, blk_drewN → YF, blk_drew → YG, blk_alloc → YH, blk_cell → YI, blk_frozen → YJ, blk_below → YK
open YtfigbjjaffkidaaW.PrintWords.Aside0 renaming mk → YL
attribute [local go_sem] max2_int min2_int max_two min_two max_three min_three max_four min_four
def height_At.f (k : Nat) (a0_0 : Int) (a0_1 : Int) (a0_2 : Int) (a1 : Int) (a2 : Int) : Option (Bool × Int × Int × Int × Int × Int × Int) := (height_Check.f k false a0_0 a0_1 a0_2 a1 a2).bind fun t115 => (if t115 = 0 then (some (false, a0_0, a0_1, a0_2, a1, a2, 0)) else (some (false, 0, 0, 0, 0, 0, t115)))
theorem height_At.mono : ∀ a0 a1 a2 a3 a4 k, LeO (height_At.f k a0 a1 a2 a3 a4) (height_At.f (k + 1) a0 a1 a2 a3 a4) := by
 intro a0 a1 a2 a3 a4 k
 unfold height_At.f
 repeat' first
   | (with_reducible exact height_Check.mono _ _ _ _ _ _ _)
   | (with_reducible exact LeO.refl _)
   | (with_reducible exact LeO.none _)
   | (with_reducible refine LeO.ite ?_ ?_)
   | (with_reducible refine LeO.bind ?_ (fun _ => ?_))
   | exact height_Check.mono _ _ _ _ _ _ _
   | exact LeO.none _
   | refine LeO.ite ?_ ?_
   | refine LeO.bind ?_ (fun _ => ?_)
theorem height_At.calls (k : Nat) (a0_0 : Int) (a0_1 : Int) (a0_2 : Int) (a1 : Int) (a2 : Int) (r1 : Bool) (r2 : Int) (r3 : Int) (r4 : Int) (r5 : Int) (r6 : Int) (r7 : Int) (w : World) (h : height_At.f k a0_0 a0_1 a0_2 a1 a2 = some (r1, r2, r3, r4, r5, r6, r7)) :
  Calls Try.prog 45 #[.agg #[.int .i64 a0_0, .int .i64 a0_1, .int .i64 a0_2], .int .i64 a1, .int .i64 a2] w fun e w' => e = .returned (.tuple #[.agg #[.bool r1, .int .i64 r2, .int .i64 r3, .int .i64 r4, .int .i64 r5, .int .i64 r6], .int .i64 r7]) ∧ Below w.heap.size w w' := by
 have hu43 := Try.underlying43
 have hu41 := Try.underlying41
 have HB := YL (Below.refl w.heap.size w)
 have H : ((height_Check.f k false a0_0 a0_1 a0_2 a1 a2).bind fun t115 => (if t115 = 0 then (some (false, a0_0, a0_1, a0_2, a1, a2, 0)) else (some (false, 0, 0, 0, 0, 0, t115)))) = some (r1, r2, r3, r4, r5, r6, r7) := h
 clear h; replace H := Option.bind_eq_some_iff.mp H; obtain ⟨t115, A40, H⟩ := H
 replace H : (if t115 = 0 then (some (false, a0_0, a0_1, a0_2, a1, a2, 0)) else (some (false, 0, 0, 0, 0, 0, t115))) = some (r1, r2, r3, r4, r5, r6, r7) := H
 have A4 := YL A40; clear A40
 by_cases c5 : t115 = 0
 ·rw [if_pos c5] at H
  have c5b0 : (t115 == 0) = true := beq_iff_eq.mpr c5
  have c5b1 : (t115 != 0) = false := bne_eq_false_iff_eq.mpr c5
  clear c5
  simp only [Option.some.injEq, Prod.mk.injEq] at H
  obtain ⟨rfl, rfl, rfl, rfl, rfl, rfl, rfl⟩ := H
  go_enter Try.func45, Try.ntmps45
  go_wp2_with (first | ((with_reducible refine gate_dst (N := 3) rfl ?_); refine box_event ?hg (N := 3) ?hd (cs := #[.int .i64 a0_0, .int .i64 a0_1, .int .i64 a0_2]) (t := 43) ?hr ?_; (case hd => rfl); (case hg => rfl); (case hr => first | (go_simp; done) | (go_simp; rfl)); intro gb112 hg w6 hbox hb; have n0_ := YL (YD (upB HB) hb); have n1_ := YL (hbox); have n2_ := YL ((by rw [hg]; exact (YE (upB HB)) : w.heap.size ≤ gb112)); have n3_ := YL ((by rw [hg]; exact (YE (upB HB)) : w.heap.size ≤ gb112)); clear HB; have HB := n0_; have BK112 := n1_; have GW112 := n2_; have GE112 := n3_; clear n0_ n1_ n2_ n3_; clear hb hbox hg) | ((with_reducible refine gate_dst (N := 6) rfl ?_); refine box_event ?hg (N := 6) ?hd (cs := #[.bool false, .int .i64 0, .int .i64 0, .int .i64 0, .int .i64 0, .int .i64 0]) (t := 41) ?hr ?_; (case hd => rfl); (case hg => rfl); (case hr => first | (go_simp; done) | (go_simp; rfl)); intro gb113 hg w7 hbox hb; have n0_ := YL (YK (g := gb112) (o := .cells #[.int .i64 a0_0, .int .i64 a0_1, .int .i64 a0_2] 43 (0, 0)) (upK BK112) hb); have n1_ := YL (YD (upB HB) hb); have n2_ := YL (hbox); have n3_ := YL ((by rw [hg]; exact (YE (upB HB)) : w.heap.size ≤ gb113)); have n4_ := YL ((by rw [hg]; exact (YE (upB HB)) : w.heap.size ≤ gb113)); have n5_ := YL ((by rw [hg]; exact Nat.ne_of_lt (blk_lt (g := gb112) (o := .cells #[.int .i64 a0_0, .int .i64 a0_1, .int .i64 a0_2] 43 (0, 0)) (upK BK112)) : gb112 ≠ gb113)); have n6_ := YL ((by rw [hg]; exact Nat.ne_of_gt (blk_lt (g := gb112) (o := .cells #[.int .i64 a0_0, .int .i64 a0_1, .int .i64 a0_2] 43 (0, 0)) (upK BK112)) : gb113 ≠ gb112)); clear BK112; clear HB; have BK112 := n0_; have HB := n1_; have BK113 := n2_; have GW113 := n3_; have GE113 := n4_; have NB112_113 := n5_; have NB113_112 := n6_; clear n0_ n1_ n2_ n3_ n4_ n5_ n6_; clear hb hbox hg; have hnb8 := NB112_113.out; have hnc8 := NB113_112.out; have q9_0 : w7.cell? ⟨gb112, 0, none⟩ = some (.int .i64 a0_0) := (YI BK112.out 0).trans rfl; have q9_1 : w7.cell? ⟨gb112, 1, none⟩ = some (.int .i64 a0_1) := (YI BK112.out 1).trans rfl; have q9_2 : w7.cell? ⟨gb112, 2, none⟩ = some (.int .i64 a0_2) := (YI BK112.out 2).trans rfl; have f9_0 := YJ BK112.out 0; have f9_1 := YJ BK112.out 1; have f9_2 := YJ BK112.out 2) | ((with_reducible refine gate_dst (N := 8) rfl ?_); refine box_event ?hg (N := 8) ?hd (cs := #[.bool false, .int .i64 0, .int .i64 0, .int .i64 0, .int .i64 0, .int .i64 0]) (t := 41) ?hr ?_; (case hd => rfl); (case hg => rfl); (case hr => first | (go_simp; done) | (go_simp; rfl)); intro gb114 hg w10 hbox hb; have n0_ := YL (YK (g := gb112) (o := .cells #[.int .i64 a0_0, .int .i64 a0_1, .int .i64 a0_2] 43 (0, 0)) (upK BK112) hb); have n1_ := YL (YK (g := gb113) (o := .cells #[.bool false, .int .i64 0, .int .i64 0, .int .i64 0, .int .i64 0, .int .i64 0] 41 (0, 0)) (upK BK113) hb); have n2_ := YL (YD (upB HB) hb); have n3_ := YL (hbox); have n4_ := YL ((by rw [hg]; exact (YE (upB HB)) : w.heap.size ≤ gb114)); have n5_ := YL ((by rw [hg]; exact (YE (upB HB)) : w.heap.size ≤ gb114)); have n6_ := YL ((by rw [hg]; exact Nat.ne_of_lt (blk_lt (g := gb112) (o := .cells #[.int .i64 a0_0, .int .i64 a0_1, .int .i64 a0_2] 43 (0, 0)) (upK BK112)) : gb112 ≠ gb114)); have n7_ := YL ((by rw [hg]; exact Nat.ne_of_gt (blk_lt (g := gb112) (o := .cells #[.int .i64 a0_0, .int .i64 a0_1, .int .i64 a0_2] 43 (0, 0)) (upK BK112)) : gb114 ≠ gb112)); have n8_ := YL ((by rw [hg]; exact Nat.ne_of_lt (blk_lt (g := gb113) (o := .cells #[.bool false, .int .i64 0, .int .i64 0, .int .i64 0, .int .i64 0, .int .i64 0] 41 (0, 0)) (upK BK113)) : gb113 ≠ gb114)); have n9_ := YL ((by rw [hg]; exact Nat.ne_of_gt (blk_lt (g := gb113) (o := .cells #[.bool false, .int .i64 0, .int .i64 0, .int .i64 0, .int .i64 0, .int .i64 0] 41 (0, 0)) (upK BK113)) : gb114 ≠ gb113)); clear BK112; clear BK113; clear HB; have BK112 := n0_; have BK113 := n1_; have HB := n2_; have BK114 := n3_; have GW114 := n4_; have GE114 := n5_; have NB112_114 := n6_; have NB114_112 := n7_; have NB113_114 := n8_; have NB114_113 := n9_; clear n0_ n1_ n2_ n3_ n4_ n5_ n6_ n7_ n8_ n9_; clear hb hbox hg; have hnb11 := NB114_112.out; have hnc11 := NB112_114.out; have hnb12 := NB114_113.out; have hnc12 := NB113_114.out; have q13_0 : w10.cell? ⟨gb114, 0, none⟩ = some (.bool false) := (YI BK114.out 0).trans rfl; have q13_1 : w10.cell? ⟨gb114, 1, none⟩ = some (.int .i64 0) := (YI BK114.out 1).trans rfl; have q13_2 : w10.cell? ⟨gb114, 2, none⟩ = some (.int .i64 0) := (YI BK114.out 2).trans rfl; have q13_3 : w10.cell? ⟨gb114, 3, none⟩ = some (.int .i64 0) := (YI BK114.out 3).trans rfl; have q13_4 : w10.cell? ⟨gb114, 4, none⟩ = some (.int .i64 0) := (YI BK114.out 4).trans rfl; have q13_5 : w10.cell? ⟨gb114, 5, none⟩ = some (.int .i64 0) := (YI BK114.out 5).trans rfl; have f13_0 := YJ BK114.out 0; have f13_1 := YJ BK114.out 1; have f13_2 := YJ BK114.out 2; have f13_3 := YJ BK114.out 3; have f13_4 := YJ BK114.out 4; have f13_5 := YJ BK114.out 5) | ((with_reducible refine gate_callee (f := 44) rfl ?_); refine goesA (some 20) Try.func44 #[.agg #[.bool false, .int .i64 a0_0, .int .i64 a0_1, .int .i64 a0_2, .int .i64 a1, .int .i64 a2]] ?_; (with_reducible refine (height_Check.calls k false a0_0 a0_1 a0_2 a1 a2 t115 _ A4.out).mono ?_); rintro e w14 ⟨rfl, hb⟩; refine ⟨_, rfl, ?_⟩; have n0_ := YL (YK (g := gb112) (o := .cells #[.int .i64 a0_0, .int .i64 a0_1, .int .i64 a0_2] 43 (0, 0)) (by (with_reducible repeat (first | refine YF ?_ _ | refine YG ?_ | refine YH ?_ _)); refine blk_far ?_ NB112_114.out _; (with_reducible repeat (first | refine YF ?_ _ | refine YG ?_ | refine YH ?_ _)); refine blk_far ?_ NB112_114.out _; (with_reducible repeat (first | refine YF ?_ _ | refine YG ?_ | refine YH ?_ _)); refine blk_far ?_ NB112_114.out _; (with_reducible repeat (first | refine YF ?_ _ | refine YG ?_ | refine YH ?_ _)); refine blk_far ?_ NB112_114.out _; (with_reducible repeat (first | refine YF ?_ _ | refine YG ?_ | refine YH ?_ _)); refine blk_far ?_ NB112_114.out _; (with_reducible repeat (first | refine YF ?_ _ | refine YG ?_ | refine YH ?_ _)); refine blk_far ?_ NB112_114.out _; (with_reducible repeat (first | refine YF ?_ _ | refine YG ?_ | refine YH ?_ _)); exact BK112.out) hb); have n1_ := YL (YK (g := gb113) (o := .cells #[.bool false, .int .i64 0, .int .i64 0, .int .i64 0, .int .i64 0, .int .i64 0] 41 (0, 0)) (by (with_reducible repeat (first | refine YF ?_ _ | refine YG ?_ | refine YH ?_ _)); refine blk_far ?_ NB113_114.out _; (with_reducible repeat (first | refine YF ?_ _ | refine YG ?_ | refine YH ?_ _)); refine blk_far ?_ NB113_114.out _; (with_reducible repeat (first | refine YF ?_ _ | refine YG ?_ | refine YH ?_ _)); refine blk_far ?_ NB113_114.out _; (with_reducible repeat (first | refine YF ?_ _ | refine YG ?_ | refine YH ?_ _)); refine blk_far ?_ NB113_114.out _; (with_reducible repeat (first | refine YF ?_ _ | refine YG ?_ | refine YH ?_ _)); refine blk_far ?_ NB113_114.out _; (with_reducible repeat (first | refine YF ?_ _ | refine YG ?_ | refine YH ?_ _)); refine blk_far ?_ NB113_114.out _; (with_reducible repeat (first | refine YF ?_ _ | refine YG ?_ | refine YH ?_ _)); exact BK113.out) hb); have n2_ := YL (YK (g := gb114) (o := .cells #[.bool false, .int .i64 a0_0, .int .i64 a0_1, .int .i64 a0_2, .int .i64 a1, .int .i64 a2] 41 (0, 0)) (by (with_reducible repeat (first | refine YF ?_ _ | refine YG ?_ | refine YH ?_ _)); refine blk_put (cs := #[.bool false, .int .i64 a0_0, .int .i64 a0_1, .int .i64 a0_2, .int .i64 a1, .int .i64 0]) ?_ 5 _ rfl; (with_reducible repeat (first | refine YF ?_ _ | refine YG ?_ | refine YH ?_ _)); refine blk_put (cs := #[.bool false, .int .i64 a0_0, .int .i64 a0_1, .int .i64 a0_2, .int .i64 0, .int .i64 0]) ?_ 4 _ rfl; (with_reducible repeat (first | refine YF ?_ _ | refine YG ?_ | refine YH ?_ _)); refine blk_put (cs := #[.bool false, .int .i64 a0_0, .int .i64 a0_1, .int .i64 0, .int .i64 0, .int .i64 0]) ?_ 3 _ rfl; (with_reducible repeat (first | refine YF ?_ _ | refine YG ?_ | refine YH ?_ _)); refine blk_put (cs := #[.bool false, .int .i64 a0_0, .int .i64 0, .int .i64 0, .int .i64 0, .int .i64 0]) ?_ 2 _ rfl; (with_reducible repeat (first | refine YF ?_ _ | refine YG ?_ | refine YH ?_ _)); refine blk_put (cs := #[.bool false, .int .i64 0, .int .i64 0, .int .i64 0, .int .i64 0, .int .i64 0]) ?_ 1 _ rfl; (with_reducible repeat (first | refine YF ?_ _ | refine YG ?_ | refine YH ?_ _)); refine blk_put (cs := #[.bool false, .int .i64 0, .int .i64 0, .int .i64 0, .int .i64 0, .int .i64 0]) ?_ 0 _ rfl; (with_reducible repeat (first | refine YF ?_ _ | refine YG ?_ | refine YH ?_ _)); exact BK114.out) hb); have n3_ := YL (YD (upB HB) hb); clear BK112; clear BK113; clear BK114; clear HB; have BK112 := n0_; have BK113 := n1_; have BK114 := n2_; have HB := n3_; clear n0_ n1_ n2_ n3_; (try clear hb); (try clear hb2); (try clear hk); (try clear hi); have q15_0 : w14.cell? ⟨gb114, 0, none⟩ = some (.bool false) := (YI BK114.out 0).trans rfl; have q15_1 : w14.cell? ⟨gb114, 1, none⟩ = some (.int .i64 a0_0) := (YI BK114.out 1).trans rfl; have q15_2 : w14.cell? ⟨gb114, 2, none⟩ = some (.int .i64 a0_1) := (YI BK114.out 2).trans rfl; have q15_3 : w14.cell? ⟨gb114, 3, none⟩ = some (.int .i64 a0_2) := (YI BK114.out 3).trans rfl; have q15_4 : w14.cell? ⟨gb114, 4, none⟩ = some (.int .i64 a1) := (YI BK114.out 4).trans rfl; have q15_5 : w14.cell? ⟨gb114, 5, none⟩ = some (.int .i64 a2) := (YI BK114.out 5).trans rfl; have f15_0 := YJ BK114.out 0; have f15_1 := YJ BK114.out 1; have f15_2 := YJ BK114.out 2; have f15_3 := YJ BK114.out 3; have f15_4 := YJ BK114.out 4; have f15_5 := YJ BK114.out 5; have q16_0 : w14.cell? ⟨gb113, 0, none⟩ = some (.bool false) := (YI BK113.out 0).trans rfl; have q16_1 : w14.cell? ⟨gb113, 1, none⟩ = some (.int .i64 0) := (YI BK113.out 1).trans rfl; have q16_2 : w14.cell? ⟨gb113, 2, none⟩ = some (.int .i64 0) := (YI BK113.out 2).trans rfl; have q16_3 : w14.cell? ⟨gb113, 3, none⟩ = some (.int .i64 0) := (YI BK113.out 3).trans rfl; have q16_4 : w14.cell? ⟨gb113, 4, none⟩ = some (.int .i64 0) := (YI BK113.out 4).trans rfl; have q16_5 : w14.cell? ⟨gb113, 5, none⟩ = some (.int .i64 0) := (YI BK113.out 5).trans rfl; have f16_0 := YJ BK113.out 0; have f16_1 := YJ BK113.out 1; have f16_2 := YJ BK113.out 2; have f16_3 := YJ BK113.out 3; have f16_4 := YJ BK113.out 4; have f16_5 := YJ BK113.out 5))
  refine bodyPost_ret (results_ct rfl _ _ gb113 41 #[.bool false, .int .i64 a0_0, .int .i64 a0_1, .int .i64 a0_2, .int .i64 a1, .int .i64 a2] (0, 0) _ rfl (by (with_reducible repeat (first | refine YF ?_ _ | refine YG ?_ | refine YH ?_ _)); refine blk_put (cs := #[.bool false, .int .i64 a0_0, .int .i64 a0_1, .int .i64 a0_2, .int .i64 a1, .int .i64 0]) ?_ 5 _ rfl; (with_reducible repeat (first | refine YF ?_ _ | refine YG ?_ | refine YH ?_ _)); refine blk_put (cs := #[.bool false, .int .i64 a0_0, .int .i64 a0_1, .int .i64 a0_2, .int .i64 0, .int .i64 0]) ?_ 4 _ rfl; (with_reducible repeat (first | refine YF ?_ _ | refine YG ?_ | refine YH ?_ _)); refine blk_put (cs := #[.bool false, .int .i64 a0_0, .int .i64 a0_1, .int .i64 0, .int .i64 0, .int .i64 0]) ?_ 3 _ rfl; (with_reducible repeat (first | refine YF ?_ _ | refine YG ?_ | refine YH ?_ _)); refine blk_put (cs := #[.bool false, .int .i64 a0_0, .int .i64 0, .int .i64 0, .int .i64 0, .int .i64 0]) ?_ 2 _ rfl; (with_reducible repeat (first | refine YF ?_ _ | refine YG ?_ | refine YH ?_ _)); refine blk_put (cs := #[.bool false, .int .i64 0, .int .i64 0, .int .i64 0, .int .i64 0, .int .i64 0]) ?_ 1 _ rfl; (with_reducible repeat (first | refine YF ?_ _ | refine YG ?_ | refine YH ?_ _)); refine blk_put (cs := #[.bool false, .int .i64 0, .int .i64 0, .int .i64 0, .int .i64 0, .int .i64 0]) ?_ 0 _ rfl; (with_reducible repeat (first | refine YF ?_ _ | refine YG ?_ | refine YH ?_ _)); exact BK113.out) Try.underlying41 rfl (by kernel_rfl)) rfl ?_
  exact ⟨by first | rfl | (simp [errW_none, errW_some] <;> rfl) | (simp [*, errW_none, errW_some] <;> rfl), by repeat (first | (with_reducible first | exact HB.out | apply YA | apply YB | apply YC | refine below_set ?_ GE112.out | refine below_set ?_ GE113.out | refine below_set ?_ GE114.out) | exact HB.out)⟩
 rw [if_neg c5] at H
 have c5b0 : (t115 == 0) = false := beq_eq_false_iff_ne.mpr c5
 have c5b1 : (t115 != 0) = true := bne_iff_ne.mpr c5
 simp only [Option.some.injEq, Prod.mk.injEq] at H
 obtain ⟨rfl, rfl, rfl, rfl, rfl, rfl, rfl⟩ := H
 go_enter Try.func45, Try.ntmps45
 go_wp2_with (first | ((with_reducible refine gate_dst (N := 3) rfl ?_); refine box_event ?hg (N := 3) ?hd (cs := #[.int .i64 a0_0, .int .i64 a0_1, .int .i64 a0_2]) (t := 43) ?hr ?_; (case hd => rfl); (case hg => rfl); (case hr => first | (go_simp; done) | (go_simp; rfl)); intro gb112 hg w17 hbox hb; have n0_ := YL (YD (upB HB) hb); have n1_ := YL (hbox); have n2_ := YL ((by rw [hg]; exact (YE (upB HB)) : w.heap.size ≤ gb112)); have n3_ := YL ((by rw [hg]; exact (YE (upB HB)) : w.heap.size ≤ gb112)); clear HB; have HB := n0_; have BK112 := n1_; have GW112 := n2_; have GE112 := n3_; clear n0_ n1_ n2_ n3_; clear hb hbox hg) | ((with_reducible refine gate_dst (N := 6) rfl ?_); refine box_event ?hg (N := 6) ?hd (cs := #[.bool false, .int .i64 0, .int .i64 0, .int .i64 0, .int .i64 0, .int .i64 0]) (t := 41) ?hr ?_; (case hd => rfl); (case hg => rfl); (case hr => first | (go_simp; done) | (go_simp; rfl)); intro gb113 hg w18 hbox hb; have n0_ := YL (YK (g := gb112) (o := .cells #[.int .i64 a0_0, .int .i64 a0_1, .int .i64 a0_2] 43 (0, 0)) (upK BK112) hb); have n1_ := YL (YD (upB HB) hb); have n2_ := YL (hbox); have n3_ := YL ((by rw [hg]; exact (YE (upB HB)) : w.heap.size ≤ gb113)); have n4_ := YL ((by rw [hg]; exact (YE (upB HB)) : w.heap.size ≤ gb113)); have n5_ := YL ((by rw [hg]; exact Nat.ne_of_lt (blk_lt (g := gb112) (o := .cells #[.int .i64 a0_0, .int .i64 a0_1, .int .i64 a0_2] 43 (0, 0)) (upK BK112)) : gb112 ≠ gb113)); have n6_ := YL ((by rw [hg]; exact Nat.ne_of_gt (blk_lt (g := gb112) (o := .cells #[.int .i64 a0_0, .int .i64 a0_1, .int .i64 a0_2] 43 (0, 0)) (upK BK112)) : gb113 ≠ gb112)); clear BK112; clear HB; have BK112 := n0_; have HB := n1_; have BK113 := n2_; have GW113 := n3_; have GE113 := n4_; have NB112_113 := n5_; have NB113_112 := n6_; clear n0_ n1_ n2_ n3_ n4_ n5_ n6_; clear hb hbox hg; have hnb19 := NB112_113.out; have hnc19 := NB113_112.out; have q20_0 : w18.cell? ⟨gb112, 0, none⟩ = some (.int .i64 a0_0) := (YI BK112.out 0).trans rfl; have q20_1 : w18.cell? ⟨gb112, 1, none⟩ = some (.int .i64 a0_1) := (YI BK112.out 1).trans rfl; have q20_2 : w18.cell? ⟨gb112, 2, none⟩ = some (.int .i64 a0_2) := (YI BK112.out 2).trans rfl; have f20_0 := YJ BK112.out 0; have f20_1 := YJ BK112.out 1; have f20_2 := YJ BK112.out 2) | ((with_reducible refine gate_dst (N := 8) rfl ?_); refine box_event ?hg (N := 8) ?hd (cs := #[.bool false, .int .i64 0, .int .i64 0, .int .i64 0, .int .i64 0, .int .i64 0]) (t := 41) ?hr ?_; (case hd => rfl); (case hg => rfl); (case hr => first | (go_simp; done) | (go_simp; rfl)); intro gb114 hg w21 hbox hb; have n0_ := YL (YK (g := gb112) (o := .cells #[.int .i64 a0_0, .int .i64 a0_1, .int .i64 a0_2] 43 (0, 0)) (upK BK112) hb); have n1_ := YL (YK (g := gb113) (o := .cells #[.bool false, .int .i64 0, .int .i64 0, .int .i64 0, .int .i64 0, .int .i64 0] 41 (0, 0)) (upK BK113) hb); have n2_ := YL (YD (upB HB) hb); have n3_ := YL (hbox); have n4_ := YL ((by rw [hg]; exact (YE (upB HB)) : w.heap.size ≤ gb114)); have n5_ := YL ((by rw [hg]; exact (YE (upB HB)) : w.heap.size ≤ gb114)); have n6_ := YL ((by rw [hg]; exact Nat.ne_of_lt (blk_lt (g := gb112) (o := .cells #[.int .i64 a0_0, .int .i64 a0_1, .int .i64 a0_2] 43 (0, 0)) (upK BK112)) : gb112 ≠ gb114)); have n7_ := YL ((by rw [hg]; exact Nat.ne_of_gt (blk_lt (g := gb112) (o := .cells #[.int .i64 a0_0, .int .i64 a0_1, .int .i64 a0_2] 43 (0, 0)) (upK BK112)) : gb114 ≠ gb112)); have n8_ := YL ((by rw [hg]; exact Nat.ne_of_lt (blk_lt (g := gb113) (o := .cells #[.bool false, .int .i64 0, .int .i64 0, .int .i64 0, .int .i64 0, .int .i64 0] 41 (0, 0)) (upK BK113)) : gb113 ≠ gb114)); have n9_ := YL ((by rw [hg]; exact Nat.ne_of_gt (blk_lt (g := gb113) (o := .cells #[.bool false, .int .i64 0, .int .i64 0, .int .i64 0, .int .i64 0, .int .i64 0] 41 (0, 0)) (upK BK113)) : gb114 ≠ gb113)); clear BK112; clear BK113; clear HB; have BK112 := n0_; have BK113 := n1_; have HB := n2_; have BK114 := n3_; have GW114 := n4_; have GE114 := n5_; have NB112_114 := n6_; have NB114_112 := n7_; have NB113_114 := n8_; have NB114_113 := n9_; clear n0_ n1_ n2_ n3_ n4_ n5_ n6_ n7_ n8_ n9_; clear hb hbox hg; have hnb22 := NB114_112.out; have hnc22 := NB112_114.out; have hnb23 := NB114_113.out; have hnc23 := NB113_114.out; have q24_0 : w21.cell? ⟨gb114, 0, none⟩ = some (.bool false) := (YI BK114.out 0).trans rfl; have q24_1 : w21.cell? ⟨gb114, 1, none⟩ = some (.int .i64 0) := (YI BK114.out 1).trans rfl; have q24_2 : w21.cell? ⟨gb114, 2, none⟩ = some (.int .i64 0) := (YI BK114.out 2).trans rfl; have q24_3 : w21.cell? ⟨gb114, 3, none⟩ = some (.int .i64 0) := (YI BK114.out 3).trans rfl; have q24_4 : w21.cell? ⟨gb114, 4, none⟩ = some (.int .i64 0) := (YI BK114.out 4).trans rfl; have q24_5 : w21.cell? ⟨gb114, 5, none⟩ = some (.int .i64 0) := (YI BK114.out 5).trans rfl; have f24_0 := YJ BK114.out 0; have f24_1 := YJ BK114.out 1; have f24_2 := YJ BK114.out 2; have f24_3 := YJ BK114.out 3; have f24_4 := YJ BK114.out 4; have f24_5 := YJ BK114.out 5) | ((with_reducible refine gate_callee (f := 44) rfl ?_); refine goesA (some 20) Try.func44 #[.agg #[.bool false, .int .i64 a0_0, .int .i64 a0_1, .int .i64 a0_2, .int .i64 a1, .int .i64 a2]] ?_; (with_reducible refine (height_Check.calls k false a0_0 a0_1 a0_2 a1 a2 t115 _ A4.out).mono ?_); rintro e w25 ⟨rfl, hb⟩; refine ⟨_, rfl, ?_⟩; have n0_ := YL (YK (g := gb112) (o := .cells #[.int .i64 a0_0, .int .i64 a0_1, .int .i64 a0_2] 43 (0, 0)) (by (with_reducible repeat (first | refine YF ?_ _ | refine YG ?_ | refine YH ?_ _)); refine blk_far ?_ NB112_114.out _; (with_reducible repeat (first | refine YF ?_ _ | refine YG ?_ | refine YH ?_ _)); refine blk_far ?_ NB112_114.out _; (with_reducible repeat (first | refine YF ?_ _ | refine YG ?_ | refine YH ?_ _)); refine blk_far ?_ NB112_114.out _; (with_reducible repeat (first | refine YF ?_ _ | refine YG ?_ | refine YH ?_ _)); refine blk_far ?_ NB112_114.out _; (with_reducible repeat (first | refine YF ?_ _ | refine YG ?_ | refine YH ?_ _)); refine blk_far ?_ NB112_114.out _; (with_reducible repeat (first | refine YF ?_ _ | refine YG ?_ | refine YH ?_ _)); refine blk_far ?_ NB112_114.out _; (with_reducible repeat (first | refine YF ?_ _ | refine YG ?_ | refine YH ?_ _)); exact BK112.out) hb); have n1_ := YL (YK (g := gb113) (o := .cells #[.bool false, .int .i64 0, .int .i64 0, .int .i64 0, .int .i64 0, .int .i64 0] 41 (0, 0)) (by (with_reducible repeat (first | refine YF ?_ _ | refine YG ?_ | refine YH ?_ _)); refine blk_far ?_ NB113_114.out _; (with_reducible repeat (first | refine YF ?_ _ | refine YG ?_ | refine YH ?_ _)); refine blk_far ?_ NB113_114.out _; (with_reducible repeat (first | refine YF ?_ _ | refine YG ?_ | refine YH ?_ _)); refine blk_far ?_ NB113_114.out _; (with_reducible repeat (first | refine YF ?_ _ | refine YG ?_ | refine YH ?_ _)); refine blk_far ?_ NB113_114.out _; (with_reducible repeat (first | refine YF ?_ _ | refine YG ?_ | refine YH ?_ _)); refine blk_far ?_ NB113_114.out _; (with_reducible repeat (first | refine YF ?_ _ | refine YG ?_ | refine YH ?_ _)); refine blk_far ?_ NB113_114.out _; (with_reducible repeat (first | refine YF ?_ _ | refine YG ?_ | refine YH ?_ _)); exact BK113.out) hb); have n2_ := YL (YK (g := gb114) (o := .cells #[.bool false, .int .i64 a0_0, .int .i64 a0_1, .int .i64 a0_2, .int .i64 a1, .int .i64 a2] 41 (0, 0)) (by (with_reducible repeat (first | refine YF ?_ _ | refine YG ?_ | refine YH ?_ _)); refine blk_put (cs := #[.bool false, .int .i64 a0_0, .int .i64 a0_1, .int .i64 a0_2, .int .i64 a1, .int .i64 0]) ?_ 5 _ rfl; (with_reducible repeat (first | refine YF ?_ _ | refine YG ?_ | refine YH ?_ _)); refine blk_put (cs := #[.bool false, .int .i64 a0_0, .int .i64 a0_1, .int .i64 a0_2, .int .i64 0, .int .i64 0]) ?_ 4 _ rfl; (with_reducible repeat (first | refine YF ?_ _ | refine YG ?_ | refine YH ?_ _)); refine blk_put (cs := #[.bool false, .int .i64 a0_0, .int .i64 a0_1, .int .i64 0, .int .i64 0, .int .i64 0]) ?_ 3 _ rfl; (with_reducible repeat (first | refine YF ?_ _ | refine YG ?_ | refine YH ?_ _)); refine blk_put (cs := #[.bool false, .int .i64 a0_0, .int .i64 0, .int .i64 0, .int .i64 0, .int .i64 0]) ?_ 2 _ rfl; (with_reducible repeat (first | refine YF ?_ _ | refine YG ?_ | refine YH ?_ _)); refine blk_put (cs := #[.bool false, .int .i64 0, .int .i64 0, .int .i64 0, .int .i64 0, .int .i64 0]) ?_ 1 _ rfl; (with_reducible repeat (first | refine YF ?_ _ | refine YG ?_ | refine YH ?_ _)); refine blk_put (cs := #[.bool false, .int .i64 0, .int .i64 0, .int .i64 0, .int .i64 0, .int .i64 0]) ?_ 0 _ rfl; (with_reducible repeat (first | refine YF ?_ _ | refine YG ?_ | refine YH ?_ _)); exact BK114.out) hb); have n3_ := YL (YD (upB HB) hb); clear BK112; clear BK113; clear BK114; clear HB; have BK112 := n0_; have BK113 := n1_; have BK114 := n2_; have HB := n3_; clear n0_ n1_ n2_ n3_; (try clear hb); (try clear hb2); (try clear hk); (try clear hi); have q26_0 : w25.cell? ⟨gb113, 0, none⟩ = some (.bool false) := (YI BK113.out 0).trans rfl; have q26_1 : w25.cell? ⟨gb113, 1, none⟩ = some (.int .i64 0) := (YI BK113.out 1).trans rfl; have q26_2 : w25.cell? ⟨gb113, 2, none⟩ = some (.int .i64 0) := (YI BK113.out 2).trans rfl; have q26_3 : w25.cell? ⟨gb113, 3, none⟩ = some (.int .i64 0) := (YI BK113.out 3).trans rfl; have q26_4 : w25.cell? ⟨gb113, 4, none⟩ = some (.int .i64 0) := (YI BK113.out 4).trans rfl; have q26_5 : w25.cell? ⟨gb113, 5, none⟩ = some (.int .i64 0) := (YI BK113.out 5).trans rfl; have f26_0 := YJ BK113.out 0; have f26_1 := YJ BK113.out 1; have f26_2 := YJ BK113.out 2; have f26_3 := YJ BK113.out 3; have f26_4 := YJ BK113.out 4; have f26_5 := YJ BK113.out 5))
 refine bodyPost_ret (results_ct rfl _ _ gb113 41 #[.bool false, .int .i64 0, .int .i64 0, .int .i64 0, .int .i64 0, .int .i64 0] (0, 0) _ rfl (by (with_reducible repeat (first | refine YF ?_ _ | refine YG ?_ | refine YH ?_ _)); refine blk_put (cs := #[.bool false, .int .i64 0, .int .i64 0, .int .i64 0, .int .i64 0, .int .i64 0]) ?_ 5 _ rfl; (with_reducible repeat (first | refine YF ?_ _ | refine YG ?_ | refine YH ?_ _)); refine blk_put (cs := #[.bool false, .int .i64 0, .int .i64 0, .int .i64 0, .int .i64 0, .int .i64 0]) ?_ 4 _ rfl; (with_reducible repeat (first | refine YF ?_ _ | refine YG ?_ | refine YH ?_ _)); refine blk_put (cs := #[.bool false, .int .i64 0, .int .i64 0, .int .i64 0, .int .i64 0, .int .i64 0]) ?_ 3 _ rfl; (with_reducible repeat (first | refine YF ?_ _ | refine YG ?_ | refine YH ?_ _)); refine blk_put (cs := #[.bool false, .int .i64 0, .int .i64 0, .int .i64 0, .int .i64 0, .int .i64 0]) ?_ 2 _ rfl; (with_reducible repeat (first | refine YF ?_ _ | refine YG ?_ | refine YH ?_ _)); refine blk_put (cs := #[.bool false, .int .i64 0, .int .i64 0, .int .i64 0, .int .i64 0, .int .i64 0]) ?_ 1 _ rfl; (with_reducible repeat (first | refine YF ?_ _ | refine YG ?_ | refine YH ?_ _)); refine blk_put (cs := #[.bool false, .int .i64 0, .int .i64 0, .int .i64 0, .int .i64 0, .int .i64 0]) ?_ 0 _ rfl; (with_reducible repeat (first | refine YF ?_ _ | refine YG ?_ | refine YH ?_ _)); exact BK113.out) Try.underlying41 rfl (by kernel_rfl)) rfl ?_
 exact ⟨by first | rfl | (simp [errW_none, errW_some] <;> rfl) | (simp [*, errW_none, errW_some] <;> rfl), by repeat (first | (with_reducible first | exact HB.out | apply YA | apply YB | apply YC | refine below_set ?_ GE112.out | refine below_set ?_ GE113.out | refine below_set ?_ GE114.out) | exact HB.out)⟩
end Go.Proofs.Ytfigbjjaffkidaa.P
namespace Go.Proofs.Ytfigbjjaffkidaa.P
open Go.RowKit YtfigbjjaffkidaaW.PrintWords YtfigbjjaffkidaaW.PrintLast YtfigbjjaffkidaaW.PrintMore
open YtfigbjjaffkidaaW.PrintWords renaming below_alloc → YA, pw_below_drewN → YB, below_drew1 → YC, below_step → YD, below_size → YE, blk_drewN → YF, blk_drew → YG, blk_alloc → YH, blk_cell → YI, blk_frozen → YJ, blk_below → YK
open YtfigbjjaffkidaaW.PrintWords.Aside0 renaming mk → YL
open List renaming map_toArray → YM, length_take → YN, length_drop → YO
attribute [local go_sem] max2_int min2_int max_two min_two max_three min_three max_four min_four
attribute [local go_sem high] eqA45
mutual
def object_Check.j0 : Nat → Bool → Int → Int → Bool → Int → Int → Int → Int → Int → Int → Int → Int → Int → Int → Int → Bool → Int → Int → Int → Int → Int → Int → Int → Int → Int → Option (Int)
 | 0, _, _, _, _, _, _, _, _, _, _, _, _, _, _, _, _, _, _, _, _, _, _, _, _, _ => none
 | k + 1, x4, x117000, x117001, x117002, x117003, x117004, x117005, x117006, x117007, x117008, x117009, x117010, x117011, x118000, x118001, x118002, x118003, x118004, x118005, x118006, x118007, x118008, x118009, x118010, x118011 => if x117000 = 1 then (if x4 = true then (if (!(x118000 == 0) || (!(x118001 == 0) || ((x118002 || (!(x118003 == 0) || (!(x118004 == 0) || (!(x118005 == 0) || (!(x118006 == 0) || (!(x118007 == 0))))))) || ((!(x118008 == 0) || (!(x118009 == 0) || (!(x118010 == 0)))) || (!(x118011 == 0)))))) = true then (some 1) else (some 0)) else (some 1)) else (if x117000 = 4 then (if x4 = true then (if x117002 = true then (object_Check.j1 k false x117000 x117001 true x117003 x117004 x117005 x117006 x117007 x117008 x117009 x117010 x117011 x118000 x118001 x118002 x118003 x118004 x118005 x118006 x118007 x118008 x118009 x118010 0) else (if x117011 ≥ 0 then (object_Check.j1 k (decide (x117011 ≤ 65535)) x117000 x117001 false x117003 x117004 x117005 x117006 x117007 x117008 x117009 x117010 x117011 x118000 x118001 x118002 x118003 x118004 x118005 x118006 x118007 x118008 x118009 x118010 0) else (object_Check.j1 k false x117000 x117001 false x117003 x117004 x117005 x117006 x117007 x117008 x117009 x117010 x117011 x118000 x118001 x118002 x118003 x118004 x118005 x118006 x118007 x118008 x118009 x118010 0))) else (object_Check.j1 k false x117000 x117001 x117002 x117003 x117004 x117005 x117006 x117007 x117008 x117009 x117010 x117011 x118000 x118001 x118002 x118003 x118004 x118005 x118006 x118007 x118008 x118009 x118010 0)) else (if x117000 = 2 then (object_Check.j1 k x4 x117000 x117001 x117002 x117003 x117004 x117005 x117006 x117007 x117008 x117009 x117010 x117011 x118000 x118001 x118002 x118003 x118004 x118005 x118006 x118007 x118008 x118009 x118010 x118011) else (if x117000 = 3 then ((height_At.f k x117008 x117009 x117010 0 0).bind fun bt118 => (if x4 = true then (if bt118.2.2.2.2.2.2 = 0 then (if (!(x118000 == 0) || (!(x118001 == 0) || ((x118002 || (!(x118003 == 0) || (!(x118004 == 0) || (!(x118005 == 0) || (!(x118006 == 0) || (!(x118007 == 0))))))) || (!(x118011 == 0))))) = true then (some 1) else (some 0)) else (some 1)) else (some 1))) else (some 1))))
def object_Check.j1 : Nat → Bool → Int → Int → Bool → Int → Int → Int → Int → Int → Int → Int → Int → Int → Int → Int → Bool → Int → Int → Int → Int → Int → Int → Int → Int → Int → Option (Int)
 | 0, _, _, _, _, _, _, _, _, _, _, _, _, _, _, _, _, _, _, _, _, _, _, _, _, _ => none
 | k + 1, x4, x117000, x117001, x117002, x117003, x117004, x117005, x117006, x117007, x117008, x117009, x117010, x117011, x118000, x118001, x118002, x118003, x118004, x118005, x118006, x118007, x118008, x118009, x118010, x118011 => if x4 = true then ((height_Check.f k x117002 x117003 x117004 x117005 x117006 x117007).bind fun t126 => (if t126 = 0 then (if (!(x118000 == 0) || (!(x118001 == 0) || ((!(x118008 == 0) || (!(x118009 == 0) || (!(x118010 == 0)))) || (!(x118011 == 0))))) = true then (some 1) else (some 0)) else (some 1))) else (some 1)
end
def object_Check.f (k : Nat) (a0_0 : Int) (a0_1 : Int) (a0_2 : Bool) (a0_3 : Int) (a0_4 : Int) (a0_5 : Int) (a0_6 : Int) (a0_7 : Int) (a0_8 : Int) (a0_9 : Int) (a0_10 : Int) (a0_11 : Int) : Option (Int) := if a0_1 ≥ 0 then (object_Check.j0 k (decide (a0_1 < 64)) a0_0 a0_1 a0_2 a0_3 a0_4 a0_5 a0_6 a0_7 a0_8 a0_9 a0_10 a0_11 0 0 a0_2 a0_3 a0_4 a0_5 a0_6 a0_7 a0_8 a0_9 a0_10 a0_11) else (object_Check.j0 k false a0_0 a0_1 a0_2 a0_3 a0_4 a0_5 a0_6 a0_7 a0_8 a0_9 a0_10 a0_11 0 0 a0_2 a0_3 a0_4 a0_5 a0_6 a0_7 a0_8 a0_9 a0_10 a0_11)
theorem object_Check.mono_l : ∀ k, (∀ y0 y1 y2 y3 y4 y5 y6 y7 y8 y9 y10 y11 y12 y13 y14 y15 y16 y17 y18 y19 y20 y21 y22 y23 y24, LeO (object_Check.j0 k y0 y1 y2 y3 y4 y5 y6 y7 y8 y9 y10 y11 y12 y13 y14 y15 y16 y17 y18 y19 y20 y21 y22 y23 y24) (object_Check.j0 (k + 1) y0 y1 y2 y3 y4 y5 y6 y7 y8 y9 y10 y11 y12 y13 y14 y15 y16 y17 y18 y19 y20 y21 y22 y23 y24)) ∧ (∀ y0 y1 y2 y3 y4 y5 y6 y7 y8 y9 y10 y11 y12 y13 y14 y15 y16 y17 y18 y19 y20 y21 y22 y23 y24, LeO (object_Check.j1 k y0 y1 y2 y3 y4 y5 y6 y7 y8 y9 y10 y11 y12 y13 y14 y15 y16 y17 y18 y19 y20 y21 y22 y23 y24) (object_Check.j1 (k + 1) y0 y1 y2 y3 y4 y5 y6 y7 y8 y9 y10 y11 y12 y13 y14 y15 y16 y17 y18 y19 y20 y21 y22 y23 y24))
 | 0 => ⟨fun _ _ _ _ _ _ _ _ _ _ _ _ _ _ _ _ _ _ _ _ _ _ _ _ _ r h => by simp [object_Check.j0] at h, fun _ _ _ _ _ _ _ _ _ _ _ _ _ _ _ _ _ _ _ _ _ _ _ _ _ r h => by simp [object_Check.j1] at h⟩
 | k + 1 => by
  obtain ⟨ih0, ih1⟩ := object_Check.mono_l k
  refine ⟨?_, ?_⟩
  ·intro y0 y1 y2 y3 y4 y5 y6 y7 y8 y9 y10 y11 y12 y13 y14 y15 y16 y17 y18 y19 y20 y21 y22 y23 y24
   unfold object_Check.j0
   repeat' first
   | (with_reducible exact ih0 _ _ _ _ _ _ _ _ _ _ _ _ _ _ _ _ _ _ _ _ _ _ _ _ _)
   | (with_reducible exact ih1 _ _ _ _ _ _ _ _ _ _ _ _ _ _ _ _ _ _ _ _ _ _ _ _ _)
   | (with_reducible exact height_At.mono _ _ _ _ _ _)
   | (with_reducible exact height_Check.mono _ _ _ _ _ _ _)
   | (with_reducible exact LeO.refl _)
   | (with_reducible exact LeO.none _)
   | (with_reducible refine LeO.ite ?_ ?_)
   | (with_reducible refine LeO.bind ?_ (fun _ => ?_))
   | exact ih0 _ _ _ _ _ _ _ _ _ _ _ _ _ _ _ _ _ _ _ _ _ _ _ _ _
   | exact ih1 _ _ _ _ _ _ _ _ _ _ _ _ _ _ _ _ _ _ _ _ _ _ _ _ _
   | exact height_At.mono _ _ _ _ _ _
   | exact height_Check.mono _ _ _ _ _ _ _
   | exact LeO.none _
   | refine LeO.ite ?_ ?_
   | refine LeO.bind ?_ (fun _ => ?_)
  intro y0 y1 y2 y3 y4 y5 y6 y7 y8 y9 y10 y11 y12 y13 y14 y15 y16 y17 y18 y19 y20 y21 y22 y23 y24
  unfold object_Check.j1
  repeat' first
  | (with_reducible exact ih0 _ _ _ _ _ _ _ _ _ _ _ _ _ _ _ _ _ _ _ _ _ _ _ _ _)
  | (with_reducible exact ih1 _ _ _ _ _ _ _ _ _ _ _ _ _ _ _ _ _ _ _ _ _ _ _ _ _)
  | (with_reducible exact height_At.mono _ _ _ _ _ _)
  | (with_reducible exact height_Check.mono _ _ _ _ _ _ _)
  | (with_reducible exact LeO.refl _)
  | (with_reducible exact LeO.none _)
  | (with_reducible refine LeO.ite ?_ ?_)
  | (with_reducible refine LeO.bind ?_ (fun _ => ?_))
  | exact ih0 _ _ _ _ _ _ _ _ _ _ _ _ _ _ _ _ _ _ _ _ _ _ _ _ _
  | exact ih1 _ _ _ _ _ _ _ _ _ _ _ _ _ _ _ _ _ _ _ _ _ _ _ _ _
  | exact height_At.mono _ _ _ _ _ _
  | exact height_Check.mono _ _ _ _ _ _ _
  | exact LeO.none _
  | refine LeO.ite ?_ ?_
  | refine LeO.bind ?_ (fun _ => ?_)
theorem object_Check.mono : ∀ a0 a1 a2 a3 a4 a5 a6 a7 a8 a9 a10 a11 k, LeO (object_Check.f k a0 a1 a2 a3 a4 a5 a6 a7 a8 a9 a10 a11) (object_Check.f (k + 1) a0 a1 a2 a3 a4 a5 a6 a7 a8 a9 a10 a11) := by
 intro a0 a1 a2 a3 a4 a5 a6 a7 a8 a9 a10 a11 k
 obtain ⟨ih0, ih1⟩ := object_Check.mono_l k
 unfold object_Check.f
 repeat' first
   | (with_reducible exact ih0 _ _ _ _ _ _ _ _ _ _ _ _ _ _ _ _ _ _ _ _ _ _ _ _ _)
   | (with_reducible exact ih1 _ _ _ _ _ _ _ _ _ _ _ _ _ _ _ _ _ _ _ _ _ _ _ _ _)
   | (with_reducible exact height_At.mono _ _ _ _ _ _)
   | (with_reducible exact height_Check.mono _ _ _ _ _ _ _)
   | (with_reducible exact LeO.refl _)
   | (with_reducible exact LeO.none _)
   | (with_reducible refine LeO.ite ?_ ?_)
   | (with_reducible refine LeO.bind ?_ (fun _ => ?_))
   | exact ih0 _ _ _ _ _ _ _ _ _ _ _ _ _ _ _ _ _ _ _ _ _ _ _ _ _
   | exact ih1 _ _ _ _ _ _ _ _ _ _ _ _ _ _ _ _ _ _ _ _ _ _ _ _ _
   | exact height_At.mono _ _ _ _ _ _
   | exact height_Check.mono _ _ _ _ _ _ _
   | exact LeO.none _
   | refine LeO.ite ?_ ?_
   | refine LeO.bind ?_ (fun _ => ?_)
theorem object_Check.calls (k : Nat) (a0_0 : Int) (a0_1 : Int) (a0_2 : Bool) (a0_3 : Int) (a0_4 : Int) (a0_5 : Int) (a0_6 : Int) (a0_7 : Int) (a0_8 : Int) (a0_9 : Int) (a0_10 : Int) (a0_11 : Int) (r : Int) (w : World) (h : object_Check.f k a0_0 a0_1 a0_2 a0_3 a0_4 a0_5 a0_6 a0_7 a0_8 a0_9 a0_10 a0_11 = some r) :
  Calls Try.prog 34 #[.agg #[.int .i64 a0_0, .int .i64 a0_1, .bool a0_2, .int .i64 a0_3, .int .i64 a0_4, .int .i64 a0_5, .int .i64 a0_6, .int .i64 a0_7, .int .i64 a0_8, .int .i64 a0_9, .int .i64 a0_10, .int .i64 a0_11]] w fun e w' => e = .returned (.int .i64 r) ∧ Below w.heap.size w w' := by
 have hu45 := Try.underlying45
 have hu41 := Try.underlying41
 have hu43 := Try.underlying43
 have HB := YL (Below.refl w.heap.size w)
 have H : (if a0_1 ≥ 0 then (object_Check.j0 k (decide (a0_1 < 64)) a0_0 a0_1 a0_2 a0_3 a0_4 a0_5 a0_6 a0_7 a0_8 a0_9 a0_10 a0_11 0 0 a0_2 a0_3 a0_4 a0_5 a0_6 a0_7 a0_8 a0_9 a0_10 a0_11) else (object_Check.j0 k false a0_0 a0_1 a0_2 a0_3 a0_4 a0_5 a0_6 a0_7 a0_8 a0_9 a0_10 a0_11 0 0 a0_2 a0_3 a0_4 a0_5 a0_6 a0_7 a0_8 a0_9 a0_10 a0_11)) = some r := h
 clear h; have HC2 := YL H; clear H
 go_enter Try.func34, Try.ntmps34
 go_upto_region 3 with (first | ((with_reducible refine gate_dst (N := 1) rfl ?_); refine box_event ?hg (N := 1) ?hd (cs := #[.int .i64 a0_0, .int .i64 a0_1, .bool a0_2, .int .i64 a0_3, .int .i64 a0_4, .int .i64 a0_5, .int .i64 a0_6, .int .i64 a0_7, .int .i64 a0_8, .int .i64 a0_9, .int .i64 a0_10, .int .i64 a0_11]) (t := 45) ?hr ?_; (case hd => rfl); (case hg => rfl); (case hr => first | (go_simp; done) | (go_simp; rfl)); intro gb116 hg w3 hbox hb; have n0_ := YL (YD (upB HB) hb); have n1_ := YL (hbox); have n2_ := YL ((by rw [hg]; exact (YE (upB HB)) : w.heap.size ≤ gb116)); have n3_ := YL ((by rw [hg]; exact (YE (upB HB)) : w.heap.size ≤ gb116)); clear HB; have HB := n0_; have BK116 := n1_; have GW116 := n2_; have GE116 := n3_; clear n0_ n1_ n2_ n3_; clear hb hbox hg; have q4_0 : w3.cell? ⟨gb116, 0, none⟩ = some (.int .i64 a0_0) := (YI BK116.out 0).trans rfl; have q4_1 : w3.cell? ⟨gb116, 1, none⟩ = some (.int .i64 a0_1) := (YI BK116.out 1).trans rfl; have q4_2 : w3.cell? ⟨gb116, 2, none⟩ = some (.bool a0_2) := (YI BK116.out 2).trans rfl; have q4_3 : w3.cell? ⟨gb116, 3, none⟩ = some (.int .i64 a0_3) := (YI BK116.out 3).trans rfl; have q4_4 : w3.cell? ⟨gb116, 4, none⟩ = some (.int .i64 a0_4) := (YI BK116.out 4).trans rfl; have q4_5 : w3.cell? ⟨gb116, 5, none⟩ = some (.int .i64 a0_5) := (YI BK116.out 5).trans rfl; have q4_6 : w3.cell? ⟨gb116, 6, none⟩ = some (.int .i64 a0_6) := (YI BK116.out 6).trans rfl; have q4_7 : w3.cell? ⟨gb116, 7, none⟩ = some (.int .i64 a0_7) := (YI BK116.out 7).trans rfl; have q4_8 : w3.cell? ⟨gb116, 8, none⟩ = some (.int .i64 a0_8) := (YI BK116.out 8).trans rfl; have q4_9 : w3.cell? ⟨gb116, 9, none⟩ = some (.int .i64 a0_9) := (YI BK116.out 9).trans rfl; have q4_10 : w3.cell? ⟨gb116, 10, none⟩ = some (.int .i64 a0_10) := (YI BK116.out 10).trans rfl; have q4_11 : w3.cell? ⟨gb116, 11, none⟩ = some (.int .i64 a0_11) := (YI BK116.out 11).trans rfl; have f4_0 := YJ BK116.out 0; have f4_1 := YJ BK116.out 1; have f4_2 := YJ BK116.out 2; have f4_3 := YJ BK116.out 3; have f4_4 := YJ BK116.out 4; have f4_5 := YJ BK116.out 5; have f4_6 := YJ BK116.out 6; have f4_7 := YJ BK116.out 7; have f4_8 := YJ BK116.out 8; have f4_9 := YJ BK116.out 9; have f4_10 := YJ BK116.out 10; have f4_11 := YJ BK116.out 11) | ((with_reducible refine gate_dst (N := 3) rfl ?_); refine box_event ?hg (N := 3) ?hd (cs := #[.int .i64 0, .int .i64 0, .bool false, .int .i64 0, .int .i64 0, .int .i64 0, .int .i64 0, .int .i64 0, .int .i64 0, .int .i64 0, .int .i64 0, .int .i64 0]) (t := 45) ?hr ?_; (case hd => rfl); (case hg => rfl); (case hr => first | (go_simp; done) | (go_simp; rfl)); intro gb117 hg w5 hbox hb; have n0_ := YL (YK (g := gb116) (o := .cells #[.int .i64 a0_0, .int .i64 a0_1, .bool a0_2, .int .i64 a0_3, .int .i64 a0_4, .int .i64 a0_5, .int .i64 a0_6, .int .i64 a0_7, .int .i64 a0_8, .int .i64 a0_9, .int .i64 a0_10, .int .i64 a0_11] 45 (0, 0)) (upK BK116) hb); have n1_ := YL (YD (upB HB) hb); have n2_ := YL (hbox); have n3_ := YL ((by rw [hg]; exact (YE (upB HB)) : w.heap.size ≤ gb117)); have n4_ := YL ((by rw [hg]; exact (YE (upB HB)) : w.heap.size ≤ gb117)); have n5_ := YL ((by rw [hg]; exact Nat.ne_of_lt (blk_lt (g := gb116) (o := .cells #[.int .i64 a0_0, .int .i64 a0_1, .bool a0_2, .int .i64 a0_3, .int .i64 a0_4, .int .i64 a0_5, .int .i64 a0_6, .int .i64 a0_7, .int .i64 a0_8, .int .i64 a0_9, .int .i64 a0_10, .int .i64 a0_11] 45 (0, 0)) (upK BK116)) : gb116 ≠ gb117)); have n6_ := YL ((by rw [hg]; exact Nat.ne_of_gt (blk_lt (g := gb116) (o := .cells #[.int .i64 a0_0, .int .i64 a0_1, .bool a0_2, .int .i64 a0_3, .int .i64 a0_4, .int .i64 a0_5, .int .i64 a0_6, .int .i64 a0_7, .int .i64 a0_8, .int .i64 a0_9, .int .i64 a0_10, .int .i64 a0_11] 45 (0, 0)) (upK BK116)) : gb117 ≠ gb116)); clear BK116; clear HB; have BK116 := n0_; have HB := n1_; have BK117 := n2_; have GW117 := n3_; have GE117 := n4_; have NB116_117 := n5_; have NB117_116 := n6_; clear n0_ n1_ n2_ n3_ n4_ n5_ n6_; clear hb hbox hg; have hnb6 := NB117_116.out; have hnc6 := NB116_117.out; have q7_0 : w5.cell? ⟨gb117, 0, none⟩ = some (.int .i64 0) := (YI BK117.out 0).trans rfl; have q7_1 : w5.cell? ⟨gb117, 1, none⟩ = some (.int .i64 0) := (YI BK117.out 1).trans rfl; have q7_2 : w5.cell? ⟨gb117, 2, none⟩ = some (.bool false) := (YI BK117.out 2).trans rfl; have q7_3 : w5.cell? ⟨gb117, 3, none⟩ = some (.int .i64 0) := (YI BK117.out 3).trans rfl; have q7_4 : w5.cell? ⟨gb117, 4, none⟩ = some (.int .i64 0) := (YI BK117.out 4).trans rfl; have q7_5 : w5.cell? ⟨gb117, 5, none⟩ = some (.int .i64 0) := (YI BK117.out 5).trans rfl; have q7_6 : w5.cell? ⟨gb117, 6, none⟩ = some (.int .i64 0) := (YI BK117.out 6).trans rfl; have q7_7 : w5.cell? ⟨gb117, 7, none⟩ = some (.int .i64 0) := (YI BK117.out 7).trans rfl; have q7_8 : w5.cell? ⟨gb117, 8, none⟩ = some (.int .i64 0) := (YI BK117.out 8).trans rfl; have q7_9 : w5.cell? ⟨gb117, 9, none⟩ = some (.int .i64 0) := (YI BK117.out 9).trans rfl; have q7_10 : w5.cell? ⟨gb117, 10, none⟩ = some (.int .i64 0) := (YI BK117.out 10).trans rfl; have q7_11 : w5.cell? ⟨gb117, 11, none⟩ = some (.int .i64 0) := (YI BK117.out 11).trans rfl; have f7_0 := YJ BK117.out 0; have f7_1 := YJ BK117.out 1; have f7_2 := YJ BK117.out 2; have f7_3 := YJ BK117.out 3; have f7_4 := YJ BK117.out 4; have f7_5 := YJ BK117.out 5; have f7_6 := YJ BK117.out 6; have f7_7 := YJ BK117.out 7; have f7_8 := YJ BK117.out 8; have f7_9 := YJ BK117.out 9; have f7_10 := YJ BK117.out 10; have f7_11 := YJ BK117.out 11))
 (try simp only [Act.put, List.setIfInBounds_toArray, List.set_cons_zero, List.set_cons_succ])
 go_cut [4] (fun v4 wc => ∃ (kq : Nat) (x4_1 : Bool), v4 = .bool x4_1 ∧ Aside0 (object_Check.j0 kq x4_1 a0_0 a0_1 a0_2 a0_3 a0_4 a0_5 a0_6 a0_7 a0_8 a0_9 a0_10 a0_11 0 0 a0_2 a0_3 a0_4 a0_5 a0_6 a0_7 a0_8 a0_9 a0_10 a0_11 = some r) ∧ Aside0 (kq ≤ k) ∧ Aside0 (wc.heap[gb116]? = some (.cells #[.int .i64 a0_0, .int .i64 a0_1, .bool a0_2, .int .i64 a0_3, .int .i64 a0_4, .int .i64 a0_5, .int .i64 a0_6, .int .i64 a0_7, .int .i64 a0_8, .int .i64 a0_9, .int .i64 a0_10, .int .i64 a0_11] 45 (0, 0))) ∧ Aside0 (wc.heap[gb117]? = some (.cells #[.int .i64 0, .int .i64 0, .bool a0_2, .int .i64 a0_3, .int .i64 a0_4, .int .i64 a0_5, .int .i64 a0_6, .int .i64 a0_7, .int .i64 a0_8, .int .i64 a0_9, .int .i64 a0_10, .int .i64 a0_11] 45 (0, 0))) ∧ Aside0 (Below w.heap.size w wc))
 case first =>
  have H := HC2.out
  clear HC2
  by_cases c8 : a0_1 ≥ 0
  ·rw [if_pos c8] at H
   have c8b0 : decide (0 ≤ a0_1) = true := decide_eq_true c8; clear c8
   (first | rw [c8b0] | (simp only [i64_w, i32_w]; rw [c8b0]) | rw [c8b1] | skip)
   have H' := YL H
   clear H
   have hnb9 := NB116_117.out
   have hnc9 := NB117_116.out
   have q10_0 : w5.cell? ⟨gb116, 0, none⟩ = some (.int .i64 a0_0) := (YI BK116.out 0).trans rfl
   have q10_1 : w5.cell? ⟨gb116, 1, none⟩ = some (.int .i64 a0_1) := (YI BK116.out 1).trans rfl
   have q10_2 : w5.cell? ⟨gb116, 2, none⟩ = some (.bool a0_2) := (YI BK116.out 2).trans rfl
   have q10_3 : w5.cell? ⟨gb116, 3, none⟩ = some (.int .i64 a0_3) := (YI BK116.out 3).trans rfl
   have q10_4 : w5.cell? ⟨gb116, 4, none⟩ = some (.int .i64 a0_4) := (YI BK116.out 4).trans rfl
   have q10_5 : w5.cell? ⟨gb116, 5, none⟩ = some (.int .i64 a0_5) := (YI BK116.out 5).trans rfl
   have q10_6 : w5.cell? ⟨gb116, 6, none⟩ = some (.int .i64 a0_6) := (YI BK116.out 6).trans rfl
   have q10_7 : w5.cell? ⟨gb116, 7, none⟩ = some (.int .i64 a0_7) := (YI BK116.out 7).trans rfl
   have q10_8 : w5.cell? ⟨gb116, 8, none⟩ = some (.int .i64 a0_8) := (YI BK116.out 8).trans rfl
   have q10_9 : w5.cell? ⟨gb116, 9, none⟩ = some (.int .i64 a0_9) := (YI BK116.out 9).trans rfl
   have q10_10 : w5.cell? ⟨gb116, 10, none⟩ = some (.int .i64 a0_10) := (YI BK116.out 10).trans rfl
   have q10_11 : w5.cell? ⟨gb116, 11, none⟩ = some (.int .i64 a0_11) := (YI BK116.out 11).trans rfl
   have f10_0 := YJ BK116.out 0
   have f10_1 := YJ BK116.out 1
   have f10_2 := YJ BK116.out 2
   have f10_3 := YJ BK116.out 3
   have f10_4 := YJ BK116.out 4
   have f10_5 := YJ BK116.out 5
   have f10_6 := YJ BK116.out 6
   have f10_7 := YJ BK116.out 7
   have f10_8 := YJ BK116.out 8
   have f10_9 := YJ BK116.out 9
   have f10_10 := YJ BK116.out 10
   have f10_11 := YJ BK116.out 11
   go_wp2
   go_meet
   case rel => exact ⟨_, (decide (a0_1 < 64)), (by first | rfl | (simp; done) | (simp [*]; done)), H', ⟨by first | omega | exact Nat.le_refl _⟩, ⟨by (with_reducible repeat (first | refine YF ?_ _ | refine YG ?_ | refine YH ?_ _)); refine blk_far ?_ NB116_117.out _; (with_reducible repeat (first | refine YF ?_ _ | refine YG ?_ | refine YH ?_ _)); refine blk_far ?_ NB116_117.out _; (with_reducible repeat (first | refine YF ?_ _ | refine YG ?_ | refine YH ?_ _)); refine blk_far ?_ NB116_117.out _; (with_reducible repeat (first | refine YF ?_ _ | refine YG ?_ | refine YH ?_ _)); refine blk_far ?_ NB116_117.out _; (with_reducible repeat (first | refine YF ?_ _ | refine YG ?_ | refine YH ?_ _)); refine blk_far ?_ NB116_117.out _; (with_reducible repeat (first | refine YF ?_ _ | refine YG ?_ | refine YH ?_ _)); refine blk_far ?_ NB116_117.out _; (with_reducible repeat (first | refine YF ?_ _ | refine YG ?_ | refine YH ?_ _)); refine blk_far ?_ NB116_117.out _; (with_reducible repeat (first | refine YF ?_ _ | refine YG ?_ | refine YH ?_ _)); refine blk_far ?_ NB116_117.out _; (with_reducible repeat (first | refine YF ?_ _ | refine YG ?_ | refine YH ?_ _)); refine blk_far ?_ NB116_117.out _; (with_reducible repeat (first | refine YF ?_ _ | refine YG ?_ | refine YH ?_ _)); refine blk_far ?_ NB116_117.out _; (with_reducible repeat (first | refine YF ?_ _ | refine YG ?_ | refine YH ?_ _)); refine blk_far ?_ NB116_117.out _; (with_reducible repeat (first | refine YF ?_ _ | refine YG ?_ | refine YH ?_ _)); refine blk_far ?_ NB116_117.out _; (with_reducible repeat (first | refine YF ?_ _ | refine YG ?_ | refine YH ?_ _)); refine blk_far ?_ NB116_117.out _; (with_reducible repeat (first | refine YF ?_ _ | refine YG ?_ | refine YH ?_ _)); refine blk_far ?_ NB116_117.out _; (with_reducible repeat (first | refine YF ?_ _ | refine YG ?_ | refine YH ?_ _)); exact BK116.out⟩, ⟨by (with_reducible repeat (first | refine YF ?_ _ | refine YG ?_ | refine YH ?_ _)); refine blk_put (cs := #[.int .i64 0, .int .i64 a0_1, .bool a0_2, .int .i64 a0_3, .int .i64 a0_4, .int .i64 a0_5, .int .i64 a0_6, .int .i64 a0_7, .int .i64 a0_8, .int .i64 a0_9, .int .i64 a0_10, .int .i64 a0_11]) ?_ 1 _ rfl; (with_reducible repeat (first | refine YF ?_ _ | refine YG ?_ | refine YH ?_ _)); refine blk_put (cs := #[.int .i64 a0_0, .int .i64 a0_1, .bool a0_2, .int .i64 a0_3, .int .i64 a0_4, .int .i64 a0_5, .int .i64 a0_6, .int .i64 a0_7, .int .i64 a0_8, .int .i64 a0_9, .int .i64 a0_10, .int .i64 a0_11]) ?_ 0 _ rfl; (with_reducible repeat (first | refine YF ?_ _ | refine YG ?_ | refine YH ?_ _)); refine blk_put (cs := #[.int .i64 a0_0, .int .i64 a0_1, .bool a0_2, .int .i64 a0_3, .int .i64 a0_4, .int .i64 a0_5, .int .i64 a0_6, .int .i64 a0_7, .int .i64 a0_8, .int .i64 a0_9, .int .i64 a0_10, .int .i64 0]) ?_ 11 _ rfl; (with_reducible repeat (first | refine YF ?_ _ | refine YG ?_ | refine YH ?_ _)); refine blk_put (cs := #[.int .i64 a0_0, .int .i64 a0_1, .bool a0_2, .int .i64 a0_3, .int .i64 a0_4, .int .i64 a0_5, .int .i64 a0_6, .int .i64 a0_7, .int .i64 a0_8, .int .i64 a0_9, .int .i64 0, .int .i64 0]) ?_ 10 _ rfl; (with_reducible repeat (first | refine YF ?_ _ | refine YG ?_ | refine YH ?_ _)); refine blk_put (cs := #[.int .i64 a0_0, .int .i64 a0_1, .bool a0_2, .int .i64 a0_3, .int .i64 a0_4, .int .i64 a0_5, .int .i64 a0_6, .int .i64 a0_7, .int .i64 a0_8, .int .i64 0, .int .i64 0, .int .i64 0]) ?_ 9 _ rfl; (with_reducible repeat (first | refine YF ?_ _ | refine YG ?_ | refine YH ?_ _)); refine blk_put (cs := #[.int .i64 a0_0, .int .i64 a0_1, .bool a0_2, .int .i64 a0_3, .int .i64 a0_4, .int .i64 a0_5, .int .i64 a0_6, .int .i64 a0_7, .int .i64 0, .int .i64 0, .int .i64 0, .int .i64 0]) ?_ 8 _ rfl; (with_reducible repeat (first | refine YF ?_ _ | refine YG ?_ | refine YH ?_ _)); refine blk_put (cs := #[.int .i64 a0_0, .int .i64 a0_1, .bool a0_2, .int .i64 a0_3, .int .i64 a0_4, .int .i64 a0_5, .int .i64 a0_6, .int .i64 0, .int .i64 0, .int .i64 0, .int .i64 0, .int .i64 0]) ?_ 7 _ rfl; (with_reducible repeat (first | refine YF ?_ _ | refine YG ?_ | refine YH ?_ _)); refine blk_put (cs := #[.int .i64 a0_0, .int .i64 a0_1, .bool a0_2, .int .i64 a0_3, .int .i64 a0_4, .int .i64 a0_5, .int .i64 0, .int .i64 0, .int .i64 0, .int .i64 0, .int .i64 0, .int .i64 0]) ?_ 6 _ rfl; (with_reducible repeat (first | refine YF ?_ _ | refine YG ?_ | refine YH ?_ _)); refine blk_put (cs := #[.int .i64 a0_0, .int .i64 a0_1, .bool a0_2, .int .i64 a0_3, .int .i64 a0_4, .int .i64 0, .int .i64 0, .int .i64 0, .int .i64 0, .int .i64 0, .int .i64 0, .int .i64 0]) ?_ 5 _ rfl; (with_reducible repeat (first | refine YF ?_ _ | refine YG ?_ | refine YH ?_ _)); refine blk_put (cs := #[.int .i64 a0_0, .int .i64 a0_1, .bool a0_2, .int .i64 a0_3, .int .i64 0, .int .i64 0, .int .i64 0, .int .i64 0, .int .i64 0, .int .i64 0, .int .i64 0, .int .i64 0]) ?_ 4 _ rfl; (with_reducible repeat (first | refine YF ?_ _ | refine YG ?_ | refine YH ?_ _)); refine blk_put (cs := #[.int .i64 a0_0, .int .i64 a0_1, .bool a0_2, .int .i64 0, .int .i64 0, .int .i64 0, .int .i64 0, .int .i64 0, .int .i64 0, .int .i64 0, .int .i64 0, .int .i64 0]) ?_ 3 _ rfl; (with_reducible repeat (first | refine YF ?_ _ | refine YG ?_ | refine YH ?_ _)); refine blk_put (cs := #[.int .i64 a0_0, .int .i64 a0_1, .bool false, .int .i64 0, .int .i64 0, .int .i64 0, .int .i64 0, .int .i64 0, .int .i64 0, .int .i64 0, .int .i64 0, .int .i64 0]) ?_ 2 _ rfl; (with_reducible repeat (first | refine YF ?_ _ | refine YG ?_ | refine YH ?_ _)); refine blk_put (cs := #[.int .i64 a0_0, .int .i64 0, .bool false, .int .i64 0, .int .i64 0, .int .i64 0, .int .i64 0, .int .i64 0, .int .i64 0, .int .i64 0, .int .i64 0, .int .i64 0]) ?_ 1 _ rfl; (with_reducible repeat (first | refine YF ?_ _ | refine YG ?_ | refine YH ?_ _)); refine blk_put (cs := #[.int .i64 0, .int .i64 0, .bool false, .int .i64 0, .int .i64 0, .int .i64 0, .int .i64 0, .int .i64 0, .int .i64 0, .int .i64 0, .int .i64 0, .int .i64 0]) ?_ 0 _ rfl; (with_reducible repeat (first | refine YF ?_ _ | refine YG ?_ | refine YH ?_ _)); exact BK117.out⟩, ⟨by repeat (first | (with_reducible first | exact HB.out | apply YA | apply YB | apply YC | refine below_set ?_ GE116.out | refine below_set ?_ GE117.out) | exact HB.out)⟩⟩
  rw [if_neg c8] at H; have c8b0 : decide (0 ≤ a0_1) = false := decide_eq_false c8; clear c8
  (first | rw [c8b0] | (simp only [i64_w, i32_w]; rw [c8b0]) | rw [c8b1] | skip)
  have H' := YL H
  clear H
  have hnb11 := NB116_117.out
  have hnc11 := NB117_116.out
  have q12_0 : w5.cell? ⟨gb116, 0, none⟩ = some (.int .i64 a0_0) := (YI BK116.out 0).trans rfl
  have q12_1 : w5.cell? ⟨gb116, 1, none⟩ = some (.int .i64 a0_1) := (YI BK116.out 1).trans rfl
  have q12_2 : w5.cell? ⟨gb116, 2, none⟩ = some (.bool a0_2) := (YI BK116.out 2).trans rfl
  have q12_3 : w5.cell? ⟨gb116, 3, none⟩ = some (.int .i64 a0_3) := (YI BK116.out 3).trans rfl
  have q12_4 : w5.cell? ⟨gb116, 4, none⟩ = some (.int .i64 a0_4) := (YI BK116.out 4).trans rfl
  have q12_5 : w5.cell? ⟨gb116, 5, none⟩ = some (.int .i64 a0_5) := (YI BK116.out 5).trans rfl
  have q12_6 : w5.cell? ⟨gb116, 6, none⟩ = some (.int .i64 a0_6) := (YI BK116.out 6).trans rfl
  have q12_7 : w5.cell? ⟨gb116, 7, none⟩ = some (.int .i64 a0_7) := (YI BK116.out 7).trans rfl
  have q12_8 : w5.cell? ⟨gb116, 8, none⟩ = some (.int .i64 a0_8) := (YI BK116.out 8).trans rfl
  have q12_9 : w5.cell? ⟨gb116, 9, none⟩ = some (.int .i64 a0_9) := (YI BK116.out 9).trans rfl
  have q12_10 : w5.cell? ⟨gb116, 10, none⟩ = some (.int .i64 a0_10) := (YI BK116.out 10).trans rfl
  have q12_11 : w5.cell? ⟨gb116, 11, none⟩ = some (.int .i64 a0_11) := (YI BK116.out 11).trans rfl
  have f12_0 := YJ BK116.out 0
  have f12_1 := YJ BK116.out 1
  have f12_2 := YJ BK116.out 2
  have f12_3 := YJ BK116.out 3
  have f12_4 := YJ BK116.out 4
  have f12_5 := YJ BK116.out 5
  have f12_6 := YJ BK116.out 6
  have f12_7 := YJ BK116.out 7
  have f12_8 := YJ BK116.out 8
  have f12_9 := YJ BK116.out 9
  have f12_10 := YJ BK116.out 10
  have f12_11 := YJ BK116.out 11
  go_wp2
  go_meet
  case rel => exact ⟨_, (false), (by first | rfl | (simp; done) | (simp [*]; done)), H', ⟨by first | omega | exact Nat.le_refl _⟩, ⟨by (with_reducible repeat (first | refine YF ?_ _ | refine YG ?_ | refine YH ?_ _)); refine blk_far ?_ NB116_117.out _; (with_reducible repeat (first | refine YF ?_ _ | refine YG ?_ | refine YH ?_ _)); refine blk_far ?_ NB116_117.out _; (with_reducible repeat (first | refine YF ?_ _ | refine YG ?_ | refine YH ?_ _)); refine blk_far ?_ NB116_117.out _; (with_reducible repeat (first | refine YF ?_ _ | refine YG ?_ | refine YH ?_ _)); refine blk_far ?_ NB116_117.out _; (with_reducible repeat (first | refine YF ?_ _ | refine YG ?_ | refine YH ?_ _)); refine blk_far ?_ NB116_117.out _; (with_reducible repeat (first | refine YF ?_ _ | refine YG ?_ | refine YH ?_ _)); refine blk_far ?_ NB116_117.out _; (with_reducible repeat (first | refine YF ?_ _ | refine YG ?_ | refine YH ?_ _)); refine blk_far ?_ NB116_117.out _; (with_reducible repeat (first | refine YF ?_ _ | refine YG ?_ | refine YH ?_ _)); refine blk_far ?_ NB116_117.out _; (with_reducible repeat (first | refine YF ?_ _ | refine YG ?_ | refine YH ?_ _)); refine blk_far ?_ NB116_117.out _; (with_reducible repeat (first | refine YF ?_ _ | refine YG ?_ | refine YH ?_ _)); refine blk_far ?_ NB116_117.out _; (with_reducible repeat (first | refine YF ?_ _ | refine YG ?_ | refine YH ?_ _)); refine blk_far ?_ NB116_117.out _; (with_reducible repeat (first | refine YF ?_ _ | refine YG ?_ | refine YH ?_ _)); refine blk_far ?_ NB116_117.out _; (with_reducible repeat (first | refine YF ?_ _ | refine YG ?_ | refine YH ?_ _)); refine blk_far ?_ NB116_117.out _; (with_reducible repeat (first | refine YF ?_ _ | refine YG ?_ | refine YH ?_ _)); refine blk_far ?_ NB116_117.out _; (with_reducible repeat (first | refine YF ?_ _ | refine YG ?_ | refine YH ?_ _)); exact BK116.out⟩, ⟨by (with_reducible repeat (first | refine YF ?_ _ | refine YG ?_ | refine YH ?_ _)); refine blk_put (cs := #[.int .i64 0, .int .i64 a0_1, .bool a0_2, .int .i64 a0_3, .int .i64 a0_4, .int .i64 a0_5, .int .i64 a0_6, .int .i64 a0_7, .int .i64 a0_8, .int .i64 a0_9, .int .i64 a0_10, .int .i64 a0_11]) ?_ 1 _ rfl; (with_reducible repeat (first | refine YF ?_ _ | refine YG ?_ | refine YH ?_ _)); refine blk_put (cs := #[.int .i64 a0_0, .int .i64 a0_1, .bool a0_2, .int .i64 a0_3, .int .i64 a0_4, .int .i64 a0_5, .int .i64 a0_6, .int .i64 a0_7, .int .i64 a0_8, .int .i64 a0_9, .int .i64 a0_10, .int .i64 a0_11]) ?_ 0 _ rfl; (with_reducible repeat (first | refine YF ?_ _ | refine YG ?_ | refine YH ?_ _)); refine blk_put (cs := #[.int .i64 a0_0, .int .i64 a0_1, .bool a0_2, .int .i64 a0_3, .int .i64 a0_4, .int .i64 a0_5, .int .i64 a0_6, .int .i64 a0_7, .int .i64 a0_8, .int .i64 a0_9, .int .i64 a0_10, .int .i64 0]) ?_ 11 _ rfl; (with_reducible repeat (first | refine YF ?_ _ | refine YG ?_ | refine YH ?_ _)); refine blk_put (cs := #[.int .i64 a0_0, .int .i64 a0_1, .bool a0_2, .int .i64 a0_3, .int .i64 a0_4, .int .i64 a0_5, .int .i64 a0_6, .int .i64 a0_7, .int .i64 a0_8, .int .i64 a0_9, .int .i64 0, .int .i64 0]) ?_ 10 _ rfl; (with_reducible repeat (first | refine YF ?_ _ | refine YG ?_ | refine YH ?_ _)); refine blk_put (cs := #[.int .i64 a0_0, .int .i64 a0_1, .bool a0_2, .int .i64 a0_3, .int .i64 a0_4, .int .i64 a0_5, .int .i64 a0_6, .int .i64 a0_7, .int .i64 a0_8, .int .i64 0, .int .i64 0, .int .i64 0]) ?_ 9 _ rfl; (with_reducible repeat (first | refine YF ?_ _ | refine YG ?_ | refine YH ?_ _)); refine blk_put (cs := #[.int .i64 a0_0, .int .i64 a0_1, .bool a0_2, .int .i64 a0_3, .int .i64 a0_4, .int .i64 a0_5, .int .i64 a0_6, .int .i64 a0_7, .int .i64 0, .int .i64 0, .int .i64 0, .int .i64 0]) ?_ 8 _ rfl; (with_reducible repeat (first | refine YF ?_ _ | refine YG ?_ | refine YH ?_ _)); refine blk_put (cs := #[.int .i64 a0_0, .int .i64 a0_1, .bool a0_2, .int .i64 a0_3, .int .i64 a0_4, .int .i64 a0_5, .int .i64 a0_6, .int .i64 0, .int .i64 0, .int .i64 0, .int .i64 0, .int .i64 0]) ?_ 7 _ rfl; (with_reducible repeat (first | refine YF ?_ _ | refine YG ?_ | refine YH ?_ _)); refine blk_put (cs := #[.int .i64 a0_0, .int .i64 a0_1, .bool a0_2, .int .i64 a0_3, .int .i64 a0_4, .int .i64 a0_5, .int .i64 0, .int .i64 0, .int .i64 0, .int .i64 0, .int .i64 0, .int .i64 0]) ?_ 6 _ rfl; (with_reducible repeat (first | refine YF ?_ _ | refine YG ?_ | refine YH ?_ _)); refine blk_put (cs := #[.int .i64 a0_0, .int .i64 a0_1, .bool a0_2, .int .i64 a0_3, .int .i64 a0_4, .int .i64 0, .int .i64 0, .int .i64 0, .int .i64 0, .int .i64 0, .int .i64 0, .int .i64 0]) ?_ 5 _ rfl; (with_reducible repeat (first | refine YF ?_ _ | refine YG ?_ | refine YH ?_ _)); refine blk_put (cs := #[.int .i64 a0_0, .int .i64 a0_1, .bool a0_2, .int .i64 a0_3, .int .i64 0, .int .i64 0, .int .i64 0, .int .i64 0, .int .i64 0, .int .i64 0, .int .i64 0, .int .i64 0]) ?_ 4 _ rfl; (with_reducible repeat (first | refine YF ?_ _ | refine YG ?_ | refine YH ?_ _)); refine blk_put (cs := #[.int .i64 a0_0, .int .i64 a0_1, .bool a0_2, .int .i64 0, .int .i64 0, .int .i64 0, .int .i64 0, .int .i64 0, .int .i64 0, .int .i64 0, .int .i64 0, .int .i64 0]) ?_ 3 _ rfl; (with_reducible repeat (first | refine YF ?_ _ | refine YG ?_ | refine YH ?_ _)); refine blk_put (cs := #[.int .i64 a0_0, .int .i64 a0_1, .bool false, .int .i64 0, .int .i64 0, .int .i64 0, .int .i64 0, .int .i64 0, .int .i64 0, .int .i64 0, .int .i64 0, .int .i64 0]) ?_ 2 _ rfl; (with_reducible repeat (first | refine YF ?_ _ | refine YG ?_ | refine YH ?_ _)); refine blk_put (cs := #[.int .i64 a0_0, .int .i64 0, .bool false, .int .i64 0, .int .i64 0, .int .i64 0, .int .i64 0, .int .i64 0, .int .i64 0, .int .i64 0, .int .i64 0, .int .i64 0]) ?_ 1 _ rfl; (with_reducible repeat (first | refine YF ?_ _ | refine YG ?_ | refine YH ?_ _)); refine blk_put (cs := #[.int .i64 0, .int .i64 0, .bool false, .int .i64 0, .int .i64 0, .int .i64 0, .int .i64 0, .int .i64 0, .int .i64 0, .int .i64 0, .int .i64 0, .int .i64 0]) ?_ 0 _ rfl; (with_reducible repeat (first | refine YF ?_ _ | refine YG ?_ | refine YH ?_ _)); exact BK117.out⟩, ⟨by repeat (first | (with_reducible first | exact HB.out | apply YA | apply YB | apply YC | refine below_set ?_ GE116.out | refine below_set ?_ GE117.out) | exact HB.out)⟩⟩
 case rest =>
  clear HC2
  try clear c1; try clear p2
  try clear c3; try clear c6
  try clear c8; try clear c8b0
  try clear c9; try clear c11
  try clear q10_0; try clear q10_1
  try clear q10_10; try clear q10_11
  try clear q10_2; try clear q10_3
  try clear q10_4; try clear q10_5
  try clear q10_6; try clear q10_7
  try clear q10_8; try clear q10_9
  try clear q12_0; try clear q12_1
  try clear q12_10; try clear q12_11
  try clear q12_2; try clear q12_3
  try clear q12_4; try clear q12_5
  try clear q12_6; try clear q12_7
  try clear q12_8; try clear q12_9
  try clear q4_0; try clear q4_1
  try clear q4_10; try clear q4_11
  try clear q4_2; try clear q4_3
  try clear q4_4; try clear q4_5
  try clear q4_6; try clear q4_7
  try clear q4_8; try clear q4_9
  try clear q7_0; try clear q7_1
  try clear q7_10; try clear q7_11
  try clear q7_2; try clear q7_3
  try clear q7_4; try clear q7_5
  try clear q7_6; try clear q7_7
  try clear q7_8; try clear q7_9
  try clear f10_0; try clear f10_1
  try clear f10_10; try clear f10_11
  try clear f10_2; try clear f10_3
  try clear f10_4; try clear f10_5
  try clear f10_6; try clear f10_7
  try clear f10_8; try clear f10_9
  try clear f12_0; try clear f12_1
  try clear f12_10; try clear f12_11
  try clear f12_2; try clear f12_3
  try clear f12_4; try clear f12_5
  try clear f12_6; try clear f12_7
  try clear f12_8; try clear f12_9
  try clear f4_0; try clear f4_1
  try clear f4_10; try clear f4_11
  try clear f4_2; try clear f4_3
  try clear f4_4; try clear f4_5
  try clear f4_6; try clear f4_7
  try clear f4_8; try clear f4_9
  try clear f7_0; try clear f7_1
  try clear f7_10; try clear f7_11
  try clear f7_2; try clear f7_3
  try clear f7_4; try clear f7_5
  try clear f7_6; try clear f7_7
  try clear f7_8; try clear f7_9
  obtain ⟨kq, x4_1, rfl, HA, HJ1, BK116, BK117, HB⟩ := hcut
  cases kq with
  | zero => exact absurd HA.out (by simp [object_Check.j0])
  | succ kj1 =>
   have H := HA.out
   clear HA
   simp only [object_Check.j0] at H
   have HC13 := YL H; clear H
   have hnb14 := NB116_117.out
   have hnc14 := NB117_116.out
   have q15_0 : wc.cell? ⟨gb116, 0, none⟩ = some (.int .i64 a0_0) := (YI BK116.out 0).trans rfl
   have q15_1 : wc.cell? ⟨gb116, 1, none⟩ = some (.int .i64 a0_1) := (YI BK116.out 1).trans rfl
   have q15_2 : wc.cell? ⟨gb116, 2, none⟩ = some (.bool a0_2) := (YI BK116.out 2).trans rfl
   have q15_3 : wc.cell? ⟨gb116, 3, none⟩ = some (.int .i64 a0_3) := (YI BK116.out 3).trans rfl
   have q15_4 : wc.cell? ⟨gb116, 4, none⟩ = some (.int .i64 a0_4) := (YI BK116.out 4).trans rfl
   have q15_5 : wc.cell? ⟨gb116, 5, none⟩ = some (.int .i64 a0_5) := (YI BK116.out 5).trans rfl
   have q15_6 : wc.cell? ⟨gb116, 6, none⟩ = some (.int .i64 a0_6) := (YI BK116.out 6).trans rfl
   have q15_7 : wc.cell? ⟨gb116, 7, none⟩ = some (.int .i64 a0_7) := (YI BK116.out 7).trans rfl
   have q15_8 : wc.cell? ⟨gb116, 8, none⟩ = some (.int .i64 a0_8) := (YI BK116.out 8).trans rfl
   have q15_9 : wc.cell? ⟨gb116, 9, none⟩ = some (.int .i64 a0_9) := (YI BK116.out 9).trans rfl
   have q15_10 : wc.cell? ⟨gb116, 10, none⟩ = some (.int .i64 a0_10) := (YI BK116.out 10).trans rfl
   have q15_11 : wc.cell? ⟨gb116, 11, none⟩ = some (.int .i64 a0_11) := (YI BK116.out 11).trans rfl
   have f15_0 := YJ BK116.out 0
   have f15_1 := YJ BK116.out 1
   have f15_2 := YJ BK116.out 2
   have f15_3 := YJ BK116.out 3
   have f15_4 := YJ BK116.out 4
   have f15_5 := YJ BK116.out 5
   have f15_6 := YJ BK116.out 6
   have f15_7 := YJ BK116.out 7
   have f15_8 := YJ BK116.out 8
   have f15_9 := YJ BK116.out 9
   have f15_10 := YJ BK116.out 10
   have f15_11 := YJ BK116.out 11
   go_upto_block 3 with (fail)
   go_cut [4] (fun v4 wc => ∃ (kq : Nat) (x4_12 : Bool) (x118011_12 : Int), v4 = .bool x4_12 ∧ Aside0 (object_Check.j1 kq x4_12 a0_0 a0_1 a0_2 a0_3 a0_4 a0_5 a0_6 a0_7 a0_8 a0_9 a0_10 a0_11 0 0 a0_2 a0_3 a0_4 a0_5 a0_6 a0_7 a0_8 a0_9 a0_10 x118011_12 = some r) ∧ Aside0 (kq ≤ kj1) ∧ Aside0 (wc.heap[gb116]? = some (.cells #[.int .i64 a0_0, .int .i64 a0_1, .bool a0_2, .int .i64 a0_3, .int .i64 a0_4, .int .i64 a0_5, .int .i64 a0_6, .int .i64 a0_7, .int .i64 a0_8, .int .i64 a0_9, .int .i64 a0_10, .int .i64 a0_11] 45 (0, 0))) ∧ Aside0 (wc.heap[gb117]? = some (.cells #[.int .i64 0, .int .i64 0, .bool a0_2, .int .i64 a0_3, .int .i64 a0_4, .int .i64 a0_5, .int .i64 a0_6, .int .i64 a0_7, .int .i64 a0_8, .int .i64 a0_9, .int .i64 a0_10, .int .i64 x118011_12] 45 (0, 0))) ∧ Aside0 (Below w.heap.size w wc))
   case first =>
    have H := HC13.out
    clear HC13
    by_cases c16 : a0_0 = 1
    ·rw [if_pos c16] at H
     have c16b0 : (a0_0 == 1) = true := beq_iff_eq.mpr c16
     have c16b1 : (a0_0 != 1) = false := bne_eq_false_iff_eq.mpr c16
     clear c16
     (first | rw [c16b0] | (simp only [i64_w, i32_w]; rw [c16b0]) | rw [c16b1] | skip)
     by_cases c17 : x4_1 = true
     ·subst c17
      have H1 : (if (!(0 == 0) || (!(0 == 0) || ((a0_2 || (!(a0_3 == 0) || (!(a0_4 == 0) || (!(a0_5 == 0) || (!(a0_6 == 0) || (!(a0_7 == 0))))))) || ((!(a0_8 == 0) || (!(a0_9 == 0) || (!(a0_10 == 0)))) || (!(a0_11 == 0)))))) = true then (some 1) else (some 0)) = some r := by rw [if_pos rfl] at H; exact H
      clear H
      have H := H1
      clear H1
      by_cases c18 : (!(0 == 0) || (!(0 == 0) || ((a0_2 || (!(a0_3 == 0) || (!(a0_4 == 0) || (!(a0_5 == 0) || (!(a0_6 == 0) || (!(a0_7 == 0))))))) || ((!(a0_8 == 0) || (!(a0_9 == 0) || (!(a0_10 == 0)))) || (!(a0_11 == 0)))))) = true
      ·rw [if_pos c18] at H
       have c18b0 : (!(0 == 0) || (!(0 == 0) || ((a0_2 || (!(a0_3 == 0) || (!(a0_4 == 0) || (!(a0_5 == 0) || (!(a0_6 == 0) || (!(a0_7 == 0))))))) || ((!(a0_8 == 0) || (!(a0_9 == 0) || (!(a0_10 == 0)))) || (!(a0_11 == 0)))))) = true := c18
       have c18b9 := c18b0
       (try simp only [beq_self_eq_true, Bool.not_true, Bool.not_false, Bool.false_or, Bool.true_and, Bool.or_false, Bool.and_true] at c18b9)
       clear c18
       obtain rfl := Option.some.inj H
       have hnb19 := NB117_116.out
       have hnc19 := NB116_117.out
       have q20_0 : wc.cell? ⟨gb117, 0, none⟩ = some (.int .i64 0) := (YI BK117.out 0).trans rfl
       have q20_1 : wc.cell? ⟨gb117, 1, none⟩ = some (.int .i64 0) := (YI BK117.out 1).trans rfl
       have q20_2 : wc.cell? ⟨gb117, 2, none⟩ = some (.bool a0_2) := (YI BK117.out 2).trans rfl
       have q20_3 : wc.cell? ⟨gb117, 3, none⟩ = some (.int .i64 a0_3) := (YI BK117.out 3).trans rfl
       have q20_4 : wc.cell? ⟨gb117, 4, none⟩ = some (.int .i64 a0_4) := (YI BK117.out 4).trans rfl
       have q20_5 : wc.cell? ⟨gb117, 5, none⟩ = some (.int .i64 a0_5) := (YI BK117.out 5).trans rfl
       have q20_6 : wc.cell? ⟨gb117, 6, none⟩ = some (.int .i64 a0_6) := (YI BK117.out 6).trans rfl
       have q20_7 : wc.cell? ⟨gb117, 7, none⟩ = some (.int .i64 a0_7) := (YI BK117.out 7).trans rfl
       have q20_8 : wc.cell? ⟨gb117, 8, none⟩ = some (.int .i64 a0_8) := (YI BK117.out 8).trans rfl
       have q20_9 : wc.cell? ⟨gb117, 9, none⟩ = some (.int .i64 a0_9) := (YI BK117.out 9).trans rfl
       have q20_10 : wc.cell? ⟨gb117, 10, none⟩ = some (.int .i64 a0_10) := (YI BK117.out 10).trans rfl
       have q20_11 : wc.cell? ⟨gb117, 11, none⟩ = some (.int .i64 a0_11) := (YI BK117.out 11).trans rfl
       have f20_0 := YJ BK117.out 0
       have f20_1 := YJ BK117.out 1
       have f20_2 := YJ BK117.out 2
       have f20_3 := YJ BK117.out 3
       have f20_4 := YJ BK117.out 4
       have f20_5 := YJ BK117.out 5
       have f20_6 := YJ BK117.out 6
       have f20_7 := YJ BK117.out 7
       have f20_8 := YJ BK117.out 8
       have f20_9 := YJ BK117.out 9
       have f20_10 := YJ BK117.out 10
       have f20_11 := YJ BK117.out 11
       go_wp2
       go_ret
       exact ⟨by first | rfl | (simp [errW_none, errW_some] <;> rfl) | (simp [*, errW_none, errW_some] <;> rfl), by repeat (first | (with_reducible first | exact HB.out | apply YA | apply YB | apply YC | refine below_set ?_ GE116.out | refine below_set ?_ GE117.out) | exact HB.out)⟩
      rw [if_neg c18] at H
      have c18b0 : (!(0 == 0) || (!(0 == 0) || ((a0_2 || (!(a0_3 == 0) || (!(a0_4 == 0) || (!(a0_5 == 0) || (!(a0_6 == 0) || (!(a0_7 == 0))))))) || ((!(a0_8 == 0) || (!(a0_9 == 0) || (!(a0_10 == 0)))) || (!(a0_11 == 0)))))) = false := by simpa using c18
      have c18b9 := c18b0
      (try simp only [beq_self_eq_true, Bool.not_true, Bool.not_false, Bool.false_or, Bool.true_and, Bool.or_false, Bool.and_true] at c18b9)
      clear c18
      obtain rfl := Option.some.inj H
      have hnb21 := NB117_116.out
      have hnc21 := NB116_117.out
      have q22_0 : wc.cell? ⟨gb117, 0, none⟩ = some (.int .i64 0) := (YI BK117.out 0).trans rfl
      have q22_1 : wc.cell? ⟨gb117, 1, none⟩ = some (.int .i64 0) := (YI BK117.out 1).trans rfl
      have q22_2 : wc.cell? ⟨gb117, 2, none⟩ = some (.bool a0_2) := (YI BK117.out 2).trans rfl
      have q22_3 : wc.cell? ⟨gb117, 3, none⟩ = some (.int .i64 a0_3) := (YI BK117.out 3).trans rfl
      have q22_4 : wc.cell? ⟨gb117, 4, none⟩ = some (.int .i64 a0_4) := (YI BK117.out 4).trans rfl
      have q22_5 : wc.cell? ⟨gb117, 5, none⟩ = some (.int .i64 a0_5) := (YI BK117.out 5).trans rfl
      have q22_6 : wc.cell? ⟨gb117, 6, none⟩ = some (.int .i64 a0_6) := (YI BK117.out 6).trans rfl
      have q22_7 : wc.cell? ⟨gb117, 7, none⟩ = some (.int .i64 a0_7) := (YI BK117.out 7).trans rfl
      have q22_8 : wc.cell? ⟨gb117, 8, none⟩ = some (.int .i64 a0_8) := (YI BK117.out 8).trans rfl
      have q22_9 : wc.cell? ⟨gb117, 9, none⟩ = some (.int .i64 a0_9) := (YI BK117.out 9).trans rfl
      have q22_10 : wc.cell? ⟨gb117, 10, none⟩ = some (.int .i64 a0_10) := (YI BK117.out 10).trans rfl
      have q22_11 : wc.cell? ⟨gb117, 11, none⟩ = some (.int .i64 a0_11) := (YI BK117.out 11).trans rfl
      have f22_0 := YJ BK117.out 0
      have f22_1 := YJ BK117.out 1
      have f22_2 := YJ BK117.out 2
      have f22_3 := YJ BK117.out 3
      have f22_4 := YJ BK117.out 4
      have f22_5 := YJ BK117.out 5
      have f22_6 := YJ BK117.out 6
      have f22_7 := YJ BK117.out 7
      have f22_8 := YJ BK117.out 8
      have f22_9 := YJ BK117.out 9
      have f22_10 := YJ BK117.out 10
      have f22_11 := YJ BK117.out 11
      go_wp2
      go_ret
      exact ⟨by first | rfl | (simp [errW_none, errW_some] <;> rfl) | (simp [*, errW_none, errW_some] <;> rfl), by repeat (first | (with_reducible first | exact HB.out | apply YA | apply YB | apply YC | refine below_set ?_ GE116.out | refine below_set ?_ GE117.out) | exact HB.out)⟩
     replace c17 := Bool.eq_false_iff.mpr c17
     subst c17
     have H1 : (some 1) = some r := by rw [if_neg (show ¬ (false = true) by decide)] at H; exact H
     clear H
     have H := H1
     clear H1
     obtain rfl := Option.some.inj H
     go_wp2
     go_ret
     exact ⟨by first | rfl | (simp [errW_none, errW_some] <;> rfl) | (simp [*, errW_none, errW_some] <;> rfl), by repeat (first | (with_reducible first | exact HB.out | apply YA | apply YB | apply YC | refine below_set ?_ GE116.out | refine below_set ?_ GE117.out) | exact HB.out)⟩
    rw [if_neg c16] at H
    have c16b0 : (a0_0 == 1) = false := beq_eq_false_iff_ne.mpr c16
    have c16b1 : (a0_0 != 1) = true := bne_iff_ne.mpr c16
    (first | rw [c16b0] | (simp only [i64_w, i32_w]; rw [c16b0]) | rw [c16b1] | skip)
    by_cases c23 : a0_0 = 4
    ·rw [if_pos c23] at H
     have c23b0 : (a0_0 == 4) = true := beq_iff_eq.mpr c23
     have c23b1 : (a0_0 != 4) = false := bne_eq_false_iff_eq.mpr c23
     clear c23
     by_cases c24 : x4_1 = true
     ·subst c24
      have H1 : (if a0_2 = true then (object_Check.j1 kj1 false a0_0 a0_1 true a0_3 a0_4 a0_5 a0_6 a0_7 a0_8 a0_9 a0_10 a0_11 0 0 a0_2 a0_3 a0_4 a0_5 a0_6 a0_7 a0_8 a0_9 a0_10 0) else (if a0_11 ≥ 0 then (object_Check.j1 kj1 (decide (a0_11 ≤ 65535)) a0_0 a0_1 false a0_3 a0_4 a0_5 a0_6 a0_7 a0_8 a0_9 a0_10 a0_11 0 0 a0_2 a0_3 a0_4 a0_5 a0_6 a0_7 a0_8 a0_9 a0_10 0) else (object_Check.j1 kj1 false a0_0 a0_1 false a0_3 a0_4 a0_5 a0_6 a0_7 a0_8 a0_9 a0_10 a0_11 0 0 a0_2 a0_3 a0_4 a0_5 a0_6 a0_7 a0_8 a0_9 a0_10 0))) = some r := by rw [if_pos rfl] at H; exact H
      clear H
      have H := H1
      clear H1
      by_cases c25 : a0_2 = true
      ·subst c25
       have H1 : (object_Check.j1 kj1 false a0_0 a0_1 true a0_3 a0_4 a0_5 a0_6 a0_7 a0_8 a0_9 a0_10 a0_11 0 0 true a0_3 a0_4 a0_5 a0_6 a0_7 a0_8 a0_9 a0_10 0) = some r := by rw [if_pos rfl] at H; exact H
       clear H
       have H := H1
       clear H1
       have H' := YL H
       clear H
       have hnb26 := NB116_117.out
       have hnc26 := NB117_116.out
       have q27_0 : wc.cell? ⟨gb116, 0, none⟩ = some (.int .i64 a0_0) := (YI BK116.out 0).trans rfl
       have q27_1 : wc.cell? ⟨gb116, 1, none⟩ = some (.int .i64 a0_1) := (YI BK116.out 1).trans rfl
       have q27_2 : wc.cell? ⟨gb116, 2, none⟩ = some (.bool true) := (YI BK116.out 2).trans rfl
       have q27_3 : wc.cell? ⟨gb116, 3, none⟩ = some (.int .i64 a0_3) := (YI BK116.out 3).trans rfl
       have q27_4 : wc.cell? ⟨gb116, 4, none⟩ = some (.int .i64 a0_4) := (YI BK116.out 4).trans rfl
       have q27_5 : wc.cell? ⟨gb116, 5, none⟩ = some (.int .i64 a0_5) := (YI BK116.out 5).trans rfl
       have q27_6 : wc.cell? ⟨gb116, 6, none⟩ = some (.int .i64 a0_6) := (YI BK116.out 6).trans rfl
       have q27_7 : wc.cell? ⟨gb116, 7, none⟩ = some (.int .i64 a0_7) := (YI BK116.out 7).trans rfl
       have q27_8 : wc.cell? ⟨gb116, 8, none⟩ = some (.int .i64 a0_8) := (YI BK116.out 8).trans rfl
       have q27_9 : wc.cell? ⟨gb116, 9, none⟩ = some (.int .i64 a0_9) := (YI BK116.out 9).trans rfl
       have q27_10 : wc.cell? ⟨gb116, 10, none⟩ = some (.int .i64 a0_10) := (YI BK116.out 10).trans rfl
       have q27_11 : wc.cell? ⟨gb116, 11, none⟩ = some (.int .i64 a0_11) := (YI BK116.out 11).trans rfl
       have f27_0 := YJ BK116.out 0
       have f27_1 := YJ BK116.out 1
       have f27_2 := YJ BK116.out 2
       have f27_3 := YJ BK116.out 3
       have f27_4 := YJ BK116.out 4
       have f27_5 := YJ BK116.out 5
       have f27_6 := YJ BK116.out 6
       have f27_7 := YJ BK116.out 7
       have f27_8 := YJ BK116.out 8
       have f27_9 := YJ BK116.out 9
       have f27_10 := YJ BK116.out 10
       have f27_11 := YJ BK116.out 11
       have q28_0 : wc.cell? ⟨gb117, 0, none⟩ = some (.int .i64 0) := (YI BK117.out 0).trans rfl
       have q28_1 : wc.cell? ⟨gb117, 1, none⟩ = some (.int .i64 0) := (YI BK117.out 1).trans rfl
       have q28_2 : wc.cell? ⟨gb117, 2, none⟩ = some (.bool true) := (YI BK117.out 2).trans rfl
       have q28_3 : wc.cell? ⟨gb117, 3, none⟩ = some (.int .i64 a0_3) := (YI BK117.out 3).trans rfl
       have q28_4 : wc.cell? ⟨gb117, 4, none⟩ = some (.int .i64 a0_4) := (YI BK117.out 4).trans rfl
       have q28_5 : wc.cell? ⟨gb117, 5, none⟩ = some (.int .i64 a0_5) := (YI BK117.out 5).trans rfl
       have q28_6 : wc.cell? ⟨gb117, 6, none⟩ = some (.int .i64 a0_6) := (YI BK117.out 6).trans rfl
       have q28_7 : wc.cell? ⟨gb117, 7, none⟩ = some (.int .i64 a0_7) := (YI BK117.out 7).trans rfl
       have q28_8 : wc.cell? ⟨gb117, 8, none⟩ = some (.int .i64 a0_8) := (YI BK117.out 8).trans rfl
       have q28_9 : wc.cell? ⟨gb117, 9, none⟩ = some (.int .i64 a0_9) := (YI BK117.out 9).trans rfl
       have q28_10 : wc.cell? ⟨gb117, 10, none⟩ = some (.int .i64 a0_10) := (YI BK117.out 10).trans rfl
       have q28_11 : wc.cell? ⟨gb117, 11, none⟩ = some (.int .i64 a0_11) := (YI BK117.out 11).trans rfl
       have f28_0 := YJ BK117.out 0
       have f28_1 := YJ BK117.out 1
       have f28_2 := YJ BK117.out 2
       have f28_3 := YJ BK117.out 3
       have f28_4 := YJ BK117.out 4
       have f28_5 := YJ BK117.out 5
       have f28_6 := YJ BK117.out 6
       have f28_7 := YJ BK117.out 7
       have f28_8 := YJ BK117.out 8
       have f28_9 := YJ BK117.out 9
       have f28_10 := YJ BK117.out 10
       have f28_11 := YJ BK117.out 11
       go_wp2
       go_meet
       case rel => exact ⟨_, (false), (0), (by first | rfl | (simp; done) | (simp [*]; done)), H', ⟨by have := HJ1.out; first | omega | exact Nat.le_refl _⟩, ⟨by (with_reducible repeat (first | refine YF ?_ _ | refine YG ?_ | refine YH ?_ _)); refine blk_far ?_ NB116_117.out _; (with_reducible repeat (first | refine YF ?_ _ | refine YG ?_ | refine YH ?_ _)); exact BK116.out⟩, ⟨by (with_reducible repeat (first | refine YF ?_ _ | refine YG ?_ | refine YH ?_ _)); refine blk_put (cs := #[.int .i64 0, .int .i64 0, .bool true, .int .i64 a0_3, .int .i64 a0_4, .int .i64 a0_5, .int .i64 a0_6, .int .i64 a0_7, .int .i64 a0_8, .int .i64 a0_9, .int .i64 a0_10, .int .i64 a0_11]) ?_ 11 _ rfl; (with_reducible repeat (first | refine YF ?_ _ | refine YG ?_ | refine YH ?_ _)); exact BK117.out⟩, ⟨by repeat (first | (with_reducible first | exact HB.out | apply YA | apply YB | apply YC | refine below_set ?_ GE116.out | refine below_set ?_ GE117.out) | exact HB.out)⟩⟩
      replace c25 := Bool.eq_false_iff.mpr c25
      subst c25
      have H1 : (if a0_11 ≥ 0 then (object_Check.j1 kj1 (decide (a0_11 ≤ 65535)) a0_0 a0_1 false a0_3 a0_4 a0_5 a0_6 a0_7 a0_8 a0_9 a0_10 a0_11 0 0 false a0_3 a0_4 a0_5 a0_6 a0_7 a0_8 a0_9 a0_10 0) else (object_Check.j1 kj1 false a0_0 a0_1 false a0_3 a0_4 a0_5 a0_6 a0_7 a0_8 a0_9 a0_10 a0_11 0 0 false a0_3 a0_4 a0_5 a0_6 a0_7 a0_8 a0_9 a0_10 0)) = some r := by rw [if_neg (show ¬ (false = true) by decide)] at H; exact H
      clear H
      have H := H1
      clear H1
      by_cases c29 : a0_11 ≥ 0
      ·rw [if_pos c29] at H
       have c29b0 : decide (0 ≤ a0_11) = true := decide_eq_true c29; clear c29
       have H' := YL H
       clear H
       have hnb30 := NB116_117.out
       have hnc30 := NB117_116.out
       have q31_0 : wc.cell? ⟨gb116, 0, none⟩ = some (.int .i64 a0_0) := (YI BK116.out 0).trans rfl
       have q31_1 : wc.cell? ⟨gb116, 1, none⟩ = some (.int .i64 a0_1) := (YI BK116.out 1).trans rfl
       have q31_2 : wc.cell? ⟨gb116, 2, none⟩ = some (.bool false) := (YI BK116.out 2).trans rfl
       have q31_3 : wc.cell? ⟨gb116, 3, none⟩ = some (.int .i64 a0_3) := (YI BK116.out 3).trans rfl
       have q31_4 : wc.cell? ⟨gb116, 4, none⟩ = some (.int .i64 a0_4) := (YI BK116.out 4).trans rfl
       have q31_5 : wc.cell? ⟨gb116, 5, none⟩ = some (.int .i64 a0_5) := (YI BK116.out 5).trans rfl
       have q31_6 : wc.cell? ⟨gb116, 6, none⟩ = some (.int .i64 a0_6) := (YI BK116.out 6).trans rfl
       have q31_7 : wc.cell? ⟨gb116, 7, none⟩ = some (.int .i64 a0_7) := (YI BK116.out 7).trans rfl
       have q31_8 : wc.cell? ⟨gb116, 8, none⟩ = some (.int .i64 a0_8) := (YI BK116.out 8).trans rfl
       have q31_9 : wc.cell? ⟨gb116, 9, none⟩ = some (.int .i64 a0_9) := (YI BK116.out 9).trans rfl
       have q31_10 : wc.cell? ⟨gb116, 10, none⟩ = some (.int .i64 a0_10) := (YI BK116.out 10).trans rfl
       have q31_11 : wc.cell? ⟨gb116, 11, none⟩ = some (.int .i64 a0_11) := (YI BK116.out 11).trans rfl
       have f31_0 := YJ BK116.out 0
       have f31_1 := YJ BK116.out 1
       have f31_2 := YJ BK116.out 2
       have f31_3 := YJ BK116.out 3
       have f31_4 := YJ BK116.out 4
       have f31_5 := YJ BK116.out 5
       have f31_6 := YJ BK116.out 6
       have f31_7 := YJ BK116.out 7
       have f31_8 := YJ BK116.out 8
       have f31_9 := YJ BK116.out 9
       have f31_10 := YJ BK116.out 10
       have f31_11 := YJ BK116.out 11
       have q32_0 : wc.cell? ⟨gb117, 0, none⟩ = some (.int .i64 0) := (YI BK117.out 0).trans rfl
       have q32_1 : wc.cell? ⟨gb117, 1, none⟩ = some (.int .i64 0) := (YI BK117.out 1).trans rfl
       have q32_2 : wc.cell? ⟨gb117, 2, none⟩ = some (.bool false) := (YI BK117.out 2).trans rfl
       have q32_3 : wc.cell? ⟨gb117, 3, none⟩ = some (.int .i64 a0_3) := (YI BK117.out 3).trans rfl
       have q32_4 : wc.cell? ⟨gb117, 4, none⟩ = some (.int .i64 a0_4) := (YI BK117.out 4).trans rfl
       have q32_5 : wc.cell? ⟨gb117, 5, none⟩ = some (.int .i64 a0_5) := (YI BK117.out 5).trans rfl
       have q32_6 : wc.cell? ⟨gb117, 6, none⟩ = some (.int .i64 a0_6) := (YI BK117.out 6).trans rfl
       have q32_7 : wc.cell? ⟨gb117, 7, none⟩ = some (.int .i64 a0_7) := (YI BK117.out 7).trans rfl
       have q32_8 : wc.cell? ⟨gb117, 8, none⟩ = some (.int .i64 a0_8) := (YI BK117.out 8).trans rfl
       have q32_9 : wc.cell? ⟨gb117, 9, none⟩ = some (.int .i64 a0_9) := (YI BK117.out 9).trans rfl
       have q32_10 : wc.cell? ⟨gb117, 10, none⟩ = some (.int .i64 a0_10) := (YI BK117.out 10).trans rfl
       have q32_11 : wc.cell? ⟨gb117, 11, none⟩ = some (.int .i64 a0_11) := (YI BK117.out 11).trans rfl
       have f32_0 := YJ BK117.out 0
       have f32_1 := YJ BK117.out 1
       have f32_2 := YJ BK117.out 2
       have f32_3 := YJ BK117.out 3
       have f32_4 := YJ BK117.out 4
       have f32_5 := YJ BK117.out 5
       have f32_6 := YJ BK117.out 6
       have f32_7 := YJ BK117.out 7
       have f32_8 := YJ BK117.out 8
       have f32_9 := YJ BK117.out 9
       have f32_10 := YJ BK117.out 10
       have f32_11 := YJ BK117.out 11
       go_wp2
       go_meet
       case rel => exact ⟨_, (decide (a0_11 ≤ 65535)), (0), (by first | rfl | (simp; done) | (simp [*]; done)), H', ⟨by have := HJ1.out; first | omega | exact Nat.le_refl _⟩, ⟨by (with_reducible repeat (first | refine YF ?_ _ | refine YG ?_ | refine YH ?_ _)); refine blk_far ?_ NB116_117.out _; (with_reducible repeat (first | refine YF ?_ _ | refine YG ?_ | refine YH ?_ _)); exact BK116.out⟩, ⟨by (with_reducible repeat (first | refine YF ?_ _ | refine YG ?_ | refine YH ?_ _)); refine blk_put (cs := #[.int .i64 0, .int .i64 0, .bool false, .int .i64 a0_3, .int .i64 a0_4, .int .i64 a0_5, .int .i64 a0_6, .int .i64 a0_7, .int .i64 a0_8, .int .i64 a0_9, .int .i64 a0_10, .int .i64 a0_11]) ?_ 11 _ rfl; (with_reducible repeat (first | refine YF ?_ _ | refine YG ?_ | refine YH ?_ _)); exact BK117.out⟩, ⟨by repeat (first | (with_reducible first | exact HB.out | apply YA | apply YB | apply YC | refine below_set ?_ GE116.out | refine below_set ?_ GE117.out) | exact HB.out)⟩⟩
      rw [if_neg c29] at H; have c29b0 : decide (0 ≤ a0_11) = false := decide_eq_false c29; clear c29
      have H' := YL H
      clear H
      have hnb33 := NB116_117.out
      have hnc33 := NB117_116.out
      have q34_0 : wc.cell? ⟨gb116, 0, none⟩ = some (.int .i64 a0_0) := (YI BK116.out 0).trans rfl
      have q34_1 : wc.cell? ⟨gb116, 1, none⟩ = some (.int .i64 a0_1) := (YI BK116.out 1).trans rfl
      have q34_2 : wc.cell? ⟨gb116, 2, none⟩ = some (.bool false) := (YI BK116.out 2).trans rfl
      have q34_3 : wc.cell? ⟨gb116, 3, none⟩ = some (.int .i64 a0_3) := (YI BK116.out 3).trans rfl
      have q34_4 : wc.cell? ⟨gb116, 4, none⟩ = some (.int .i64 a0_4) := (YI BK116.out 4).trans rfl
      have q34_5 : wc.cell? ⟨gb116, 5, none⟩ = some (.int .i64 a0_5) := (YI BK116.out 5).trans rfl
      have q34_6 : wc.cell? ⟨gb116, 6, none⟩ = some (.int .i64 a0_6) := (YI BK116.out 6).trans rfl
      have q34_7 : wc.cell? ⟨gb116, 7, none⟩ = some (.int .i64 a0_7) := (YI BK116.out 7).trans rfl
      have q34_8 : wc.cell? ⟨gb116, 8, none⟩ = some (.int .i64 a0_8) := (YI BK116.out 8).trans rfl
      have q34_9 : wc.cell? ⟨gb116, 9, none⟩ = some (.int .i64 a0_9) := (YI BK116.out 9).trans rfl
      have q34_10 : wc.cell? ⟨gb116, 10, none⟩ = some (.int .i64 a0_10) := (YI BK116.out 10).trans rfl
      have q34_11 : wc.cell? ⟨gb116, 11, none⟩ = some (.int .i64 a0_11) := (YI BK116.out 11).trans rfl
      have f34_0 := YJ BK116.out 0
      have f34_1 := YJ BK116.out 1
      have f34_2 := YJ BK116.out 2
      have f34_3 := YJ BK116.out 3
      have f34_4 := YJ BK116.out 4
      have f34_5 := YJ BK116.out 5
      have f34_6 := YJ BK116.out 6
      have f34_7 := YJ BK116.out 7
      have f34_8 := YJ BK116.out 8
      have f34_9 := YJ BK116.out 9
      have f34_10 := YJ BK116.out 10
      have f34_11 := YJ BK116.out 11
      have q35_0 : wc.cell? ⟨gb117, 0, none⟩ = some (.int .i64 0) := (YI BK117.out 0).trans rfl
      have q35_1 : wc.cell? ⟨gb117, 1, none⟩ = some (.int .i64 0) := (YI BK117.out 1).trans rfl
      have q35_2 : wc.cell? ⟨gb117, 2, none⟩ = some (.bool false) := (YI BK117.out 2).trans rfl
      have q35_3 : wc.cell? ⟨gb117, 3, none⟩ = some (.int .i64 a0_3) := (YI BK117.out 3).trans rfl
      have q35_4 : wc.cell? ⟨gb117, 4, none⟩ = some (.int .i64 a0_4) := (YI BK117.out 4).trans rfl
      have q35_5 : wc.cell? ⟨gb117, 5, none⟩ = some (.int .i64 a0_5) := (YI BK117.out 5).trans rfl
      have q35_6 : wc.cell? ⟨gb117, 6, none⟩ = some (.int .i64 a0_6) := (YI BK117.out 6).trans rfl
      have q35_7 : wc.cell? ⟨gb117, 7, none⟩ = some (.int .i64 a0_7) := (YI BK117.out 7).trans rfl
      have q35_8 : wc.cell? ⟨gb117, 8, none⟩ = some (.int .i64 a0_8) := (YI BK117.out 8).trans rfl
      have q35_9 : wc.cell? ⟨gb117, 9, none⟩ = some (.int .i64 a0_9) := (YI BK117.out 9).trans rfl
      have q35_10 : wc.cell? ⟨gb117, 10, none⟩ = some (.int .i64 a0_10) := (YI BK117.out 10).trans rfl
      have q35_11 : wc.cell? ⟨gb117, 11, none⟩ = some (.int .i64 a0_11) := (YI BK117.out 11).trans rfl
      have f35_0 := YJ BK117.out 0
      have f35_1 := YJ BK117.out 1
      have f35_2 := YJ BK117.out 2
      have f35_3 := YJ BK117.out 3
      have f35_4 := YJ BK117.out 4
      have f35_5 := YJ BK117.out 5
      have f35_6 := YJ BK117.out 6
      have f35_7 := YJ BK117.out 7
      have f35_8 := YJ BK117.out 8
      have f35_9 := YJ BK117.out 9
      have f35_10 := YJ BK117.out 10
      have f35_11 := YJ BK117.out 11
      go_wp2
      go_meet
      case rel => exact ⟨_, (false), (0), (by first | rfl | (simp; done) | (simp [*]; done)), H', ⟨by have := HJ1.out; first | omega | exact Nat.le_refl _⟩, ⟨by (with_reducible repeat (first | refine YF ?_ _ | refine YG ?_ | refine YH ?_ _)); refine blk_far ?_ NB116_117.out _; (with_reducible repeat (first | refine YF ?_ _ | refine YG ?_ | refine YH ?_ _)); exact BK116.out⟩, ⟨by (with_reducible repeat (first | refine YF ?_ _ | refine YG ?_ | refine YH ?_ _)); refine blk_put (cs := #[.int .i64 0, .int .i64 0, .bool false, .int .i64 a0_3, .int .i64 a0_4, .int .i64 a0_5, .int .i64 a0_6, .int .i64 a0_7, .int .i64 a0_8, .int .i64 a0_9, .int .i64 a0_10, .int .i64 a0_11]) ?_ 11 _ rfl; (with_reducible repeat (first | refine YF ?_ _ | refine YG ?_ | refine YH ?_ _)); exact BK117.out⟩, ⟨by repeat (first | (with_reducible first | exact HB.out | apply YA | apply YB | apply YC | refine below_set ?_ GE116.out | refine below_set ?_ GE117.out) | exact HB.out)⟩⟩
     replace c24 := Bool.eq_false_iff.mpr c24
     subst c24
     have H1 : (object_Check.j1 kj1 false a0_0 a0_1 a0_2 a0_3 a0_4 a0_5 a0_6 a0_7 a0_8 a0_9 a0_10 a0_11 0 0 a0_2 a0_3 a0_4 a0_5 a0_6 a0_7 a0_8 a0_9 a0_10 0) = some r := by rw [if_neg (show ¬ (false = true) by decide)] at H; exact H
     clear H
     have H := H1
     clear H1
     have H' := YL H
     clear H
     have hnb36 := NB117_116.out
     have hnc36 := NB116_117.out
     have q37_0 : wc.cell? ⟨gb117, 0, none⟩ = some (.int .i64 0) := (YI BK117.out 0).trans rfl
     have q37_1 : wc.cell? ⟨gb117, 1, none⟩ = some (.int .i64 0) := (YI BK117.out 1).trans rfl
     have q37_2 : wc.cell? ⟨gb117, 2, none⟩ = some (.bool a0_2) := (YI BK117.out 2).trans rfl
     have q37_3 : wc.cell? ⟨gb117, 3, none⟩ = some (.int .i64 a0_3) := (YI BK117.out 3).trans rfl
     have q37_4 : wc.cell? ⟨gb117, 4, none⟩ = some (.int .i64 a0_4) := (YI BK117.out 4).trans rfl
     have q37_5 : wc.cell? ⟨gb117, 5, none⟩ = some (.int .i64 a0_5) := (YI BK117.out 5).trans rfl
     have q37_6 : wc.cell? ⟨gb117, 6, none⟩ = some (.int .i64 a0_6) := (YI BK117.out 6).trans rfl
     have q37_7 : wc.cell? ⟨gb117, 7, none⟩ = some (.int .i64 a0_7) := (YI BK117.out 7).trans rfl
     have q37_8 : wc.cell? ⟨gb117, 8, none⟩ = some (.int .i64 a0_8) := (YI BK117.out 8).trans rfl
     have q37_9 : wc.cell? ⟨gb117, 9, none⟩ = some (.int .i64 a0_9) := (YI BK117.out 9).trans rfl
     have q37_10 : wc.cell? ⟨gb117, 10, none⟩ = some (.int .i64 a0_10) := (YI BK117.out 10).trans rfl
     have q37_11 : wc.cell? ⟨gb117, 11, none⟩ = some (.int .i64 a0_11) := (YI BK117.out 11).trans rfl
     have f37_0 := YJ BK117.out 0
     have f37_1 := YJ BK117.out 1
     have f37_2 := YJ BK117.out 2
     have f37_3 := YJ BK117.out 3
     have f37_4 := YJ BK117.out 4
     have f37_5 := YJ BK117.out 5
     have f37_6 := YJ BK117.out 6
     have f37_7 := YJ BK117.out 7
     have f37_8 := YJ BK117.out 8
     have f37_9 := YJ BK117.out 9
     have f37_10 := YJ BK117.out 10
     have f37_11 := YJ BK117.out 11
     go_wp2
     go_meet
     case rel => exact ⟨_, (false), (0), (by first | rfl | (simp; done) | (simp [*]; done)), H', ⟨by have := HJ1.out; first | omega | exact Nat.le_refl _⟩, ⟨by (with_reducible repeat (first | refine YF ?_ _ | refine YG ?_ | refine YH ?_ _)); refine blk_far ?_ NB116_117.out _; (with_reducible repeat (first | refine YF ?_ _ | refine YG ?_ | refine YH ?_ _)); exact BK116.out⟩, ⟨by (with_reducible repeat (first | refine YF ?_ _ | refine YG ?_ | refine YH ?_ _)); refine blk_put (cs := #[.int .i64 0, .int .i64 0, .bool a0_2, .int .i64 a0_3, .int .i64 a0_4, .int .i64 a0_5, .int .i64 a0_6, .int .i64 a0_7, .int .i64 a0_8, .int .i64 a0_9, .int .i64 a0_10, .int .i64 a0_11]) ?_ 11 _ rfl; (with_reducible repeat (first | refine YF ?_ _ | refine YG ?_ | refine YH ?_ _)); exact BK117.out⟩, ⟨by repeat (first | (with_reducible first | exact HB.out | apply YA | apply YB | apply YC | refine below_set ?_ GE116.out | refine below_set ?_ GE117.out) | exact HB.out)⟩⟩
    rw [if_neg c23] at H
    have c23b0 : (a0_0 == 4) = false := beq_eq_false_iff_ne.mpr c23
    have c23b1 : (a0_0 != 4) = true := bne_iff_ne.mpr c23
    by_cases c38 : a0_0 = 2
    ·rw [if_pos c38] at H
     have c38b0 : (a0_0 == 2) = true := beq_iff_eq.mpr c38
     have c38b1 : (a0_0 != 2) = false := bne_eq_false_iff_eq.mpr c38
     clear c38
     have H' := YL H
     clear H
     go_wp2
     go_meet
     case rel => exact ⟨_, (x4_1), (a0_11), (by first | rfl | (simp; done) | (simp [*]; done)), H', ⟨by have := HJ1.out; first | omega | exact Nat.le_refl _⟩, ⟨by (with_reducible repeat (first | refine YF ?_ _ | refine YG ?_ | refine YH ?_ _)); exact BK116.out⟩, ⟨by (with_reducible repeat (first | refine YF ?_ _ | refine YG ?_ | refine YH ?_ _)); exact BK117.out⟩, ⟨by repeat (first | (with_reducible first | exact HB.out | apply YA | apply YB | apply YC | refine below_set ?_ GE116.out | refine below_set ?_ GE117.out) | exact HB.out)⟩⟩
    rw [if_neg c38] at H
    have c38b0 : (a0_0 == 2) = false := beq_eq_false_iff_ne.mpr c38
    have c38b1 : (a0_0 != 2) = true := bne_iff_ne.mpr c38
    by_cases c39 : a0_0 = 3
    ·rw [if_pos c39] at H
     have c39b0 : (a0_0 == 3) = true := beq_iff_eq.mpr c39
     have c39b1 : (a0_0 != 3) = false := bne_eq_false_iff_eq.mpr c39
     clear c39; replace H := Option.bind_eq_some_iff.mp H
     obtain ⟨⟨t118, t119, t120, t121, t122, t123, t124⟩, A400, H⟩ := H
     replace H : (if x4_1 = true then (if t124 = 0 then (if (!(0 == 0) || (!(0 == 0) || ((a0_2 || (!(a0_3 == 0) || (!(a0_4 == 0) || (!(a0_5 == 0) || (!(a0_6 == 0) || (!(a0_7 == 0))))))) || (!(a0_11 == 0))))) = true then (some 1) else (some 0)) else (some 1)) else (some 1)) = some r := H
     have A40 := YL A400; clear A400
     by_cases c41 : x4_1 = true
     ·subst c41
      have H1 : (if t124 = 0 then (if (!(0 == 0) || (!(0 == 0) || ((a0_2 || (!(a0_3 == 0) || (!(a0_4 == 0) || (!(a0_5 == 0) || (!(a0_6 == 0) || (!(a0_7 == 0))))))) || (!(a0_11 == 0))))) = true then (some 1) else (some 0)) else (some 1)) = some r := by rw [if_pos rfl] at H; exact H
      clear H
      have H := H1
      clear H1
      by_cases c42 : t124 = 0
      ·rw [if_pos c42] at H
       have c42b0 : (t124 == 0) = true := beq_iff_eq.mpr c42
       have c42b1 : (t124 != 0) = false := bne_eq_false_iff_eq.mpr c42
       clear c42
       by_cases c43 : (!(0 == 0) || (!(0 == 0) || ((a0_2 || (!(a0_3 == 0) || (!(a0_4 == 0) || (!(a0_5 == 0) || (!(a0_6 == 0) || (!(a0_7 == 0))))))) || (!(a0_11 == 0))))) = true
       ·rw [if_pos c43] at H
        have c43b0 : (!(0 == 0) || (!(0 == 0) || ((a0_2 || (!(a0_3 == 0) || (!(a0_4 == 0) || (!(a0_5 == 0) || (!(a0_6 == 0) || (!(a0_7 == 0))))))) || (!(a0_11 == 0))))) = true := c43
        have c43b9 := c43b0
        (try simp only [beq_self_eq_true, Bool.not_true, Bool.not_false, Bool.false_or, Bool.true_and, Bool.or_false, Bool.and_true] at c43b9)
        clear c43
        obtain rfl := Option.some.inj H
        have hnb44 := NB116_117.out
        have hnc44 := NB117_116.out
        have q45_0 : wc.cell? ⟨gb116, 0, none⟩ = some (.int .i64 a0_0) := (YI BK116.out 0).trans rfl
        have q45_1 : wc.cell? ⟨gb116, 1, none⟩ = some (.int .i64 a0_1) := (YI BK116.out 1).trans rfl
        have q45_2 : wc.cell? ⟨gb116, 2, none⟩ = some (.bool a0_2) := (YI BK116.out 2).trans rfl
        have q45_3 : wc.cell? ⟨gb116, 3, none⟩ = some (.int .i64 a0_3) := (YI BK116.out 3).trans rfl
        have q45_4 : wc.cell? ⟨gb116, 4, none⟩ = some (.int .i64 a0_4) := (YI BK116.out 4).trans rfl
        have q45_5 : wc.cell? ⟨gb116, 5, none⟩ = some (.int .i64 a0_5) := (YI BK116.out 5).trans rfl
        have q45_6 : wc.cell? ⟨gb116, 6, none⟩ = some (.int .i64 a0_6) := (YI BK116.out 6).trans rfl
        have q45_7 : wc.cell? ⟨gb116, 7, none⟩ = some (.int .i64 a0_7) := (YI BK116.out 7).trans rfl
        have q45_8 : wc.cell? ⟨gb116, 8, none⟩ = some (.int .i64 a0_8) := (YI BK116.out 8).trans rfl
        have q45_9 : wc.cell? ⟨gb116, 9, none⟩ = some (.int .i64 a0_9) := (YI BK116.out 9).trans rfl
        have q45_10 : wc.cell? ⟨gb116, 10, none⟩ = some (.int .i64 a0_10) := (YI BK116.out 10).trans rfl
        have q45_11 : wc.cell? ⟨gb116, 11, none⟩ = some (.int .i64 a0_11) := (YI BK116.out 11).trans rfl
        have f45_0 := YJ BK116.out 0
        have f45_1 := YJ BK116.out 1
        have f45_2 := YJ BK116.out 2
        have f45_3 := YJ BK116.out 3
        have f45_4 := YJ BK116.out 4
        have f45_5 := YJ BK116.out 5
        have f45_6 := YJ BK116.out 6
        have f45_7 := YJ BK116.out 7
        have f45_8 := YJ BK116.out 8
        have f45_9 := YJ BK116.out 9
        have f45_10 := YJ BK116.out 10
        have f45_11 := YJ BK116.out 11
        go_wp2_with (first | ((with_reducible refine gate_callee (f := 45) rfl ?_); refine goesA (some 58) Try.func45 #[.agg #[.int .i64 a0_8, .int .i64 a0_9, .int .i64 a0_10], .int .i64 0, .int .i64 0] ?_; (with_reducible refine (height_At.calls kj1 a0_8 a0_9 a0_10 0 0 t118 t119 t120 t121 t122 t123 t124 _ A40.out).mono ?_); rintro e w46 ⟨rfl, hb⟩; refine ⟨_, rfl, ?_⟩; have n0_ := YL (YK (g := gb116) (o := .cells #[.int .i64 a0_0, .int .i64 a0_1, .bool a0_2, .int .i64 a0_3, .int .i64 a0_4, .int .i64 a0_5, .int .i64 a0_6, .int .i64 a0_7, .int .i64 a0_8, .int .i64 a0_9, .int .i64 a0_10, .int .i64 a0_11] 45 (0, 0)) (upK BK116) hb); have n1_ := YL (YK (g := gb117) (o := .cells #[.int .i64 0, .int .i64 0, .bool a0_2, .int .i64 a0_3, .int .i64 a0_4, .int .i64 a0_5, .int .i64 a0_6, .int .i64 a0_7, .int .i64 a0_8, .int .i64 a0_9, .int .i64 a0_10, .int .i64 a0_11] 45 (0, 0)) (upK BK117) hb); have n2_ := YL (YD (upB HB) hb); clear BK116; clear BK117; clear HB; have BK116 := n0_; have BK117 := n1_; have HB := n2_; clear n0_ n1_ n2_; (try clear hb); (try clear hb2); (try clear hk); (try clear hi)) | ((with_reducible refine gate_dst (N := 5) rfl ?_); refine box_event ?hg (N := 5) ?hd (cs := #[.bool false, .int .i64 0, .int .i64 0, .int .i64 0, .int .i64 0, .int .i64 0]) (t := 41) ?hr ?_; (case hd => rfl); (case hg => rfl); (case hr => first | (go_simp; done) | (go_simp; rfl)); intro gb125 hg w47 hbox hb; have n0_ := YL (YK (g := gb116) (o := .cells #[.int .i64 a0_0, .int .i64 a0_1, .bool a0_2, .int .i64 a0_3, .int .i64 a0_4, .int .i64 a0_5, .int .i64 a0_6, .int .i64 a0_7, .int .i64 a0_8, .int .i64 a0_9, .int .i64 a0_10, .int .i64 a0_11] 45 (0, 0)) (upK BK116) hb); have n1_ := YL (YK (g := gb117) (o := .cells #[.int .i64 0, .int .i64 0, .bool a0_2, .int .i64 a0_3, .int .i64 a0_4, .int .i64 a0_5, .int .i64 a0_6, .int .i64 a0_7, .int .i64 a0_8, .int .i64 a0_9, .int .i64 a0_10, .int .i64 a0_11] 45 (0, 0)) (upK BK117) hb); have n2_ := YL (YD (upB HB) hb); have n3_ := YL (hbox); have n4_ := YL ((by rw [hg]; exact (YE (upB HB)) : w.heap.size ≤ gb125)); have n5_ := YL ((by rw [hg]; exact (YE (upB HB)) : w.heap.size ≤ gb125)); have n6_ := YL ((by rw [hg]; exact Nat.ne_of_lt (blk_lt (g := gb116) (o := .cells #[.int .i64 a0_0, .int .i64 a0_1, .bool a0_2, .int .i64 a0_3, .int .i64 a0_4, .int .i64 a0_5, .int .i64 a0_6, .int .i64 a0_7, .int .i64 a0_8, .int .i64 a0_9, .int .i64 a0_10, .int .i64 a0_11] 45 (0, 0)) (upK BK116)) : gb116 ≠ gb125)); have n7_ := YL ((by rw [hg]; exact Nat.ne_of_gt (blk_lt (g := gb116) (o := .cells #[.int .i64 a0_0, .int .i64 a0_1, .bool a0_2, .int .i64 a0_3, .int .i64 a0_4, .int .i64 a0_5, .int .i64 a0_6, .int .i64 a0_7, .int .i64 a0_8, .int .i64 a0_9, .int .i64 a0_10, .int .i64 a0_11] 45 (0, 0)) (upK BK116)) : gb125 ≠ gb116)); have n8_ := YL ((by rw [hg]; exact Nat.ne_of_lt (blk_lt (g := gb117) (o := .cells #[.int .i64 0, .int .i64 0, .bool a0_2, .int .i64 a0_3, .int .i64 a0_4, .int .i64 a0_5, .int .i64 a0_6, .int .i64 a0_7, .int .i64 a0_8, .int .i64 a0_9, .int .i64 a0_10, .int .i64 a0_11] 45 (0, 0)) (upK BK117)) : gb117 ≠ gb125)); have n9_ := YL ((by rw [hg]; exact Nat.ne_of_gt (blk_lt (g := gb117) (o := .cells #[.int .i64 0, .int .i64 0, .bool a0_2, .int .i64 a0_3, .int .i64 a0_4, .int .i64 a0_5, .int .i64 a0_6, .int .i64 a0_7, .int .i64 a0_8, .int .i64 a0_9, .int .i64 a0_10, .int .i64 a0_11] 45 (0, 0)) (upK BK117)) : gb125 ≠ gb117)); clear BK116; clear BK117; clear HB; have BK116 := n0_; have BK117 := n1_; have HB := n2_; have BK125 := n3_; have GW125 := n4_; have GE125 := n5_; have NB116_125 := n6_; have NB125_116 := n7_; have NB117_125 := n8_; have NB125_117 := n9_; clear n0_ n1_ n2_ n3_ n4_ n5_ n6_ n7_ n8_ n9_; clear hb hbox hg; have hnb48 := NB125_116.out; have hnc48 := NB116_125.out; have hnb49 := NB125_117.out; have hnc49 := NB117_125.out; have q50_0 : w47.cell? ⟨gb125, 0, none⟩ = some (.bool false) := (YI BK125.out 0).trans rfl; have q50_1 : w47.cell? ⟨gb125, 1, none⟩ = some (.int .i64 0) := (YI BK125.out 1).trans rfl; have q50_2 : w47.cell? ⟨gb125, 2, none⟩ = some (.int .i64 0) := (YI BK125.out 2).trans rfl; have q50_3 : w47.cell? ⟨gb125, 3, none⟩ = some (.int .i64 0) := (YI BK125.out 3).trans rfl; have q50_4 : w47.cell? ⟨gb125, 4, none⟩ = some (.int .i64 0) := (YI BK125.out 4).trans rfl; have q50_5 : w47.cell? ⟨gb125, 5, none⟩ = some (.int .i64 0) := (YI BK125.out 5).trans rfl; have f50_0 := YJ BK125.out 0; have f50_1 := YJ BK125.out 1; have f50_2 := YJ BK125.out 2; have f50_3 := YJ BK125.out 3; have f50_4 := YJ BK125.out 4; have f50_5 := YJ BK125.out 5; have q51_0 : w47.cell? ⟨gb117, 0, none⟩ = some (.int .i64 0) := (YI BK117.out 0).trans rfl; have q51_1 : w47.cell? ⟨gb117, 1, none⟩ = some (.int .i64 0) := (YI BK117.out 1).trans rfl; have q51_2 : w47.cell? ⟨gb117, 2, none⟩ = some (.bool a0_2) := (YI BK117.out 2).trans rfl; have q51_3 : w47.cell? ⟨gb117, 3, none⟩ = some (.int .i64 a0_3) := (YI BK117.out 3).trans rfl; have q51_4 : w47.cell? ⟨gb117, 4, none⟩ = some (.int .i64 a0_4) := (YI BK117.out 4).trans rfl; have q51_5 : w47.cell? ⟨gb117, 5, none⟩ = some (.int .i64 a0_5) := (YI BK117.out 5).trans rfl; have q51_6 : w47.cell? ⟨gb117, 6, none⟩ = some (.int .i64 a0_6) := (YI BK117.out 6).trans rfl; have q51_7 : w47.cell? ⟨gb117, 7, none⟩ = some (.int .i64 a0_7) := (YI BK117.out 7).trans rfl; have q51_8 : w47.cell? ⟨gb117, 8, none⟩ = some (.int .i64 a0_8) := (YI BK117.out 8).trans rfl; have q51_9 : w47.cell? ⟨gb117, 9, none⟩ = some (.int .i64 a0_9) := (YI BK117.out 9).trans rfl; have q51_10 : w47.cell? ⟨gb117, 10, none⟩ = some (.int .i64 a0_10) := (YI BK117.out 10).trans rfl; have q51_11 : w47.cell? ⟨gb117, 11, none⟩ = some (.int .i64 a0_11) := (YI BK117.out 11).trans rfl; have f51_0 := YJ BK117.out 0; have f51_1 := YJ BK117.out 1; have f51_2 := YJ BK117.out 2; have f51_3 := YJ BK117.out 3; have f51_4 := YJ BK117.out 4; have f51_5 := YJ BK117.out 5; have f51_6 := YJ BK117.out 6; have f51_7 := YJ BK117.out 7; have f51_8 := YJ BK117.out 8; have f51_9 := YJ BK117.out 9; have f51_10 := YJ BK117.out 10; have f51_11 := YJ BK117.out 11))
        go_ret
        exact ⟨by first | rfl | (simp [errW_none, errW_some] <;> rfl) | (simp [*, errW_none, errW_some] <;> rfl), by repeat (first | (with_reducible first | exact HB.out | apply YA | apply YB | apply YC | refine below_set ?_ GE116.out | refine below_set ?_ GE117.out | refine below_set ?_ GE125.out) | exact HB.out)⟩
       rw [if_neg c43] at H
       have c43b0 : (!(0 == 0) || (!(0 == 0) || ((a0_2 || (!(a0_3 == 0) || (!(a0_4 == 0) || (!(a0_5 == 0) || (!(a0_6 == 0) || (!(a0_7 == 0))))))) || (!(a0_11 == 0))))) = false := by simpa using c43
       have c43b9 := c43b0
       (try simp only [beq_self_eq_true, Bool.not_true, Bool.not_false, Bool.false_or, Bool.true_and, Bool.or_false, Bool.and_true] at c43b9)
       clear c43
       obtain rfl := Option.some.inj H
       have hnb52 := NB116_117.out
       have hnc52 := NB117_116.out
       have q53_0 : wc.cell? ⟨gb116, 0, none⟩ = some (.int .i64 a0_0) := (YI BK116.out 0).trans rfl
       have q53_1 : wc.cell? ⟨gb116, 1, none⟩ = some (.int .i64 a0_1) := (YI BK116.out 1).trans rfl
       have q53_2 : wc.cell? ⟨gb116, 2, none⟩ = some (.bool a0_2) := (YI BK116.out 2).trans rfl
       have q53_3 : wc.cell? ⟨gb116, 3, none⟩ = some (.int .i64 a0_3) := (YI BK116.out 3).trans rfl
       have q53_4 : wc.cell? ⟨gb116, 4, none⟩ = some (.int .i64 a0_4) := (YI BK116.out 4).trans rfl
       have q53_5 : wc.cell? ⟨gb116, 5, none⟩ = some (.int .i64 a0_5) := (YI BK116.out 5).trans rfl
       have q53_6 : wc.cell? ⟨gb116, 6, none⟩ = some (.int .i64 a0_6) := (YI BK116.out 6).trans rfl
       have q53_7 : wc.cell? ⟨gb116, 7, none⟩ = some (.int .i64 a0_7) := (YI BK116.out 7).trans rfl
       have q53_8 : wc.cell? ⟨gb116, 8, none⟩ = some (.int .i64 a0_8) := (YI BK116.out 8).trans rfl
       have q53_9 : wc.cell? ⟨gb116, 9, none⟩ = some (.int .i64 a0_9) := (YI BK116.out 9).trans rfl
       have q53_10 : wc.cell? ⟨gb116, 10, none⟩ = some (.int .i64 a0_10) := (YI BK116.out 10).trans rfl
       have q53_11 : wc.cell? ⟨gb116, 11, none⟩ = some (.int .i64 a0_11) := (YI BK116.out 11).trans rfl
       have f53_0 := YJ BK116.out 0
       have f53_1 := YJ BK116.out 1
       have f53_2 := YJ BK116.out 2
       have f53_3 := YJ BK116.out 3
       have f53_4 := YJ BK116.out 4
       have f53_5 := YJ BK116.out 5
       have f53_6 := YJ BK116.out 6
       have f53_7 := YJ BK116.out 7
       have f53_8 := YJ BK116.out 8
       have f53_9 := YJ BK116.out 9
       have f53_10 := YJ BK116.out 10
       have f53_11 := YJ BK116.out 11
       go_wp2_with (first | ((with_reducible refine gate_callee (f := 45) rfl ?_); refine goesA (some 58) Try.func45 #[.agg #[.int .i64 a0_8, .int .i64 a0_9, .int .i64 a0_10], .int .i64 0, .int .i64 0] ?_; (with_reducible refine (height_At.calls kj1 a0_8 a0_9 a0_10 0 0 t118 t119 t120 t121 t122 t123 t124 _ A40.out).mono ?_); rintro e w54 ⟨rfl, hb⟩; refine ⟨_, rfl, ?_⟩; have n0_ := YL (YK (g := gb116) (o := .cells #[.int .i64 a0_0, .int .i64 a0_1, .bool a0_2, .int .i64 a0_3, .int .i64 a0_4, .int .i64 a0_5, .int .i64 a0_6, .int .i64 a0_7, .int .i64 a0_8, .int .i64 a0_9, .int .i64 a0_10, .int .i64 a0_11] 45 (0, 0)) (upK BK116) hb); have n1_ := YL (YK (g := gb117) (o := .cells #[.int .i64 0, .int .i64 0, .bool a0_2, .int .i64 a0_3, .int .i64 a0_4, .int .i64 a0_5, .int .i64 a0_6, .int .i64 a0_7, .int .i64 a0_8, .int .i64 a0_9, .int .i64 a0_10, .int .i64 a0_11] 45 (0, 0)) (upK BK117) hb); have n2_ := YL (YD (upB HB) hb); clear BK116; clear BK117; clear HB; have BK116 := n0_; have BK117 := n1_; have HB := n2_; clear n0_ n1_ n2_; (try clear hb); (try clear hb2); (try clear hk); (try clear hi)) | ((with_reducible refine gate_dst (N := 5) rfl ?_); refine box_event ?hg (N := 5) ?hd (cs := #[.bool false, .int .i64 0, .int .i64 0, .int .i64 0, .int .i64 0, .int .i64 0]) (t := 41) ?hr ?_; (case hd => rfl); (case hg => rfl); (case hr => first | (go_simp; done) | (go_simp; rfl)); intro gb125 hg w55 hbox hb; have n0_ := YL (YK (g := gb116) (o := .cells #[.int .i64 a0_0, .int .i64 a0_1, .bool a0_2, .int .i64 a0_3, .int .i64 a0_4, .int .i64 a0_5, .int .i64 a0_6, .int .i64 a0_7, .int .i64 a0_8, .int .i64 a0_9, .int .i64 a0_10, .int .i64 a0_11] 45 (0, 0)) (upK BK116) hb); have n1_ := YL (YK (g := gb117) (o := .cells #[.int .i64 0, .int .i64 0, .bool a0_2, .int .i64 a0_3, .int .i64 a0_4, .int .i64 a0_5, .int .i64 a0_6, .int .i64 a0_7, .int .i64 a0_8, .int .i64 a0_9, .int .i64 a0_10, .int .i64 a0_11] 45 (0, 0)) (upK BK117) hb); have n2_ := YL (YD (upB HB) hb); have n3_ := YL (hbox); have n4_ := YL ((by rw [hg]; exact (YE (upB HB)) : w.heap.size ≤ gb125)); have n5_ := YL ((by rw [hg]; exact (YE (upB HB)) : w.heap.size ≤ gb125)); have n6_ := YL ((by rw [hg]; exact Nat.ne_of_lt (blk_lt (g := gb116) (o := .cells #[.int .i64 a0_0, .int .i64 a0_1, .bool a0_2, .int .i64 a0_3, .int .i64 a0_4, .int .i64 a0_5, .int .i64 a0_6, .int .i64 a0_7, .int .i64 a0_8, .int .i64 a0_9, .int .i64 a0_10, .int .i64 a0_11] 45 (0, 0)) (upK BK116)) : gb116 ≠ gb125)); have n7_ := YL ((by rw [hg]; exact Nat.ne_of_gt (blk_lt (g := gb116) (o := .cells #[.int .i64 a0_0, .int .i64 a0_1, .bool a0_2, .int .i64 a0_3, .int .i64 a0_4, .int .i64 a0_5, .int .i64 a0_6, .int .i64 a0_7, .int .i64 a0_8, .int .i64 a0_9, .int .i64 a0_10, .int .i64 a0_11] 45 (0, 0)) (upK BK116)) : gb125 ≠ gb116)); have n8_ := YL ((by rw [hg]; exact Nat.ne_of_lt (blk_lt (g := gb117) (o := .cells #[.int .i64 0, .int .i64 0, .bool a0_2, .int .i64 a0_3, .int .i64 a0_4, .int .i64 a0_5, .int .i64 a0_6, .int .i64 a0_7, .int .i64 a0_8, .int .i64 a0_9, .int .i64 a0_10, .int .i64 a0_11] 45 (0, 0)) (upK BK117)) : gb117 ≠ gb125)); have n9_ := YL ((by rw [hg]; exact Nat.ne_of_gt (blk_lt (g := gb117) (o := .cells #[.int .i64 0, .int .i64 0, .bool a0_2, .int .i64 a0_3, .int .i64 a0_4, .int .i64 a0_5, .int .i64 a0_6, .int .i64 a0_7, .int .i64 a0_8, .int .i64 a0_9, .int .i64 a0_10, .int .i64 a0_11] 45 (0, 0)) (upK BK117)) : gb125 ≠ gb117)); clear BK116; clear BK117; clear HB; have BK116 := n0_; have BK117 := n1_; have HB := n2_; have BK125 := n3_; have GW125 := n4_; have GE125 := n5_; have NB116_125 := n6_; have NB125_116 := n7_; have NB117_125 := n8_; have NB125_117 := n9_; clear n0_ n1_ n2_ n3_ n4_ n5_ n6_ n7_ n8_ n9_; clear hb hbox hg; have hnb56 := NB125_116.out; have hnc56 := NB116_125.out; have hnb57 := NB125_117.out; have hnc57 := NB117_125.out; have q58_0 : w55.cell? ⟨gb125, 0, none⟩ = some (.bool false) := (YI BK125.out 0).trans rfl; have q58_1 : w55.cell? ⟨gb125, 1, none⟩ = some (.int .i64 0) := (YI BK125.out 1).trans rfl; have q58_2 : w55.cell? ⟨gb125, 2, none⟩ = some (.int .i64 0) := (YI BK125.out 2).trans rfl; have q58_3 : w55.cell? ⟨gb125, 3, none⟩ = some (.int .i64 0) := (YI BK125.out 3).trans rfl; have q58_4 : w55.cell? ⟨gb125, 4, none⟩ = some (.int .i64 0) := (YI BK125.out 4).trans rfl; have q58_5 : w55.cell? ⟨gb125, 5, none⟩ = some (.int .i64 0) := (YI BK125.out 5).trans rfl; have f58_0 := YJ BK125.out 0; have f58_1 := YJ BK125.out 1; have f58_2 := YJ BK125.out 2; have f58_3 := YJ BK125.out 3; have f58_4 := YJ BK125.out 4; have f58_5 := YJ BK125.out 5; have q59_0 : w55.cell? ⟨gb117, 0, none⟩ = some (.int .i64 0) := (YI BK117.out 0).trans rfl; have q59_1 : w55.cell? ⟨gb117, 1, none⟩ = some (.int .i64 0) := (YI BK117.out 1).trans rfl; have q59_2 : w55.cell? ⟨gb117, 2, none⟩ = some (.bool a0_2) := (YI BK117.out 2).trans rfl; have q59_3 : w55.cell? ⟨gb117, 3, none⟩ = some (.int .i64 a0_3) := (YI BK117.out 3).trans rfl; have q59_4 : w55.cell? ⟨gb117, 4, none⟩ = some (.int .i64 a0_4) := (YI BK117.out 4).trans rfl; have q59_5 : w55.cell? ⟨gb117, 5, none⟩ = some (.int .i64 a0_5) := (YI BK117.out 5).trans rfl; have q59_6 : w55.cell? ⟨gb117, 6, none⟩ = some (.int .i64 a0_6) := (YI BK117.out 6).trans rfl; have q59_7 : w55.cell? ⟨gb117, 7, none⟩ = some (.int .i64 a0_7) := (YI BK117.out 7).trans rfl; have q59_8 : w55.cell? ⟨gb117, 8, none⟩ = some (.int .i64 a0_8) := (YI BK117.out 8).trans rfl; have q59_9 : w55.cell? ⟨gb117, 9, none⟩ = some (.int .i64 a0_9) := (YI BK117.out 9).trans rfl; have q59_10 : w55.cell? ⟨gb117, 10, none⟩ = some (.int .i64 a0_10) := (YI BK117.out 10).trans rfl; have q59_11 : w55.cell? ⟨gb117, 11, none⟩ = some (.int .i64 a0_11) := (YI BK117.out 11).trans rfl; have f59_0 := YJ BK117.out 0; have f59_1 := YJ BK117.out 1; have f59_2 := YJ BK117.out 2; have f59_3 := YJ BK117.out 3; have f59_4 := YJ BK117.out 4; have f59_5 := YJ BK117.out 5; have f59_6 := YJ BK117.out 6; have f59_7 := YJ BK117.out 7; have f59_8 := YJ BK117.out 8; have f59_9 := YJ BK117.out 9; have f59_10 := YJ BK117.out 10; have f59_11 := YJ BK117.out 11))
       go_ret
       exact ⟨by first | rfl | (simp [errW_none, errW_some] <;> rfl) | (simp [*, errW_none, errW_some] <;> rfl), by repeat (first | (with_reducible first | exact HB.out | apply YA | apply YB | apply YC | refine below_set ?_ GE116.out | refine below_set ?_ GE117.out | refine below_set ?_ GE125.out) | exact HB.out)⟩
      rw [if_neg c42] at H
      have c42b0 : (t124 == 0) = false := beq_eq_false_iff_ne.mpr c42
      have c42b1 : (t124 != 0) = true := bne_iff_ne.mpr c42
      obtain rfl := Option.some.inj H
      have hnb60 := NB116_117.out
      have hnc60 := NB117_116.out
      have q61_0 : wc.cell? ⟨gb116, 0, none⟩ = some (.int .i64 a0_0) := (YI BK116.out 0).trans rfl
      have q61_1 : wc.cell? ⟨gb116, 1, none⟩ = some (.int .i64 a0_1) := (YI BK116.out 1).trans rfl
      have q61_2 : wc.cell? ⟨gb116, 2, none⟩ = some (.bool a0_2) := (YI BK116.out 2).trans rfl
      have q61_3 : wc.cell? ⟨gb116, 3, none⟩ = some (.int .i64 a0_3) := (YI BK116.out 3).trans rfl
      have q61_4 : wc.cell? ⟨gb116, 4, none⟩ = some (.int .i64 a0_4) := (YI BK116.out 4).trans rfl
      have q61_5 : wc.cell? ⟨gb116, 5, none⟩ = some (.int .i64 a0_5) := (YI BK116.out 5).trans rfl
      have q61_6 : wc.cell? ⟨gb116, 6, none⟩ = some (.int .i64 a0_6) := (YI BK116.out 6).trans rfl
      have q61_7 : wc.cell? ⟨gb116, 7, none⟩ = some (.int .i64 a0_7) := (YI BK116.out 7).trans rfl
      have q61_8 : wc.cell? ⟨gb116, 8, none⟩ = some (.int .i64 a0_8) := (YI BK116.out 8).trans rfl
      have q61_9 : wc.cell? ⟨gb116, 9, none⟩ = some (.int .i64 a0_9) := (YI BK116.out 9).trans rfl
      have q61_10 : wc.cell? ⟨gb116, 10, none⟩ = some (.int .i64 a0_10) := (YI BK116.out 10).trans rfl
      have q61_11 : wc.cell? ⟨gb116, 11, none⟩ = some (.int .i64 a0_11) := (YI BK116.out 11).trans rfl
      have f61_0 := YJ BK116.out 0
      have f61_1 := YJ BK116.out 1
      have f61_2 := YJ BK116.out 2
      have f61_3 := YJ BK116.out 3
      have f61_4 := YJ BK116.out 4
      have f61_5 := YJ BK116.out 5
      have f61_6 := YJ BK116.out 6
      have f61_7 := YJ BK116.out 7
      have f61_8 := YJ BK116.out 8
      have f61_9 := YJ BK116.out 9
      have f61_10 := YJ BK116.out 10
      have f61_11 := YJ BK116.out 11
      go_wp2_with (first | ((with_reducible refine gate_callee (f := 45) rfl ?_); refine goesA (some 58) Try.func45 #[.agg #[.int .i64 a0_8, .int .i64 a0_9, .int .i64 a0_10], .int .i64 0, .int .i64 0] ?_; (with_reducible refine (height_At.calls kj1 a0_8 a0_9 a0_10 0 0 t118 t119 t120 t121 t122 t123 t124 _ A40.out).mono ?_); rintro e w62 ⟨rfl, hb⟩; refine ⟨_, rfl, ?_⟩; have n0_ := YL (YK (g := gb116) (o := .cells #[.int .i64 a0_0, .int .i64 a0_1, .bool a0_2, .int .i64 a0_3, .int .i64 a0_4, .int .i64 a0_5, .int .i64 a0_6, .int .i64 a0_7, .int .i64 a0_8, .int .i64 a0_9, .int .i64 a0_10, .int .i64 a0_11] 45 (0, 0)) (upK BK116) hb); have n1_ := YL (YK (g := gb117) (o := .cells #[.int .i64 0, .int .i64 0, .bool a0_2, .int .i64 a0_3, .int .i64 a0_4, .int .i64 a0_5, .int .i64 a0_6, .int .i64 a0_7, .int .i64 a0_8, .int .i64 a0_9, .int .i64 a0_10, .int .i64 a0_11] 45 (0, 0)) (upK BK117) hb); have n2_ := YL (YD (upB HB) hb); clear BK116; clear BK117; clear HB; have BK116 := n0_; have BK117 := n1_; have HB := n2_; clear n0_ n1_ n2_; (try clear hb); (try clear hb2); (try clear hk); (try clear hi)) | ((with_reducible refine gate_dst (N := 5) rfl ?_); refine box_event ?hg (N := 5) ?hd (cs := #[.bool false, .int .i64 0, .int .i64 0, .int .i64 0, .int .i64 0, .int .i64 0]) (t := 41) ?hr ?_; (case hd => rfl); (case hg => rfl); (case hr => first | (go_simp; done) | (go_simp; rfl)); intro gb125 hg w63 hbox hb; have n0_ := YL (YK (g := gb116) (o := .cells #[.int .i64 a0_0, .int .i64 a0_1, .bool a0_2, .int .i64 a0_3, .int .i64 a0_4, .int .i64 a0_5, .int .i64 a0_6, .int .i64 a0_7, .int .i64 a0_8, .int .i64 a0_9, .int .i64 a0_10, .int .i64 a0_11] 45 (0, 0)) (upK BK116) hb); have n1_ := YL (YK (g := gb117) (o := .cells #[.int .i64 0, .int .i64 0, .bool a0_2, .int .i64 a0_3, .int .i64 a0_4, .int .i64 a0_5, .int .i64 a0_6, .int .i64 a0_7, .int .i64 a0_8, .int .i64 a0_9, .int .i64 a0_10, .int .i64 a0_11] 45 (0, 0)) (upK BK117) hb); have n2_ := YL (YD (upB HB) hb); have n3_ := YL (hbox); have n4_ := YL ((by rw [hg]; exact (YE (upB HB)) : w.heap.size ≤ gb125)); have n5_ := YL ((by rw [hg]; exact (YE (upB HB)) : w.heap.size ≤ gb125)); have n6_ := YL ((by rw [hg]; exact Nat.ne_of_lt (blk_lt (g := gb116) (o := .cells #[.int .i64 a0_0, .int .i64 a0_1, .bool a0_2, .int .i64 a0_3, .int .i64 a0_4, .int .i64 a0_5, .int .i64 a0_6, .int .i64 a0_7, .int .i64 a0_8, .int .i64 a0_9, .int .i64 a0_10, .int .i64 a0_11] 45 (0, 0)) (upK BK116)) : gb116 ≠ gb125)); have n7_ := YL ((by rw [hg]; exact Nat.ne_of_gt (blk_lt (g := gb116) (o := .cells #[.int .i64 a0_0, .int .i64 a0_1, .bool a0_2, .int .i64 a0_3, .int .i64 a0_4, .int .i64 a0_5, .int .i64 a0_6, .int .i64 a0_7, .int .i64 a0_8, .int .i64 a0_9, .int .i64 a0_10, .int .i64 a0_11] 45 (0, 0)) (upK BK116)) : gb125 ≠ gb116)); have n8_ := YL ((by rw [hg]; exact Nat.ne_of_lt (blk_lt (g := gb117) (o := .cells #[.int .i64 0, .int .i64 0, .bool a0_2, .int .i64 a0_3, .int .i64 a0_4, .int .i64 a0_5, .int .i64 a0_6, .int .i64 a0_7, .int .i64 a0_8, .int .i64 a0_9, .int .i64 a0_10, .int .i64 a0_11] 45 (0, 0)) (upK BK117)) : gb117 ≠ gb125)); have n9_ := YL ((by rw [hg]; exact Nat.ne_of_gt (blk_lt (g := gb117) (o := .cells #[.int .i64 0, .int .i64 0, .bool a0_2, .int .i64 a0_3, .int .i64 a0_4, .int .i64 a0_5, .int .i64 a0_6, .int .i64 a0_7, .int .i64 a0_8, .int .i64 a0_9, .int .i64 a0_10, .int .i64 a0_11] 45 (0, 0)) (upK BK117)) : gb125 ≠ gb117)); clear BK116; clear BK117; clear HB; have BK116 := n0_; have BK117 := n1_; have HB := n2_; have BK125 := n3_; have GW125 := n4_; have GE125 := n5_; have NB116_125 := n6_; have NB125_116 := n7_; have NB117_125 := n8_; have NB125_117 := n9_; clear n0_ n1_ n2_ n3_ n4_ n5_ n6_ n7_ n8_ n9_; clear hb hbox hg; have hnb64 := NB125_116.out; have hnc64 := NB116_125.out; have hnb65 := NB125_117.out; have hnc65 := NB117_125.out; have q66_0 : w63.cell? ⟨gb125, 0, none⟩ = some (.bool false) := (YI BK125.out 0).trans rfl; have q66_1 : w63.cell? ⟨gb125, 1, none⟩ = some (.int .i64 0) := (YI BK125.out 1).trans rfl; have q66_2 : w63.cell? ⟨gb125, 2, none⟩ = some (.int .i64 0) := (YI BK125.out 2).trans rfl; have q66_3 : w63.cell? ⟨gb125, 3, none⟩ = some (.int .i64 0) := (YI BK125.out 3).trans rfl; have q66_4 : w63.cell? ⟨gb125, 4, none⟩ = some (.int .i64 0) := (YI BK125.out 4).trans rfl; have q66_5 : w63.cell? ⟨gb125, 5, none⟩ = some (.int .i64 0) := (YI BK125.out 5).trans rfl; have f66_0 := YJ BK125.out 0; have f66_1 := YJ BK125.out 1; have f66_2 := YJ BK125.out 2; have f66_3 := YJ BK125.out 3; have f66_4 := YJ BK125.out 4; have f66_5 := YJ BK125.out 5; have q67_0 : w63.cell? ⟨gb117, 0, none⟩ = some (.int .i64 0) := (YI BK117.out 0).trans rfl; have q67_1 : w63.cell? ⟨gb117, 1, none⟩ = some (.int .i64 0) := (YI BK117.out 1).trans rfl; have q67_2 : w63.cell? ⟨gb117, 2, none⟩ = some (.bool a0_2) := (YI BK117.out 2).trans rfl; have q67_3 : w63.cell? ⟨gb117, 3, none⟩ = some (.int .i64 a0_3) := (YI BK117.out 3).trans rfl; have q67_4 : w63.cell? ⟨gb117, 4, none⟩ = some (.int .i64 a0_4) := (YI BK117.out 4).trans rfl; have q67_5 : w63.cell? ⟨gb117, 5, none⟩ = some (.int .i64 a0_5) := (YI BK117.out 5).trans rfl; have q67_6 : w63.cell? ⟨gb117, 6, none⟩ = some (.int .i64 a0_6) := (YI BK117.out 6).trans rfl; have q67_7 : w63.cell? ⟨gb117, 7, none⟩ = some (.int .i64 a0_7) := (YI BK117.out 7).trans rfl; have q67_8 : w63.cell? ⟨gb117, 8, none⟩ = some (.int .i64 a0_8) := (YI BK117.out 8).trans rfl; have q67_9 : w63.cell? ⟨gb117, 9, none⟩ = some (.int .i64 a0_9) := (YI BK117.out 9).trans rfl; have q67_10 : w63.cell? ⟨gb117, 10, none⟩ = some (.int .i64 a0_10) := (YI BK117.out 10).trans rfl; have q67_11 : w63.cell? ⟨gb117, 11, none⟩ = some (.int .i64 a0_11) := (YI BK117.out 11).trans rfl; have f67_0 := YJ BK117.out 0; have f67_1 := YJ BK117.out 1; have f67_2 := YJ BK117.out 2; have f67_3 := YJ BK117.out 3; have f67_4 := YJ BK117.out 4; have f67_5 := YJ BK117.out 5; have f67_6 := YJ BK117.out 6; have f67_7 := YJ BK117.out 7; have f67_8 := YJ BK117.out 8; have f67_9 := YJ BK117.out 9; have f67_10 := YJ BK117.out 10; have f67_11 := YJ BK117.out 11))
      go_ret
      exact ⟨by first | rfl | (simp [errW_none, errW_some] <;> rfl) | (simp [*, errW_none, errW_some] <;> rfl), by repeat (first | (with_reducible first | exact HB.out | apply YA | apply YB | apply YC | refine below_set ?_ GE116.out | refine below_set ?_ GE117.out | refine below_set ?_ GE125.out) | exact HB.out)⟩
     replace c41 := Bool.eq_false_iff.mpr c41
     subst c41
     have H1 : (some 1) = some r := by rw [if_neg (show ¬ (false = true) by decide)] at H; exact H
     clear H
     have H := H1
     clear H1
     obtain rfl := Option.some.inj H
     have hnb68 := NB116_117.out
     have hnc68 := NB117_116.out
     have q69_0 : wc.cell? ⟨gb116, 0, none⟩ = some (.int .i64 a0_0) := (YI BK116.out 0).trans rfl
     have q69_1 : wc.cell? ⟨gb116, 1, none⟩ = some (.int .i64 a0_1) := (YI BK116.out 1).trans rfl
     have q69_2 : wc.cell? ⟨gb116, 2, none⟩ = some (.bool a0_2) := (YI BK116.out 2).trans rfl
     have q69_3 : wc.cell? ⟨gb116, 3, none⟩ = some (.int .i64 a0_3) := (YI BK116.out 3).trans rfl
     have q69_4 : wc.cell? ⟨gb116, 4, none⟩ = some (.int .i64 a0_4) := (YI BK116.out 4).trans rfl
     have q69_5 : wc.cell? ⟨gb116, 5, none⟩ = some (.int .i64 a0_5) := (YI BK116.out 5).trans rfl
     have q69_6 : wc.cell? ⟨gb116, 6, none⟩ = some (.int .i64 a0_6) := (YI BK116.out 6).trans rfl
     have q69_7 : wc.cell? ⟨gb116, 7, none⟩ = some (.int .i64 a0_7) := (YI BK116.out 7).trans rfl
     have q69_8 : wc.cell? ⟨gb116, 8, none⟩ = some (.int .i64 a0_8) := (YI BK116.out 8).trans rfl
     have q69_9 : wc.cell? ⟨gb116, 9, none⟩ = some (.int .i64 a0_9) := (YI BK116.out 9).trans rfl
     have q69_10 : wc.cell? ⟨gb116, 10, none⟩ = some (.int .i64 a0_10) := (YI BK116.out 10).trans rfl
     have q69_11 : wc.cell? ⟨gb116, 11, none⟩ = some (.int .i64 a0_11) := (YI BK116.out 11).trans rfl
     have f69_0 := YJ BK116.out 0
     have f69_1 := YJ BK116.out 1
     have f69_2 := YJ BK116.out 2
     have f69_3 := YJ BK116.out 3
     have f69_4 := YJ BK116.out 4
     have f69_5 := YJ BK116.out 5
     have f69_6 := YJ BK116.out 6
     have f69_7 := YJ BK116.out 7
     have f69_8 := YJ BK116.out 8
     have f69_9 := YJ BK116.out 9
     have f69_10 := YJ BK116.out 10
     have f69_11 := YJ BK116.out 11
     go_wp2_with (first | ((with_reducible refine gate_callee (f := 45) rfl ?_); refine goesA (some 58) Try.func45 #[.agg #[.int .i64 a0_8, .int .i64 a0_9, .int .i64 a0_10], .int .i64 0, .int .i64 0] ?_; (with_reducible refine (height_At.calls kj1 a0_8 a0_9 a0_10 0 0 t118 t119 t120 t121 t122 t123 t124 _ A40.out).mono ?_); rintro e w70 ⟨rfl, hb⟩; refine ⟨_, rfl, ?_⟩; have n0_ := YL (YK (g := gb116) (o := .cells #[.int .i64 a0_0, .int .i64 a0_1, .bool a0_2, .int .i64 a0_3, .int .i64 a0_4, .int .i64 a0_5, .int .i64 a0_6, .int .i64 a0_7, .int .i64 a0_8, .int .i64 a0_9, .int .i64 a0_10, .int .i64 a0_11] 45 (0, 0)) (upK BK116) hb); have n1_ := YL (YK (g := gb117) (o := .cells #[.int .i64 0, .int .i64 0, .bool a0_2, .int .i64 a0_3, .int .i64 a0_4, .int .i64 a0_5, .int .i64 a0_6, .int .i64 a0_7, .int .i64 a0_8, .int .i64 a0_9, .int .i64 a0_10, .int .i64 a0_11] 45 (0, 0)) (upK BK117) hb); have n2_ := YL (YD (upB HB) hb); clear BK116; clear BK117; clear HB; have BK116 := n0_; have BK117 := n1_; have HB := n2_; clear n0_ n1_ n2_; (try clear hb); (try clear hb2); (try clear hk); (try clear hi)) | ((with_reducible refine gate_dst (N := 5) rfl ?_); refine box_event ?hg (N := 5) ?hd (cs := #[.bool false, .int .i64 0, .int .i64 0, .int .i64 0, .int .i64 0, .int .i64 0]) (t := 41) ?hr ?_; (case hd => rfl); (case hg => rfl); (case hr => first | (go_simp; done) | (go_simp; rfl)); intro gb125 hg w71 hbox hb; have n0_ := YL (YK (g := gb116) (o := .cells #[.int .i64 a0_0, .int .i64 a0_1, .bool a0_2, .int .i64 a0_3, .int .i64 a0_4, .int .i64 a0_5, .int .i64 a0_6, .int .i64 a0_7, .int .i64 a0_8, .int .i64 a0_9, .int .i64 a0_10, .int .i64 a0_11] 45 (0, 0)) (upK BK116) hb); have n1_ := YL (YK (g := gb117) (o := .cells #[.int .i64 0, .int .i64 0, .bool a0_2, .int .i64 a0_3, .int .i64 a0_4, .int .i64 a0_5, .int .i64 a0_6, .int .i64 a0_7, .int .i64 a0_8, .int .i64 a0_9, .int .i64 a0_10, .int .i64 a0_11] 45 (0, 0)) (upK BK117) hb); have n2_ := YL (YD (upB HB) hb); have n3_ := YL (hbox); have n4_ := YL ((by rw [hg]; exact (YE (upB HB)) : w.heap.size ≤ gb125)); have n5_ := YL ((by rw [hg]; exact (YE (upB HB)) : w.heap.size ≤ gb125)); have n6_ := YL ((by rw [hg]; exact Nat.ne_of_lt (blk_lt (g := gb116) (o := .cells #[.int .i64 a0_0, .int .i64 a0_1, .bool a0_2, .int .i64 a0_3, .int .i64 a0_4, .int .i64 a0_5, .int .i64 a0_6, .int .i64 a0_7, .int .i64 a0_8, .int .i64 a0_9, .int .i64 a0_10, .int .i64 a0_11] 45 (0, 0)) (upK BK116)) : gb116 ≠ gb125)); have n7_ := YL ((by rw [hg]; exact Nat.ne_of_gt (blk_lt (g := gb116) (o := .cells #[.int .i64 a0_0, .int .i64 a0_1, .bool a0_2, .int .i64 a0_3, .int .i64 a0_4, .int .i64 a0_5, .int .i64 a0_6, .int .i64 a0_7, .int .i64 a0_8, .int .i64 a0_9, .int .i64 a0_10, .int .i64 a0_11] 45 (0, 0)) (upK BK116)) : gb125 ≠ gb116)); have n8_ := YL ((by rw [hg]; exact Nat.ne_of_lt (blk_lt (g := gb117) (o := .cells #[.int .i64 0, .int .i64 0, .bool a0_2, .int .i64 a0_3, .int .i64 a0_4, .int .i64 a0_5, .int .i64 a0_6, .int .i64 a0_7, .int .i64 a0_8, .int .i64 a0_9, .int .i64 a0_10, .int .i64 a0_11] 45 (0, 0)) (upK BK117)) : gb117 ≠ gb125)); have n9_ := YL ((by rw [hg]; exact Nat.ne_of_gt (blk_lt (g := gb117) (o := .cells #[.int .i64 0, .int .i64 0, .bool a0_2, .int .i64 a0_3, .int .i64 a0_4, .int .i64 a0_5, .int .i64 a0_6, .int .i64 a0_7, .int .i64 a0_8, .int .i64 a0_9, .int .i64 a0_10, .int .i64 a0_11] 45 (0, 0)) (upK BK117)) : gb125 ≠ gb117)); clear BK116; clear BK117; clear HB; have BK116 := n0_; have BK117 := n1_; have HB := n2_; have BK125 := n3_; have GW125 := n4_; have GE125 := n5_; have NB116_125 := n6_; have NB125_116 := n7_; have NB117_125 := n8_; have NB125_117 := n9_; clear n0_ n1_ n2_ n3_ n4_ n5_ n6_ n7_ n8_ n9_; clear hb hbox hg; have hnb72 := NB125_116.out; have hnc72 := NB116_125.out; have hnb73 := NB125_117.out; have hnc73 := NB117_125.out; have q74_0 : w71.cell? ⟨gb125, 0, none⟩ = some (.bool false) := (YI BK125.out 0).trans rfl; have q74_1 : w71.cell? ⟨gb125, 1, none⟩ = some (.int .i64 0) := (YI BK125.out 1).trans rfl; have q74_2 : w71.cell? ⟨gb125, 2, none⟩ = some (.int .i64 0) := (YI BK125.out 2).trans rfl; have q74_3 : w71.cell? ⟨gb125, 3, none⟩ = some (.int .i64 0) := (YI BK125.out 3).trans rfl; have q74_4 : w71.cell? ⟨gb125, 4, none⟩ = some (.int .i64 0) := (YI BK125.out 4).trans rfl; have q74_5 : w71.cell? ⟨gb125, 5, none⟩ = some (.int .i64 0) := (YI BK125.out 5).trans rfl; have f74_0 := YJ BK125.out 0; have f74_1 := YJ BK125.out 1; have f74_2 := YJ BK125.out 2; have f74_3 := YJ BK125.out 3; have f74_4 := YJ BK125.out 4; have f74_5 := YJ BK125.out 5; have q75_0 : w71.cell? ⟨gb117, 0, none⟩ = some (.int .i64 0) := (YI BK117.out 0).trans rfl; have q75_1 : w71.cell? ⟨gb117, 1, none⟩ = some (.int .i64 0) := (YI BK117.out 1).trans rfl; have q75_2 : w71.cell? ⟨gb117, 2, none⟩ = some (.bool a0_2) := (YI BK117.out 2).trans rfl; have q75_3 : w71.cell? ⟨gb117, 3, none⟩ = some (.int .i64 a0_3) := (YI BK117.out 3).trans rfl; have q75_4 : w71.cell? ⟨gb117, 4, none⟩ = some (.int .i64 a0_4) := (YI BK117.out 4).trans rfl; have q75_5 : w71.cell? ⟨gb117, 5, none⟩ = some (.int .i64 a0_5) := (YI BK117.out 5).trans rfl; have q75_6 : w71.cell? ⟨gb117, 6, none⟩ = some (.int .i64 a0_6) := (YI BK117.out 6).trans rfl; have q75_7 : w71.cell? ⟨gb117, 7, none⟩ = some (.int .i64 a0_7) := (YI BK117.out 7).trans rfl; have q75_8 : w71.cell? ⟨gb117, 8, none⟩ = some (.int .i64 a0_8) := (YI BK117.out 8).trans rfl; have q75_9 : w71.cell? ⟨gb117, 9, none⟩ = some (.int .i64 a0_9) := (YI BK117.out 9).trans rfl; have q75_10 : w71.cell? ⟨gb117, 10, none⟩ = some (.int .i64 a0_10) := (YI BK117.out 10).trans rfl; have q75_11 : w71.cell? ⟨gb117, 11, none⟩ = some (.int .i64 a0_11) := (YI BK117.out 11).trans rfl; have f75_0 := YJ BK117.out 0; have f75_1 := YJ BK117.out 1; have f75_2 := YJ BK117.out 2; have f75_3 := YJ BK117.out 3; have f75_4 := YJ BK117.out 4; have f75_5 := YJ BK117.out 5; have f75_6 := YJ BK117.out 6; have f75_7 := YJ BK117.out 7; have f75_8 := YJ BK117.out 8; have f75_9 := YJ BK117.out 9; have f75_10 := YJ BK117.out 10; have f75_11 := YJ BK117.out 11))
     go_ret
     exact ⟨by first | rfl | (simp [errW_none, errW_some] <;> rfl) | (simp [*, errW_none, errW_some] <;> rfl), by repeat (first | (with_reducible first | exact HB.out | apply YA | apply YB | apply YC | refine below_set ?_ GE116.out | refine below_set ?_ GE117.out | refine below_set ?_ GE125.out) | exact HB.out)⟩
    rw [if_neg c39] at H
    have c39b0 : (a0_0 == 3) = false := beq_eq_false_iff_ne.mpr c39
    have c39b1 : (a0_0 != 3) = true := bne_iff_ne.mpr c39
    obtain rfl := Option.some.inj H
    go_wp2
    go_ret
    exact ⟨by first | rfl | (simp [errW_none, errW_some] <;> rfl) | (simp [*, errW_none, errW_some] <;> rfl), by repeat (first | (with_reducible first | exact HB.out | apply YA | apply YB | apply YC | refine below_set ?_ GE116.out | refine below_set ?_ GE117.out) | exact HB.out)⟩
   case rest =>
    clear HC13
    try clear c1; try clear c2
    try clear p2; try clear c3
    try clear c4; try clear c5
    try clear c6; try clear c7
    try clear c14; try clear c16
    try clear c16b0; try clear c16b1
    try clear c17; try clear c18
    try clear c18b0; try clear c19
    try clear c21; try clear c23
    try clear c23b0; try clear c23b1
    try clear c24; try clear c25
    try clear c26; try clear c29
    try clear c29b0; try clear c30
    try clear c33; try clear c36
    try clear c38; try clear c38b0
    try clear c38b1; try clear c39
    try clear c39b0; try clear c39b1
    try clear c41; try clear c42
    try clear c42b0; try clear c42b1
    try clear c43; try clear c43b0
    try clear c44; try clear c45
    try clear c48; try clear c49
    try clear c52; try clear c56
    try clear c57; try clear c60
    try clear c64; try clear c65
    try clear c68; try clear c72
    try clear c73; try clear q15_0
    try clear q15_1; try clear q15_10
    try clear q15_11; try clear q15_2
    try clear q15_3; try clear q15_4
    try clear q15_5; try clear q15_6
    try clear q15_7; try clear q15_8
    try clear q15_9; try clear q20_0
    try clear q20_1; try clear q20_10
    try clear q20_11; try clear q20_2
    try clear q20_3; try clear q20_4
    try clear q20_5; try clear q20_6
    try clear q20_7; try clear q20_8
    try clear q20_9; try clear q22_0
    try clear q22_1; try clear q22_10
    try clear q22_11; try clear q22_2
    try clear q22_3; try clear q22_4
    try clear q22_5; try clear q22_6
    try clear q22_7; try clear q22_8
    try clear q22_9; try clear q27_0
    try clear q27_1; try clear q27_10
    try clear q27_11; try clear q27_2
    try clear q27_3; try clear q27_4
    try clear q27_5; try clear q27_6
    try clear q27_7; try clear q27_8
    try clear q27_9; try clear q28_0
    try clear q28_1; try clear q28_10
    try clear q28_11; try clear q28_2
    try clear q28_3; try clear q28_4
    try clear q28_5; try clear q28_6
    try clear q28_7; try clear q28_8
    try clear q28_9; try clear q31_0
    try clear q31_1; try clear q31_10
    try clear q31_11; try clear q31_2
    try clear q31_3; try clear q31_4
    try clear q31_5; try clear q31_6
    try clear q31_7; try clear q31_8
    try clear q31_9; try clear q32_0
    try clear q32_1; try clear q32_10
    try clear q32_11; try clear q32_2
    try clear q32_3; try clear q32_4
    try clear q32_5; try clear q32_6
    try clear q32_7; try clear q32_8
    try clear q32_9; try clear q34_0
    try clear q34_1; try clear q34_10
    try clear q34_11; try clear q34_2
    try clear q34_3; try clear q34_4
    try clear q34_5; try clear q34_6
    try clear q34_7; try clear q34_8
    try clear q34_9; try clear q35_0
    try clear q35_1; try clear q35_10
    try clear q35_11; try clear q35_2
    try clear q35_3; try clear q35_4
    try clear q35_5; try clear q35_6
    try clear q35_7; try clear q35_8
    try clear q35_9; try clear q37_0
    try clear q37_1; try clear q37_10
    try clear q37_11; try clear q37_2
    try clear q37_3; try clear q37_4
    try clear q37_5; try clear q37_6
    try clear q37_7; try clear q37_8
    try clear q37_9; try clear q45_0
    try clear q45_1; try clear q45_10
    try clear q45_11; try clear q45_2
    try clear q45_3; try clear q45_4
    try clear q45_5; try clear q45_6
    try clear q45_7; try clear q45_8
    try clear q45_9; try clear q50_0
    try clear q50_1; try clear q50_2
    try clear q50_3; try clear q50_4
    try clear q50_5; try clear q51_0
    try clear q51_1; try clear q51_10
    try clear q51_11; try clear q51_2
    try clear q51_3; try clear q51_4
    try clear q51_5; try clear q51_6
    try clear q51_7; try clear q51_8
    try clear q51_9; try clear q53_0
    try clear q53_1; try clear q53_10
    try clear q53_11; try clear q53_2
    try clear q53_3; try clear q53_4
    try clear q53_5; try clear q53_6
    try clear q53_7; try clear q53_8
    try clear q53_9; try clear q58_0
    try clear q58_1; try clear q58_2
    try clear q58_3; try clear q58_4
    try clear q58_5; try clear q59_0
    try clear q59_1; try clear q59_10
    try clear q59_11; try clear q59_2
    try clear q59_3; try clear q59_4
    try clear q59_5; try clear q59_6
    try clear q59_7; try clear q59_8
    try clear q59_9; try clear q61_0
    try clear q61_1; try clear q61_10
    try clear q61_11; try clear q61_2
    try clear q61_3; try clear q61_4
    try clear q61_5; try clear q61_6
    try clear q61_7; try clear q61_8
    try clear q61_9; try clear q66_0
    try clear q66_1; try clear q66_2
    try clear q66_3; try clear q66_4
    try clear q66_5; try clear q67_0
    try clear q67_1; try clear q67_10
    try clear q67_11; try clear q67_2
    try clear q67_3; try clear q67_4
    try clear q67_5; try clear q67_6
    try clear q67_7; try clear q67_8
    try clear q67_9; try clear q69_0
    try clear q69_1; try clear q69_10
    try clear q69_11; try clear q69_2
    try clear q69_3; try clear q69_4
    try clear q69_5; try clear q69_6
    try clear q69_7; try clear q69_8
    try clear q69_9; try clear q74_0
    try clear q74_1; try clear q74_2
    try clear q74_3; try clear q74_4
    try clear q74_5; try clear q75_0
    try clear q75_1; try clear q75_10
    try clear q75_11; try clear q75_2
    try clear q75_3; try clear q75_4
    try clear q75_5; try clear q75_6
    try clear q75_7; try clear q75_8
    try clear q75_9; try clear q7_5
    try clear q7_6; try clear q7_7
    try clear q7_8; try clear q7_9
    try clear f10_0; try clear f10_1
    try clear f10_10; try clear f10_11
    try clear f10_2; try clear f10_3
    try clear f10_4; try clear f10_5
    try clear f10_6; try clear f10_7
    try clear f10_8; try clear f10_9
    try clear f12_0; try clear f12_1
    try clear f12_10; try clear f12_11
    try clear f12_2; try clear f12_3
    try clear f12_4; try clear f12_5
    try clear f12_6; try clear f12_7
    try clear f12_8; try clear f12_9
    try clear f15_0; try clear f15_1
    try clear f15_10; try clear f15_11
    try clear f15_2; try clear f15_3
    try clear f15_4; try clear f15_5
    try clear f15_6; try clear f15_7
    try clear f15_8; try clear f15_9
    try clear f20_0; try clear f20_1
    try clear f20_10; try clear f20_11
    try clear f20_2; try clear f20_3
    try clear f20_4; try clear f20_5
    try clear f20_6; try clear f20_7
    try clear f20_8; try clear f20_9
    try clear f22_0; try clear f22_1
    try clear f22_10; try clear f22_11
    try clear f22_2; try clear f22_3
    try clear f22_4; try clear f22_5
    try clear f22_6; try clear f22_7
    try clear f22_8; try clear f22_9
    try clear f27_0; try clear f27_1
    try clear f27_10; try clear f27_11
    try clear f27_2; try clear f27_3
    try clear f27_4; try clear f27_5
    try clear f27_6; try clear f27_7
    try clear f27_8; try clear f27_9
    try clear f28_0; try clear f28_1
    try clear f28_10; try clear f28_11
    try clear f28_2; try clear f28_3
    try clear f28_4; try clear f28_5
    try clear f28_6; try clear f28_7
    try clear f28_8; try clear f28_9
    try clear f31_0; try clear f31_1
    try clear f31_10; try clear f31_11
    try clear f31_2; try clear f31_3
    try clear f31_4; try clear f31_5
    try clear f31_6; try clear f31_7
    try clear f31_8; try clear f31_9
    try clear f32_0; try clear f32_1
    try clear f32_10; try clear f32_11
    try clear f32_2; try clear f32_3
    try clear f32_4; try clear f32_5
    try clear f32_6; try clear f32_7
    try clear f32_8; try clear f32_9
    try clear f34_0; try clear f34_1
    try clear f34_10; try clear f34_11
    try clear f34_2; try clear f34_3
    try clear f34_4; try clear f34_5
    try clear f34_6; try clear f34_7
    try clear f34_8; try clear f34_9
    try clear f35_0; try clear f35_1
    try clear f35_10; try clear f35_11
    try clear f35_2; try clear f35_3
    try clear f35_4; try clear f35_5
    try clear f35_6; try clear f35_7
    try clear f35_8; try clear f35_9
    try clear f37_0; try clear f37_1
    try clear f37_10; try clear f37_11
    try clear f37_2; try clear f37_3
    try clear f37_4; try clear f37_5
    try clear f37_6; try clear f37_7
    try clear f37_8; try clear f37_9
    try clear f45_0; try clear f45_1
    try clear f45_10; try clear f45_11
    try clear f45_2; try clear f45_3
    try clear f45_4; try clear f45_5
    try clear f45_6; try clear f45_7
    try clear f45_8; try clear f45_9
    try clear f4_0; try clear f4_1
    try clear f4_10; try clear f4_11
    try clear f4_2; try clear f4_3
    try clear f4_4; try clear f4_5
    try clear f4_6; try clear f4_7
    try clear f4_8; try clear f4_9
    try clear f50_0; try clear f50_1
    try clear f50_2; try clear f50_3
    try clear f50_4; try clear f50_5
    try clear f51_0; try clear f51_1
    try clear f51_10; try clear f51_11
    try clear f51_2; try clear f51_3
    try clear f51_4; try clear f51_5
    try clear f51_6; try clear f51_7
    try clear f51_8; try clear f51_9
    try clear f53_0; try clear f53_1
    try clear f53_10; try clear f53_11
    try clear f53_2; try clear f53_3
    try clear f53_4; try clear f53_5
    try clear f53_6; try clear f53_7
    try clear f53_8; try clear f53_9
    try clear f58_0; try clear f58_1
    try clear f58_2; try clear f58_3
    try clear f58_4; try clear f58_5
    try clear f59_0; try clear f59_1
    try clear f59_10; try clear f59_11
    try clear f59_2; try clear f59_3
    try clear f59_4; try clear f59_5
    try clear f59_6; try clear f59_7
    try clear f59_8; try clear f59_9
    try clear f61_0; try clear f61_1
    try clear f61_10; try clear f61_11
    try clear f61_2; try clear f61_3
    try clear f61_4; try clear f61_5
    try clear f61_6; try clear f61_7
    try clear f61_8; try clear f61_9
    try clear f66_0; try clear f66_1
    try clear f66_2; try clear f66_3
    try clear f66_4; try clear f66_5
    try clear f67_0; try clear f67_1
    try clear f67_10; try clear f67_11
    try clear f67_2; try clear f67_3
    try clear f67_4; try clear f67_5
    try clear f67_6; try clear f67_7
    try clear f67_8; try clear f67_9
    try clear f69_0; try clear f69_1
    try clear f69_10; try clear f69_11
    try clear f69_2; try clear f69_3
    try clear f69_4; try clear f69_5
    try clear f69_6; try clear f69_7
    try clear f69_8; try clear f69_9
    try clear f74_0; try clear f74_1
    try clear f74_2; try clear f74_3
    try clear f74_4; try clear f74_5
    try clear f75_0; try clear f75_1
    try clear f75_10; try clear f75_11
    try clear f75_2; try clear f75_3
    try clear f75_4; try clear f75_5
    try clear f75_6; try clear f75_7
    try clear f75_8; try clear f75_9
    try clear f7_0; try clear f7_1
    try clear f7_10; try clear f7_11
    try clear f7_2; try clear f7_3
    try clear f7_4; try clear f7_5
    try clear f7_6; try clear f7_7
    try clear f7_8; try clear f7_9
    obtain ⟨kq, x4_12, x118011_12, rfl, HA, HJ12, BK116, BK117, HB⟩ := hcut
    cases kq with
    | zero => exact absurd HA.out (by simp [object_Check.j1])
    | succ kj12 =>
     have H := HA.out
     clear HA
     simp only [object_Check.j1] at H
     by_cases c76 : x4_12 = true
     ·subst c76
      have H1 : ((height_Check.f kj12 a0_2 a0_3 a0_4 a0_5 a0_6 a0_7).bind fun t126 => (if t126 = 0 then (if (!(0 == 0) || (!(0 == 0) || ((!(a0_8 == 0) || (!(a0_9 == 0) || (!(a0_10 == 0)))) || (!(x118011_12 == 0))))) = true then (some 1) else (some 0)) else (some 1))) = some r := by rw [if_pos rfl] at H; exact H
      clear H
      have H := H1
      clear H1; replace H := Option.bind_eq_some_iff.mp H; obtain ⟨t126, A770, H⟩ := H
      replace H : (if t126 = 0 then (if (!(0 == 0) || (!(0 == 0) || ((!(a0_8 == 0) || (!(a0_9 == 0) || (!(a0_10 == 0)))) || (!(x118011_12 == 0))))) = true then (some 1) else (some 0)) else (some 1)) = some r := H
      have A77 := YL A770; clear A770
      by_cases c78 : t126 = 0
      ·rw [if_pos c78] at H
       have c78b0 : (t126 == 0) = true := beq_iff_eq.mpr c78
       have c78b1 : (t126 != 0) = false := bne_eq_false_iff_eq.mpr c78
       clear c78
       by_cases c79 : (!(0 == 0) || (!(0 == 0) || ((!(a0_8 == 0) || (!(a0_9 == 0) || (!(a0_10 == 0)))) || (!(x118011_12 == 0))))) = true
       ·rw [if_pos c79] at H
        have c79b0 : (!(0 == 0) || (!(0 == 0) || ((!(a0_8 == 0) || (!(a0_9 == 0) || (!(a0_10 == 0)))) || (!(x118011_12 == 0))))) = true := c79
        have c79b9 := c79b0
        (try simp only [beq_self_eq_true, Bool.not_true, Bool.not_false, Bool.false_or, Bool.true_and, Bool.or_false, Bool.and_true] at c79b9)
        clear c79
        obtain rfl := Option.some.inj H
        have hnb80 := NB116_117.out
        have hnc80 := NB117_116.out
        have q81_0 : wc.cell? ⟨gb116, 0, none⟩ = some (.int .i64 a0_0) := (YI BK116.out 0).trans rfl
        have q81_1 : wc.cell? ⟨gb116, 1, none⟩ = some (.int .i64 a0_1) := (YI BK116.out 1).trans rfl
        have q81_2 : wc.cell? ⟨gb116, 2, none⟩ = some (.bool a0_2) := (YI BK116.out 2).trans rfl
        have q81_3 : wc.cell? ⟨gb116, 3, none⟩ = some (.int .i64 a0_3) := (YI BK116.out 3).trans rfl
        have q81_4 : wc.cell? ⟨gb116, 4, none⟩ = some (.int .i64 a0_4) := (YI BK116.out 4).trans rfl
        have q81_5 : wc.cell? ⟨gb116, 5, none⟩ = some (.int .i64 a0_5) := (YI BK116.out 5).trans rfl
        have q81_6 : wc.cell? ⟨gb116, 6, none⟩ = some (.int .i64 a0_6) := (YI BK116.out 6).trans rfl
        have q81_7 : wc.cell? ⟨gb116, 7, none⟩ = some (.int .i64 a0_7) := (YI BK116.out 7).trans rfl
        have q81_8 : wc.cell? ⟨gb116, 8, none⟩ = some (.int .i64 a0_8) := (YI BK116.out 8).trans rfl
        have q81_9 : wc.cell? ⟨gb116, 9, none⟩ = some (.int .i64 a0_9) := (YI BK116.out 9).trans rfl
        have q81_10 : wc.cell? ⟨gb116, 10, none⟩ = some (.int .i64 a0_10) := (YI BK116.out 10).trans rfl
        have q81_11 : wc.cell? ⟨gb116, 11, none⟩ = some (.int .i64 a0_11) := (YI BK116.out 11).trans rfl
        have f81_0 := YJ BK116.out 0
        have f81_1 := YJ BK116.out 1
        have f81_2 := YJ BK116.out 2
        have f81_3 := YJ BK116.out 3
        have f81_4 := YJ BK116.out 4
        have f81_5 := YJ BK116.out 5
        have f81_6 := YJ BK116.out 6
        have f81_7 := YJ BK116.out 7
        have f81_8 := YJ BK116.out 8
        have f81_9 := YJ BK116.out 9
        have f81_10 := YJ BK116.out 10
        have f81_11 := YJ BK116.out 11
        go_wp2_with (first | (go_at_call 44; (with_reducible refine (height_Check.calls kj12 a0_2 a0_3 a0_4 a0_5 a0_6 a0_7 t126 _ A77.out).mono ?_); rintro e w82 ⟨rfl, hb⟩; have n0_ := YL (YK (g := gb116) (o := .cells #[.int .i64 a0_0, .int .i64 a0_1, .bool a0_2, .int .i64 a0_3, .int .i64 a0_4, .int .i64 a0_5, .int .i64 a0_6, .int .i64 a0_7, .int .i64 a0_8, .int .i64 a0_9, .int .i64 a0_10, .int .i64 a0_11] 45 (0, 0)) (upK BK116) hb); have n1_ := YL (YK (g := gb117) (o := .cells #[.int .i64 0, .int .i64 0, .bool a0_2, .int .i64 a0_3, .int .i64 a0_4, .int .i64 a0_5, .int .i64 a0_6, .int .i64 a0_7, .int .i64 a0_8, .int .i64 a0_9, .int .i64 a0_10, .int .i64 x118011_12] 45 (0, 0)) (upK BK117) hb); have n2_ := YL (YD (upB HB) hb); clear BK116; clear BK117; clear HB; have BK116 := n0_; have BK117 := n1_; have HB := n2_; clear n0_ n1_ n2_; (try clear hb); (try clear hb2); (try clear hk); (try clear hi); have q83_0 : w82.cell? ⟨gb117, 0, none⟩ = some (.int .i64 0) := (YI BK117.out 0).trans rfl; have q83_1 : w82.cell? ⟨gb117, 1, none⟩ = some (.int .i64 0) := (YI BK117.out 1).trans rfl; have q83_2 : w82.cell? ⟨gb117, 2, none⟩ = some (.bool a0_2) := (YI BK117.out 2).trans rfl; have q83_3 : w82.cell? ⟨gb117, 3, none⟩ = some (.int .i64 a0_3) := (YI BK117.out 3).trans rfl; have q83_4 : w82.cell? ⟨gb117, 4, none⟩ = some (.int .i64 a0_4) := (YI BK117.out 4).trans rfl; have q83_5 : w82.cell? ⟨gb117, 5, none⟩ = some (.int .i64 a0_5) := (YI BK117.out 5).trans rfl; have q83_6 : w82.cell? ⟨gb117, 6, none⟩ = some (.int .i64 a0_6) := (YI BK117.out 6).trans rfl; have q83_7 : w82.cell? ⟨gb117, 7, none⟩ = some (.int .i64 a0_7) := (YI BK117.out 7).trans rfl; have q83_8 : w82.cell? ⟨gb117, 8, none⟩ = some (.int .i64 a0_8) := (YI BK117.out 8).trans rfl; have q83_9 : w82.cell? ⟨gb117, 9, none⟩ = some (.int .i64 a0_9) := (YI BK117.out 9).trans rfl; have q83_10 : w82.cell? ⟨gb117, 10, none⟩ = some (.int .i64 a0_10) := (YI BK117.out 10).trans rfl; have q83_11 : w82.cell? ⟨gb117, 11, none⟩ = some (.int .i64 x118011_12) := (YI BK117.out 11).trans rfl; have f83_0 := YJ BK117.out 0; have f83_1 := YJ BK117.out 1; have f83_2 := YJ BK117.out 2; have f83_3 := YJ BK117.out 3; have f83_4 := YJ BK117.out 4; have f83_5 := YJ BK117.out 5; have f83_6 := YJ BK117.out 6; have f83_7 := YJ BK117.out 7; have f83_8 := YJ BK117.out 8; have f83_9 := YJ BK117.out 9; have f83_10 := YJ BK117.out 10; have f83_11 := YJ BK117.out 11))
        go_ret
        exact ⟨by first | rfl | (simp [errW_none, errW_some] <;> rfl) | (simp [*, errW_none, errW_some] <;> rfl), by repeat (first | (with_reducible first | exact HB.out | apply YA | apply YB | apply YC | refine below_set ?_ GE116.out | refine below_set ?_ GE117.out) | exact HB.out)⟩
       rw [if_neg c79] at H
       have c79b0 : (!(0 == 0) || (!(0 == 0) || ((!(a0_8 == 0) || (!(a0_9 == 0) || (!(a0_10 == 0)))) || (!(x118011_12 == 0))))) = false := by simpa using c79
       have c79b9 := c79b0
       (try simp only [beq_self_eq_true, Bool.not_true, Bool.not_false, Bool.false_or, Bool.true_and, Bool.or_false, Bool.and_true] at c79b9)
       clear c79
       obtain rfl := Option.some.inj H
       have hnb84 := NB116_117.out
       have hnc84 := NB117_116.out
       have q85_0 : wc.cell? ⟨gb116, 0, none⟩ = some (.int .i64 a0_0) := (YI BK116.out 0).trans rfl
       have q85_1 : wc.cell? ⟨gb116, 1, none⟩ = some (.int .i64 a0_1) := (YI BK116.out 1).trans rfl
       have q85_2 : wc.cell? ⟨gb116, 2, none⟩ = some (.bool a0_2) := (YI BK116.out 2).trans rfl
       have q85_3 : wc.cell? ⟨gb116, 3, none⟩ = some (.int .i64 a0_3) := (YI BK116.out 3).trans rfl
       have q85_4 : wc.cell? ⟨gb116, 4, none⟩ = some (.int .i64 a0_4) := (YI BK116.out 4).trans rfl
       have q85_5 : wc.cell? ⟨gb116, 5, none⟩ = some (.int .i64 a0_5) := (YI BK116.out 5).trans rfl
       have q85_6 : wc.cell? ⟨gb116, 6, none⟩ = some (.int .i64 a0_6) := (YI BK116.out 6).trans rfl
       have q85_7 : wc.cell? ⟨gb116, 7, none⟩ = some (.int .i64 a0_7) := (YI BK116.out 7).trans rfl
       have q85_8 : wc.cell? ⟨gb116, 8, none⟩ = some (.int .i64 a0_8) := (YI BK116.out 8).trans rfl
       have q85_9 : wc.cell? ⟨gb116, 9, none⟩ = some (.int .i64 a0_9) := (YI BK116.out 9).trans rfl
       have q85_10 : wc.cell? ⟨gb116, 10, none⟩ = some (.int .i64 a0_10) := (YI BK116.out 10).trans rfl
       have q85_11 : wc.cell? ⟨gb116, 11, none⟩ = some (.int .i64 a0_11) := (YI BK116.out 11).trans rfl
       have f85_0 := YJ BK116.out 0
       have f85_1 := YJ BK116.out 1
       have f85_2 := YJ BK116.out 2
       have f85_3 := YJ BK116.out 3
       have f85_4 := YJ BK116.out 4
       have f85_5 := YJ BK116.out 5
       have f85_6 := YJ BK116.out 6
       have f85_7 := YJ BK116.out 7
       have f85_8 := YJ BK116.out 8
       have f85_9 := YJ BK116.out 9
       have f85_10 := YJ BK116.out 10
       have f85_11 := YJ BK116.out 11
       go_wp2_with (first | (go_at_call 44; (with_reducible refine (height_Check.calls kj12 a0_2 a0_3 a0_4 a0_5 a0_6 a0_7 t126 _ A77.out).mono ?_); rintro e w86 ⟨rfl, hb⟩; have n0_ := YL (YK (g := gb116) (o := .cells #[.int .i64 a0_0, .int .i64 a0_1, .bool a0_2, .int .i64 a0_3, .int .i64 a0_4, .int .i64 a0_5, .int .i64 a0_6, .int .i64 a0_7, .int .i64 a0_8, .int .i64 a0_9, .int .i64 a0_10, .int .i64 a0_11] 45 (0, 0)) (upK BK116) hb); have n1_ := YL (YK (g := gb117) (o := .cells #[.int .i64 0, .int .i64 0, .bool a0_2, .int .i64 a0_3, .int .i64 a0_4, .int .i64 a0_5, .int .i64 a0_6, .int .i64 a0_7, .int .i64 a0_8, .int .i64 a0_9, .int .i64 a0_10, .int .i64 x118011_12] 45 (0, 0)) (upK BK117) hb); have n2_ := YL (YD (upB HB) hb); clear BK116; clear BK117; clear HB; have BK116 := n0_; have BK117 := n1_; have HB := n2_; clear n0_ n1_ n2_; (try clear hb); (try clear hb2); (try clear hk); (try clear hi); have q87_0 : w86.cell? ⟨gb117, 0, none⟩ = some (.int .i64 0) := (YI BK117.out 0).trans rfl; have q87_1 : w86.cell? ⟨gb117, 1, none⟩ = some (.int .i64 0) := (YI BK117.out 1).trans rfl; have q87_2 : w86.cell? ⟨gb117, 2, none⟩ = some (.bool a0_2) := (YI BK117.out 2).trans rfl; have q87_3 : w86.cell? ⟨gb117, 3, none⟩ = some (.int .i64 a0_3) := (YI BK117.out 3).trans rfl; have q87_4 : w86.cell? ⟨gb117, 4, none⟩ = some (.int .i64 a0_4) := (YI BK117.out 4).trans rfl; have q87_5 : w86.cell? ⟨gb117, 5, none⟩ = some (.int .i64 a0_5) := (YI BK117.out 5).trans rfl; have q87_6 : w86.cell? ⟨gb117, 6, none⟩ = some (.int .i64 a0_6) := (YI BK117.out 6).trans rfl; have q87_7 : w86.cell? ⟨gb117, 7, none⟩ = some (.int .i64 a0_7) := (YI BK117.out 7).trans rfl; have q87_8 : w86.cell? ⟨gb117, 8, none⟩ = some (.int .i64 a0_8) := (YI BK117.out 8).trans rfl; have q87_9 : w86.cell? ⟨gb117, 9, none⟩ = some (.int .i64 a0_9) := (YI BK117.out 9).trans rfl; have q87_10 : w86.cell? ⟨gb117, 10, none⟩ = some (.int .i64 a0_10) := (YI BK117.out 10).trans rfl; have q87_11 : w86.cell? ⟨gb117, 11, none⟩ = some (.int .i64 x118011_12) := (YI BK117.out 11).trans rfl; have f87_0 := YJ BK117.out 0; have f87_1 := YJ BK117.out 1; have f87_2 := YJ BK117.out 2; have f87_3 := YJ BK117.out 3; have f87_4 := YJ BK117.out 4; have f87_5 := YJ BK117.out 5; have f87_6 := YJ BK117.out 6; have f87_7 := YJ BK117.out 7; have f87_8 := YJ BK117.out 8; have f87_9 := YJ BK117.out 9; have f87_10 := YJ BK117.out 10; have f87_11 := YJ BK117.out 11))
       go_ret
       exact ⟨by first | rfl | (simp [errW_none, errW_some] <;> rfl) | (simp [*, errW_none, errW_some] <;> rfl), by repeat (first | (with_reducible first | exact HB.out | apply YA | apply YB | apply YC | refine below_set ?_ GE116.out | refine below_set ?_ GE117.out) | exact HB.out)⟩
      rw [if_neg c78] at H
      have c78b0 : (t126 == 0) = false := beq_eq_false_iff_ne.mpr c78
      have c78b1 : (t126 != 0) = true := bne_iff_ne.mpr c78
      obtain rfl := Option.some.inj H
      have hnb88 := NB116_117.out
      have hnc88 := NB117_116.out
      have q89_0 : wc.cell? ⟨gb116, 0, none⟩ = some (.int .i64 a0_0) := (YI BK116.out 0).trans rfl
      have q89_1 : wc.cell? ⟨gb116, 1, none⟩ = some (.int .i64 a0_1) := (YI BK116.out 1).trans rfl
      have q89_2 : wc.cell? ⟨gb116, 2, none⟩ = some (.bool a0_2) := (YI BK116.out 2).trans rfl
      have q89_3 : wc.cell? ⟨gb116, 3, none⟩ = some (.int .i64 a0_3) := (YI BK116.out 3).trans rfl
      have q89_4 : wc.cell? ⟨gb116, 4, none⟩ = some (.int .i64 a0_4) := (YI BK116.out 4).trans rfl
      have q89_5 : wc.cell? ⟨gb116, 5, none⟩ = some (.int .i64 a0_5) := (YI BK116.out 5).trans rfl
      have q89_6 : wc.cell? ⟨gb116, 6, none⟩ = some (.int .i64 a0_6) := (YI BK116.out 6).trans rfl
      have q89_7 : wc.cell? ⟨gb116, 7, none⟩ = some (.int .i64 a0_7) := (YI BK116.out 7).trans rfl
      have q89_8 : wc.cell? ⟨gb116, 8, none⟩ = some (.int .i64 a0_8) := (YI BK116.out 8).trans rfl
      have q89_9 : wc.cell? ⟨gb116, 9, none⟩ = some (.int .i64 a0_9) := (YI BK116.out 9).trans rfl
      have q89_10 : wc.cell? ⟨gb116, 10, none⟩ = some (.int .i64 a0_10) := (YI BK116.out 10).trans rfl
      have q89_11 : wc.cell? ⟨gb116, 11, none⟩ = some (.int .i64 a0_11) := (YI BK116.out 11).trans rfl
      have f89_0 := YJ BK116.out 0
      have f89_1 := YJ BK116.out 1
      have f89_2 := YJ BK116.out 2
      have f89_3 := YJ BK116.out 3
      have f89_4 := YJ BK116.out 4
      have f89_5 := YJ BK116.out 5
      have f89_6 := YJ BK116.out 6
      have f89_7 := YJ BK116.out 7
      have f89_8 := YJ BK116.out 8
      have f89_9 := YJ BK116.out 9
      have f89_10 := YJ BK116.out 10
      have f89_11 := YJ BK116.out 11
      go_wp2_with (first | (go_at_call 44; (with_reducible refine (height_Check.calls kj12 a0_2 a0_3 a0_4 a0_5 a0_6 a0_7 t126 _ A77.out).mono ?_); rintro e w90 ⟨rfl, hb⟩; have n0_ := YL (YK (g := gb116) (o := .cells #[.int .i64 a0_0, .int .i64 a0_1, .bool a0_2, .int .i64 a0_3, .int .i64 a0_4, .int .i64 a0_5, .int .i64 a0_6, .int .i64 a0_7, .int .i64 a0_8, .int .i64 a0_9, .int .i64 a0_10, .int .i64 a0_11] 45 (0, 0)) (upK BK116) hb); have n1_ := YL (YK (g := gb117) (o := .cells #[.int .i64 0, .int .i64 0, .bool a0_2, .int .i64 a0_3, .int .i64 a0_4, .int .i64 a0_5, .int .i64 a0_6, .int .i64 a0_7, .int .i64 a0_8, .int .i64 a0_9, .int .i64 a0_10, .int .i64 x118011_12] 45 (0, 0)) (upK BK117) hb); have n2_ := YL (YD (upB HB) hb); clear BK116; clear BK117; clear HB; have BK116 := n0_; have BK117 := n1_; have HB := n2_; clear n0_ n1_ n2_; (try clear hb); (try clear hb2); (try clear hk); (try clear hi); have q91_0 : w90.cell? ⟨gb117, 0, none⟩ = some (.int .i64 0) := (YI BK117.out 0).trans rfl; have q91_1 : w90.cell? ⟨gb117, 1, none⟩ = some (.int .i64 0) := (YI BK117.out 1).trans rfl; have q91_2 : w90.cell? ⟨gb117, 2, none⟩ = some (.bool a0_2) := (YI BK117.out 2).trans rfl; have q91_3 : w90.cell? ⟨gb117, 3, none⟩ = some (.int .i64 a0_3) := (YI BK117.out 3).trans rfl; have q91_4 : w90.cell? ⟨gb117, 4, none⟩ = some (.int .i64 a0_4) := (YI BK117.out 4).trans rfl; have q91_5 : w90.cell? ⟨gb117, 5, none⟩ = some (.int .i64 a0_5) := (YI BK117.out 5).trans rfl; have q91_6 : w90.cell? ⟨gb117, 6, none⟩ = some (.int .i64 a0_6) := (YI BK117.out 6).trans rfl; have q91_7 : w90.cell? ⟨gb117, 7, none⟩ = some (.int .i64 a0_7) := (YI BK117.out 7).trans rfl; have q91_8 : w90.cell? ⟨gb117, 8, none⟩ = some (.int .i64 a0_8) := (YI BK117.out 8).trans rfl; have q91_9 : w90.cell? ⟨gb117, 9, none⟩ = some (.int .i64 a0_9) := (YI BK117.out 9).trans rfl; have q91_10 : w90.cell? ⟨gb117, 10, none⟩ = some (.int .i64 a0_10) := (YI BK117.out 10).trans rfl; have q91_11 : w90.cell? ⟨gb117, 11, none⟩ = some (.int .i64 x118011_12) := (YI BK117.out 11).trans rfl; have f91_0 := YJ BK117.out 0; have f91_1 := YJ BK117.out 1; have f91_2 := YJ BK117.out 2; have f91_3 := YJ BK117.out 3; have f91_4 := YJ BK117.out 4; have f91_5 := YJ BK117.out 5; have f91_6 := YJ BK117.out 6; have f91_7 := YJ BK117.out 7; have f91_8 := YJ BK117.out 8; have f91_9 := YJ BK117.out 9; have f91_10 := YJ BK117.out 10; have f91_11 := YJ BK117.out 11))
      go_ret
      exact ⟨by first | rfl | (simp [errW_none, errW_some] <;> rfl) | (simp [*, errW_none, errW_some] <;> rfl), by repeat (first | (with_reducible first | exact HB.out | apply YA | apply YB | apply YC | refine below_set ?_ GE116.out | refine below_set ?_ GE117.out) | exact HB.out)⟩
     replace c76 := Bool.eq_false_iff.mpr c76
     subst c76
     have H1 : (some 1) = some r := by rw [if_neg (show ¬ (false = true) by decide)] at H; exact H
     clear H
     have H := H1
     clear H1
     obtain rfl := Option.some.inj H
     have hnb92 := NB117_116.out
     have hnc92 := NB116_117.out
     have q93_0 : wc.cell? ⟨gb117, 0, none⟩ = some (.int .i64 0) := (YI BK117.out 0).trans rfl
     have q93_1 : wc.cell? ⟨gb117, 1, none⟩ = some (.int .i64 0) := (YI BK117.out 1).trans rfl
     have q93_2 : wc.cell? ⟨gb117, 2, none⟩ = some (.bool a0_2) := (YI BK117.out 2).trans rfl
     have q93_3 : wc.cell? ⟨gb117, 3, none⟩ = some (.int .i64 a0_3) := (YI BK117.out 3).trans rfl
     have q93_4 : wc.cell? ⟨gb117, 4, none⟩ = some (.int .i64 a0_4) := (YI BK117.out 4).trans rfl
     have q93_5 : wc.cell? ⟨gb117, 5, none⟩ = some (.int .i64 a0_5) := (YI BK117.out 5).trans rfl
     have q93_6 : wc.cell? ⟨gb117, 6, none⟩ = some (.int .i64 a0_6) := (YI BK117.out 6).trans rfl
     have q93_7 : wc.cell? ⟨gb117, 7, none⟩ = some (.int .i64 a0_7) := (YI BK117.out 7).trans rfl
     have q93_8 : wc.cell? ⟨gb117, 8, none⟩ = some (.int .i64 a0_8) := (YI BK117.out 8).trans rfl
     have q93_9 : wc.cell? ⟨gb117, 9, none⟩ = some (.int .i64 a0_9) := (YI BK117.out 9).trans rfl
     have q93_10 : wc.cell? ⟨gb117, 10, none⟩ = some (.int .i64 a0_10) := (YI BK117.out 10).trans rfl
     have q93_11 : wc.cell? ⟨gb117, 11, none⟩ = some (.int .i64 x118011_12) := (YI BK117.out 11).trans rfl
     have f93_0 := YJ BK117.out 0
     have f93_1 := YJ BK117.out 1
     have f93_2 := YJ BK117.out 2
     have f93_3 := YJ BK117.out 3
     have f93_4 := YJ BK117.out 4
     have f93_5 := YJ BK117.out 5
     have f93_6 := YJ BK117.out 6
     have f93_7 := YJ BK117.out 7
     have f93_8 := YJ BK117.out 8
     have f93_9 := YJ BK117.out 9
     have f93_10 := YJ BK117.out 10
     have f93_11 := YJ BK117.out 11
     go_wp2
     go_ret
     exact ⟨by first | rfl | (simp [errW_none, errW_some] <;> rfl) | (simp [*, errW_none, errW_some] <;> rfl), by repeat (first | (with_reducible first | exact HB.out | apply YA | apply YB | apply YC | refine below_set ?_ GE116.out | refine below_set ?_ GE117.out) | exact HB.out)⟩
end Go.Proofs.Ytfigbjjaffkidaa.P
namespace Go.Proofs.Ytfigbjjaffkidaa.P
open Go.RowKit YtfigbjjaffkidaaW.PrintWords YtfigbjjaffkidaaW.PrintLast YtfigbjjaffkidaaW.PrintMore
theorem w64 {x : Int} (h0 : -9223372036854775808 ≤ x) (h1 : x < 9223372036854775808) : wrap64 x = x := by unfold wrap64; omega
theorem Ev.from {α : Type} {g : Nat → Option α} {r : α} (n : Nat) (h : ∀ k, g (k + n) = some r) : Ev g r := ⟨n, fun k hk => by
 obtain ⟨m, rfl⟩ : ∃ m, k = m + n := ⟨k - n, by omega⟩
 exact h m⟩
theorem bytes_of {l : List Int} (h : ∀ x ∈ l, (Lit.int .u8 x).wf = true) : ∀ x ∈ l, 0 ≤ x ∧ x ≤ 255 := fun x hx => Go.bounds_u8 (h x hx)
theorem wrap_u64 (n : Int) : IntKind.u64.wrap n = n % 18446744073709551616 := by simp [IntKind.wrap, IntKind.bits, IntKind.signed]
def Bytes (l : List Int) : Prop := ∀ x ∈ l, 0 ≤ x ∧ x ≤ 255
def be : Nat → Int → List Int
 | 0, _ => []
 | n + 1, v => be n (v / 256) ++ [v % 256]
theorem be_length (n : Nat) (v : Int) : (be n v).length = n := by
 induction n generalizing v with
 | zero => rfl
 | succ n ih => simp [be, ih]
theorem be_cons (n : Nat) : ∀ v : Int, be (n + 1) v = (v / 256 ^ n % 256) :: be n v := by
 induction n with
 | zero => intro v; simp [be]
 | succ n ih =>
  intro v
  show be (n + 1) (v / 256) ++ [v % 256] = _
  rw [ih (v / 256), Int.ediv_ediv_of_nonneg (by decide), ← Int.pow_succ']
  rfl
theorem be_set (m : Nat) (x : Int) (t : List Int) : (List.replicate (m + 1) (0 : Int) ++ t).set m x = List.replicate m 0 ++ x :: t := by
 induction m with
 | zero => rfl
 | succ m ih => rw [List.replicate_succ, List.cons_append, List.set_cons_succ, ih, List.replicate_succ (n := m), List.cons_append]
theorem be_bytes (n : Nat) (v : Int) : Bytes (be n v) := by
 induction n generalizing v with
 | zero => intro x hx; simp [be] at hx
 | succ n ih =>
  intro x hx
  simp only [be, List.mem_append, List.mem_singleton] at hx
  rcases hx with hx | rfl
  ·exact ih _ x hx
  ·omega
theorem be_add (n : Nat) : ∀ v a : Int, be n (v + a * 256 ^ n) = be n v := by
 induction n with
 | zero => intro v a; rfl
 | succ n ih =>
  intro v a
  have e : v + a * 256 ^ (n + 1) = v + (a * 256 ^ n) * 256 := by rw [Int.pow_succ, Int.mul_assoc]
  simp only [be]
  rw [e, Int.add_mul_ediv_right _ _ (by decide), Int.add_mul_emod_self_right, ih]
def bevFrom (a : Int) (l : List Int) : Int := l.foldl (fun a x => 256 * a + x) a
def bev (l : List Int) : Int := bevFrom 0 l
theorem bevFrom_eq (l : List Int) : ∀ a : Int, bevFrom a l = a * 256 ^ l.length + bev l := by
 induction l with
 | nil => intro a; simp [bevFrom, bev]
 | cons x l ih =>
  intro a
  show bevFrom (256 * a + x) l = _
  have e : bev (x :: l) = bevFrom (256 * 0 + x) l := rfl
  rw [e, ih (256 * a + x), ih (256 * 0 + x), List.length_cons, Int.pow_succ]
  rw [Int.mul_zero, Int.zero_add, Int.add_mul, Int.add_assoc]
  congr 1
  rw [Int.mul_comm 256 a, Int.mul_assoc, Int.mul_comm 256]
theorem bev_cons (x : Int) (l : List Int) : bev (x :: l) = x * 256 ^ l.length + bev l := by
 show bevFrom (256 * 0 + x) l = _
 rw [bevFrom_eq, Int.mul_zero, Int.zero_add]
theorem bev_snoc (l : List Int) (x : Int) : bev (l ++ [x]) = 256 * bev l + x := by simp [bev, bevFrom, List.foldl_append]
theorem bev_nil : bev [] = 0 := rfl
theorem Bytes.cons {x : Int} {l : List Int} (h : Bytes (x :: l)) : (0 ≤ x ∧ x ≤ 255) ∧ Bytes l := ⟨h x (by simp), fun y hy => h y (by simp [hy])⟩
theorem Bytes.sub {l m : List Int} (h : Bytes l) (hm : ∀ x ∈ m, x ∈ l) : Bytes m := fun x hx => h x (hm x hx)
theorem Bytes.drop {l : List Int} (h : Bytes l) (n : Nat) : Bytes (l.drop n) := h.sub fun _ => List.mem_of_mem_drop
theorem Bytes.take {l : List Int} (h : Bytes l) (n : Nat) : Bytes (l.take n) := h.sub fun _ => List.mem_of_mem_take
theorem Bytes.append {l m : List Int} (h : Bytes l) (k : Bytes m) : Bytes (l ++ m) := fun x hx => (List.mem_append.1 hx).elim (h x) (k x)
theorem pow256_pos (n : Nat) : (0 : Int) < 256 ^ n := Int.pow_pos (by decide)
theorem bev_range (l : List Int) (h : Bytes l) : 0 ≤ bev l ∧ bev l < 256 ^ l.length := by
 induction l with
 | nil => simp [bev_nil]
 | cons x l ih =>
  obtain ⟨hx, hl⟩ := h.cons
  have := ih hl
  rw [bev_cons, List.length_cons, Int.pow_succ]
  have hp := pow256_pos l.length
  have h1 : 0 ≤ x * 256 ^ l.length := Int.mul_nonneg hx.1 (by omega)
  have h2 : x * 256 ^ l.length ≤ 255 * 256 ^ l.length := Int.mul_le_mul_of_nonneg_right hx.2 (by omega)
  omega
theorem bev_be (n : Nat) : ∀ v : Int, 0 ≤ v → v < 256 ^ n → bev (be n v) = v := by
 induction n with
 | zero => intro v h0 h1; simp at h1; simp [be, bev_nil]; omega
 | succ n ih =>
  intro v h0 h1
  rw [Int.pow_succ] at h1
  simp only [be]
  rw [bev_snoc, ih (v / 256) (by omega) (by omega)]
  omega
theorem be_bev (l : List Int) (h : Bytes l) : be l.length (bev l) = l := by
 induction l with
 | nil => rfl
 | cons x l ih =>
  obtain ⟨hx, hl⟩ := h.cons
  have hr := bev_range l hl
  have hp := pow256_pos l.length
  rw [List.length_cons, be_cons, bev_cons, Int.add_comm, be_add, ih hl, Int.add_mul_ediv_right _ _ (by omega), Int.ediv_eq_zero_of_lt hr.1 hr.2]
  congr 1
  omega
def numSpec (l : List Int) (at_ n : Int) : Int × Int × Int :=
 if at_ < 0 ∨ (l.length : Int) < at_ then (0, 0, 1) else if (l.length : Int) - at_ < n then (0, 0, 6) else (bev ((l.drop at_.toNat).take n.toNat), at_ + n, 0)
def getSpec (l : List Int) (at_ n : Int) : Int × Int × Int := if n < 1 ∨ 7 < n then (0, 0, 1) else numSpec l at_ n
def getIntSpec (l : List Int) (at_ : Int) : Int × Int × Int := (wrap64 (numSpec l at_ 8).1, (numSpec l at_ 8).2.1, (numSpec l at_ 8).2.2)
def intSpec (v : Int) : List Int := be 8 (v % 18446744073709551616)
theorem take_bev (l : List Int) (i : Nat) (h : i < l.length) : bev (l.take (i + 1)) = 256 * bev (l.take i) + rd l i := by
 rw [List.take_succ_eq_append_getElem h, bev_snoc]
 congr 1
 unfold rd
 rw [List.getD_eq_getElem?_getD, Int.toNat_natCast, List.getElem?_eq_getElem h]
 rfl
theorem rd_byte (l : List Int) (h : Bytes l) (i : Int) : 0 ≤ rd l i ∧ rd l i ≤ 255 := by
 unfold rd
 rw [List.getD_eq_getElem?_getD]
 cases hc : l[i.toNat]? with
 | none => simp
 | some x => exact h x (List.mem_of_getElem? hc)
theorem or_byte (a x : Int) (h0 : 0 ≤ a) (h1 : a < 72057594037927936) (x0 : 0 ≤ x) (x1 : x ≤ 255) : Go.bits .or .u64 (IntKind.u64.wrap (a * 256)) (IntKind.u64.wrap x) = 256 * a + x := by
 rw [wrap_u64, wrap_u64]
 obtain ⟨p, rfl⟩ := Int.eq_ofNat_of_zero_le h0
 obtain ⟨q, rfl⟩ := Int.eq_ofNat_of_zero_le x0
 rw [show ((p : Int) * 256) % 18446744073709551616 = ((p * 256 : Nat) : Int) by omega, show ((q : Int) % 18446744073709551616) = ((q : Nat) : Int) by omega]
 rw [u64_or_nat _ _ (by omega) (by omega), nat_join 8 _ _ (by omega) (by omega)]
 omega
theorem pow256_le (i n : Nat) (h : i ≤ n) : (256 : Int) ^ i ≤ 256 ^ n := by
 have : (256 : Nat) ^ i ≤ 256 ^ n := Nat.pow_le_pow_right (by decide) h
 have h2 : ((256 ^ i : Nat) : Int) ≤ ((256 ^ n : Nat) : Int) := Int.ofNat_le.mpr this
 rw [Int.natCast_pow, Int.natCast_pow] at h2
 exact h2
def wire_bytes.f (v n : Int) : Option (List Int) := if 0 ≤ v ∧ 1 ≤ n ∧ n ≤ 8 then some (be n.toNat v) else none
theorem store_any (g : Nat) (u : Value) (v : Int) (w : World) (hb : w.heap[g]? = some (.cells #[u] 95 (0, 0))) :
  Calls Try.prog 52 #[.pointer (some ⟨g, 0, none⟩), .int .u64 v] w fun e w' => e = .returned (.tuple #[]) ∧ w.setCell ⟨g, 0, none⟩ (.int .u64 v) = w' := by
 have hc : w.cell? ⟨g, 0, none⟩ = some u := by rw [blk_cell hb]; rfl
 have hz : w.frozen? ⟨g, 0, none⟩ = false := blk_frozen hb 0
 have hst := fun y => run_call_store (P := Try.prog) Try.func56 (by kernel_rfl) (by kernel_rfl) (by kernel_rfl) (by kernel_rfl) (k := .u64) (y := y) hc hz
 clear hb
 go_enter Try.func52, Try.ntmps52
 go_wp2
 go_end0
 exact ⟨rfl, rfl⟩
theorem low_any (g : Nat) (v : Int) (w : World) (h0 : 0 ≤ v) (hb : w.heap[g]? = some (.cells #[.int .u64 v] 95 (0, 0))) :
  Calls Try.prog 53 #[.pointer (some ⟨g, 0, none⟩)] w fun e w' => e = .returned (.int .u8 (v % 256)) ∧ w.setCell ⟨g, 0, none⟩ (.int .u64 (v / 256)) = w' := by
 have hc : w.cell? ⟨g, 0, none⟩ = some (.int .u64 v) := by rw [blk_cell hb]; rfl
 have hz : w.frozen? ⟨g, 0, none⟩ = false := blk_frozen hb 0
 have hld := run_call_load (P := Try.prog) Try.func59 (by kernel_rfl) (by kernel_rfl) (by kernel_rfl) .u64 (by kernel_rfl) hc
 have hst := fun y => run_call_store (P := Try.prog) Try.func56 (by kernel_rfl) (by kernel_rfl) (by kernel_rfl) (by kernel_rfl) (k := .u64) (y := y) hc hz
 clear hb
 go_enter Try.func53, Try.ntmps53
 go_wp2
 go_end0
 go_wp2
 go_ret
 exact ⟨rfl, rfl⟩
theorem wire_bytes.calls (a0 : Int) (a1 : Int) (r : List Int) (w : World) (h : wire_bytes.f a0 a1 = some r) :
  Calls Try.prog 46 #[.int .u64 a0, .int .i64 a1] w fun e w' => ∃ v0_ : Value, e = .returned (v0_) ∧ Kd.R (Kd.int .u8) 5 w' w.heap.size (fun _ => True) v0_ r ∧ Below w.heap.size w w' := by
 have hh : (0 ≤ a0 ∧ 1 ≤ a1 ∧ a1 ≤ 8) ∧ be a1.toNat a0 = r := by
  unfold wire_bytes.f at h
  split at h
  ·rename_i hc
   exact ⟨hc, Option.some.inj h⟩
  ·exact absurd h (by simp)
 clear h
 obtain ⟨⟨h0, h1, h2⟩, rfl⟩ := hh
 obtain ⟨n, rfl⟩ := Int.eq_ofNat_of_zero_le (show 0 ≤ a1 by omega)
 have hp : 0 < n := by omega
 have h2' : n ≤ 8 := by omega
 clear h1 h2
 simp only [Int.toNat_natCast]
 have H0 := Aside0.mk h0
 clear h0
 have hn0 : (0 : Int) ≤ (n : Int) := by omega
 have hn1 : (n : Int) ≤ 8 := by omega
 go_enter Try.func46, Try.ntmps46
 go_wp2_with (((with_reducible refine gate_dst (N := 9) rfl ?_); refine box_event ?hg (N := 9) ?hd (cs := #[.int .u64 0]) (t := 95) ?hr ?_; (case hd => rfl); (case hg => rfl); (case hr => first | (go_simp; done) | (go_simp; rfl)); intro gb hgb w1 hbox hb1; have HBX := Aside0.mk hbox; have HB := Aside0.mk (Below.trans (Below.refl w.heap.size w) hb1); have HG := Aside0.mk (show w.heap.size ≤ gb by rw [hgb]; exact Nat.le_refl _); clear hbox hb1 hgb))
 refine (store_any gb _ a0 _ HBX.out).mono ?_
 rintro e w2 ⟨rfl, hw2⟩
 have HBX2 := Aside0.mk (show w2.heap[gb]? = some (.cells #[.int .u64 a0] 95 (0, 0)) by rw [← hw2]; exact blk_put HBX.out 0 _ rfl)
 have HB2 := Aside0.mk (show Below w.heap.size w w2 by rw [← hw2]; exact below_set HB.out HG.out)
 clear hw2 HBX HB
 go_wp2_with (((with_reducible refine gate_dst (N := 16) rfl ?_); refine Kd.R_make (Kd.int .u8) _ 5 rfl (N := 16) rfl 26 _ _ rfl (n : Int) rfl rfl Try.underlying26 (.int .u8 0) 1 info5 rfl (by decide) (by omega) 0 (ok := fun k => k ≠ gb) (okp := fun _ => False) rfl (fun _ hk => hk.elim) (fun he => absurd (blk_lt HBX2.out) (by rw [← he]; exact Nat.lt_irrefl _)) (by omega) (by simp only [Int.toNat_natCast]; omega) (Below.refl _ _) (Nat.le_refl _) ?_; intro v3 w3 ho hb3 hg3 hnew; clear hnew; simp only [Int.toNat_natCast] at ho; obtain ⟨gs, cs, hv3, hgs, hls, hcs⟩ := Kd.R_form ho (by rw [List.length_replicate]; exact hp); rw [List.length_replicate] at hv3; clear hls hcs; rw [hv3] at ho ⊢; clear hv3; have HO := Aside0.mk (Kd.R_lower ho HB2.out.size); have HBX3 := Aside0.mk (blk_grown HBX2.out hg3 (by simp)); have HB3 := Aside0.mk (below_step HB2.out hb3); have HGS := Aside0.mk (Nat.le_trans HB2.out.size hgs); have HNE := Aside0.mk (show gs ≠ gb from ho.1 gs (by simp [Value.ownBlock])); clear ho hb3 hgs hg3 HBX2 HB2))
 go_loopg [19] n (fun kq v19 wr => ∃ (i : Nat), v19 = .int .i64 i ∧ Aside0 (i + kq = n) ∧ Aside0 (Kd.R (Kd.int .u8) 5 wr w.heap.size (fun k => k ≠ gb) (.slice (some ⟨gs, 0, none⟩) n cs) (List.replicate (n - i) 0 ++ be i a0)) ∧ Aside0 (wr.heap[gb]? = some (.cells #[.int .u64 (a0 / 256 ^ i)] 95 (0, 0))) ∧ Aside0 (Below w.heap.size w wr))
 case atStart => exact ⟨0, rfl, ⟨by omega⟩, ⟨by simpa [be] using HO.out⟩, ⟨by simpa using HBX3.out⟩, HB3⟩
 case round =>
  clear HO HBX3 HB3
  obtain ⟨i, rfl, HI, HO, HBX, HB⟩ := hrel
  cases gk with
  | zero =>
   have hi : i = n := by have := HI.out; omega
   subst hi
   go_wp2
   go_ret
   refine ⟨_, rfl, ?_, HB.out⟩
   have h := HO.out
   rw [Nat.sub_self, List.replicate_zero, List.nil_append] at h
   exact Kd.R_mono h (fun _ _ => trivial)
  | succ k1 =>
   have hlt : i < n := by have := HI.out; omega
   have hi0 : (0 : Int) ≤ (n : Int) - 1 - (i : Int) := by omega
   have hi1 : (n : Int) - 1 - (i : Int) < (n : Int) := by omega
   have hs1 : (0 : Int) ≤ (n : Int) - 1 := by omega
   have hb0 : (0 : Int) ≤ (i : Int) := by omega
   have HA0 := Aside0.mk (show 0 ≤ a0 / 256 ^ i from Int.ediv_nonneg H0.out (by exact Int.pow_nonneg (by decide)))
   go_wp2_with (go_at_call 53; (refine (low_any gb (a0 / 256 ^ i) _ HA0.out HBX.out).mono ?_); rintro e w4 ⟨rfl, hw4⟩; have HBX4 := Aside0.mk (show w4.heap[gb]? = some (.cells #[.int .u64 (a0 / 256 ^ i / 256)] 95 (0, 0)) by rw [← hw4]; exact blk_put HBX.out 0 _ rfl); have HB4 := Aside0.mk (show Below w.heap.size w w4 by rw [← hw4]; exact below_set HB.out HG.out); have HO4 := Aside0.mk (show Kd.R (Kd.int .u8) 5 w4 w.heap.size (fun k => k ≠ gb) (.slice (some ⟨gs, 0, none⟩) n cs) (List.replicate (n - i) 0 ++ be i a0) by rw [← hw4]; exact Kd.R_far HO.out (fun _ hk => hk) _); clear hw4; obtain ⟨hx4, hf4⟩ := Kd.R_celln 0 HO4.out ((n - 1 - i : Nat) : Int) (by omega) (by omega); simp only [Int.toNat_natCast] at hx4 hf4)
   go_roundg k1
   case measure => omega
   case rel =>
    have hp4 := (Kd.R_putg HO4.out ((n - 1 - i : Nat) : Int) (a0 / 256 ^ i % 256)).1
    simp only [Int.toNat_natCast] at hp4
    refine ⟨i + 1, by simp, ⟨by have := HI.out; omega⟩, ⟨?_⟩, ⟨?_⟩, ⟨below_set HB4.out HGS.out⟩⟩
    ·rw [show n - i = (n - 1 - i) + 1 by omega, be_set, show n - 1 - i = n - (i + 1) by omega] at hp4
     rw [be_cons, show n - 1 - i = n - (i + 1) by omega]
     exact hp4
    ·rw [Int.pow_succ, ← Int.ediv_ediv_of_nonneg (Int.pow_nonneg (by decide))]
     exact blk_far HBX4.out (fun e => HNE.out e.symm) _
def wire_number.f (l : List Int) (a n : Int) : Option (Int × Int × Int) := if l.length ≤ 1000000000000 ∧ 0 ≤ n ∧ n ≤ 8 ∧ ∀ x ∈ l, 0 ≤ x ∧ x ≤ 255 then some (numSpec l a n) else none
theorem number_mid (t e : Nat) {P : Program} (ht : P.underlying t = some (.slice e)) {z : Value} (hinfo : (P.info? e).map (fun i => (i.zero, i.size, i.bytes)) = some (some z, 1, 1)) (A : Option Addr) (c : Nat) (l : List Int) (a : Int) (n : Nat) (h0 : 0 ≤ a) (h1 : a + n ≤ l.length) (hc : l.length ≤ c) (w : World) (hr : Kd.C (Kd.int .u8) w A l.length l) :
  ∃ A1, (∀ W : World, (Instr.slice t (.slice A l.length c) (some (.int .i64 a)) (some (.int .i64 (a + n))) none).run P W = .ok (.slice A1 n (c - a.toNat)) W) ∧ Kd.C (Kd.int .u8) w A1 n ((l.drop a.toNat).take n) := by
 obtain ⟨i0, hi, _, hs, _⟩ := info_parts hinfo
 obtain ⟨A1, hcut, hA, hC⟩ := print_mid_of (P := P) (Value.int .u8) 0 t e .i64 .i64 ht hi hs A c l a (a + n) h0 (by omega) h1 hc
 have hm : (l.take (a + n).toNat).drop a.toNat = (l.drop a.toNat).take n := by rw [List.drop_take, show (a + n).toNat - a.toNat = n by omega]
 have hl : ((l.drop a.toNat).take n).length = n := by rw [List.length_take, List.length_drop]; omega
 rw [hm] at hcut hA
 rw [hl] at hcut hA
 exact ⟨A1, hcut, Kd.C_of_reads (h1 := fun _ => rfl) (hA w (Kd.reads_of_C hr))⟩
theorem wire_number.drawn (A0 : Option Addr) (c0 : Nat) (l0 : List Int) (a1 : Int) (a2 : Int) (r1 : Int) (r2 : Int) (r3 : Int) (w : World) (hr0 : Kd.C (Kd.int .u8) w A0 l0.length l0) (hc0 : l0.length ≤ c0) (h : wire_number.f l0 a1 a2 = some (r1, r2, r3)) :
  Calls Try.prog 41 #[.slice A0 l0.length c0, .int .i64 a1, .int .i64 a2] w fun e w' => e = .returned (.tuple #[.int .u64 r1, .int .i64 r2, .int .i64 r3]) ∧ Drawn0 w w' := by
 obtain ⟨hl, hn0, hn8, hB, hs⟩ : l0.length ≤ 1000000000000 ∧ 0 ≤ a2 ∧ a2 ≤ 8 ∧ Bytes l0 ∧ numSpec l0 a1 a2 = (r1, r2, r3) := by
  unfold wire_number.f at h
  split at h
  ·rename_i hc
   exact ⟨hc.1, hc.2.1, hc.2.2.1, hc.2.2.2, Option.some.inj h⟩
  ·exact absurd h (by simp)
 clear h
 have HL := Aside0.mk hl
 have HB := Aside0.mk hB
 clear hl hB
 by_cases c1 : a1 < 0
 ·rw [numSpec, if_pos (.inl c1)] at hs
  simp only [Prod.mk.injEq] at hs
  obtain ⟨rfl, rfl, rfl⟩ := hs
  have b1 : decide (a1 < 0) = true := decide_eq_true c1
  clear hn0 hn8
  go_enter Try.func41, Try.ntmps41
  go_wp2
  go_ret3
  exact ⟨rfl, Drawn0.refl _⟩
 have b1 : decide (a1 < 0) = false := decide_eq_false c1
 by_cases c2 : (l0.length : Int) < a1
 ·rw [numSpec, if_pos (.inr c2)] at hs
  simp only [Prod.mk.injEq] at hs
  obtain ⟨rfl, rfl, rfl⟩ := hs
  have b2 : decide ((l0.length : Int) < a1) = true := decide_eq_true c2
  clear hn0 hn8 c1
  go_enter Try.func41, Try.ntmps41
  go_wp2
  go_ret3
  exact ⟨rfl, Drawn0.refl _⟩
 have b2 : decide ((l0.length : Int) < a1) = false := decide_eq_false c2
 rw [numSpec, if_neg (by omega)] at hs
 have hll := HL.out
 have d0 : 0 ≤ (l0.length : Int) - a1 := by omega
 have d1 : (l0.length : Int) - a1 ≤ 1000000000000 := by omega
 by_cases c3 : (l0.length : Int) - a1 < a2
 ·rw [if_pos c3] at hs
  simp only [Prod.mk.injEq] at hs
  obtain ⟨rfl, rfl, rfl⟩ := hs
  have b3 : decide ((l0.length : Int) - a1 < a2) = true := decide_eq_true c3
  go_enter Try.func41, Try.ntmps41
  go_wp2
  go_ret3
  exact ⟨rfl, Drawn0.refl _⟩
 have b3 : decide ((l0.length : Int) - a1 < a2) = false := decide_eq_false c3
 rw [if_neg c3] at hs
 simp only [Prod.mk.injEq] at hs
 obtain ⟨rfl, rfl, rfl⟩ := hs
 obtain ⟨n, rfl⟩ := Int.eq_ofNat_of_zero_le hn0
 simp only [Int.toNat_natCast]
 obtain ⟨A1, hcut, hC⟩ := number_mid 26 5 Try.underlying26 info5 A0 c0 l0 a1 n (by omega) (by omega) hc0 w hr0
 obtain ⟨m, hm⟩ : ∃ m, m = (l0.drop a1.toNat).take n := ⟨_, rfl⟩
 rw [← hm] at hC ⊢
 have HM := Aside0.mk (show m.length = n ∧ Bytes m by rw [hm]; exact ⟨by rw [List.length_take, List.length_drop]; omega, (HB.out.drop _).take _⟩)
 have HC := Aside0.mk hC
 have s0 : 0 ≤ a1 + (n : Int) := by omega
 have s1 : a1 + (n : Int) ≤ 2000000000000 := by omega
 have s2 : (n : Int) ≤ 8 := by omega
 clear hm hC hr0 hc0 HB hll hn0 c3 c1 c2 HL
 go_enter Try.func41, Try.ntmps41
 go_wp2
 clear d0 d1 b1 b2 b3 hcut
 go_loopg [9, 35] n (fun kq v9 v35 w' => ∃ (i : Nat), v9 = .int .u64 (bev (m.take i)) ∧ v35 = .int .i64 i ∧ Aside0 (i + kq = n) ∧ Drawn0 w w')
 case atStart => exact ⟨0, by simp [bev_nil], by simp, ⟨by omega⟩, Drawn0.refl _⟩
 case round =>
  obtain ⟨i, rfl, rfl, HI, ⟨nd, rfl⟩⟩ := hrel
  cases gk with
  | zero =>
   have hi : i = n := by have := HI.out; omega
   subst hi
   go_wp2
   go_ret3
   refine ⟨?_, by repeat (first | exact Drawn0.refl _ | apply Drawn0.step)⟩
   rw [List.take_of_length_le (by rw [HM.out.1]; exact Nat.le_refl _)]
   rfl
  | succ k1 =>
   have hlt : i < n := by have := HI.out; omega
   obtain ⟨ad, hA, hcell⟩ := Kd.at_int HC.out (i : Int) (by omega) (by omega)
   cases hA
   simp only [Int.toNat_natCast] at hcell
   go_wp2
   go_roundg k1
   case measure => omega
   case rel =>
    have hr := bev_range (m.take i) (HM.out.2.take i)
    have hb := rd_byte m HM.out.2 i
    have hml := HM.out.1
    have hp : (256 : Int) ^ (m.take i).length ≤ 256 ^ 7 := pow256_le _ _ (by rw [List.length_take]; omega)
    have h7 : (256 : Int) ^ 7 = 72057594037927936 := by decide
    refine ⟨i + 1, ?_, by simp, ⟨by have := HI.out; omega⟩, by repeat (first | exact Drawn0.refl _ | apply Drawn0.step)⟩
    rw [or_byte _ _ hr.1 (by omega) hb.1 hb.2, ← take_bev m i (by omega)]
theorem wire_number.calls (A0 : Option Addr) (c0 : Nat) (l0 : List Int) (a1 : Int) (a2 : Int) (r1 : Int) (r2 : Int) (r3 : Int) (w : World) (hr0 : Kd.C (Kd.int .u8) w A0 l0.length l0) (hc0 : l0.length ≤ c0) (h : wire_number.f l0 a1 a2 = some (r1, r2, r3)) :
  Calls Try.prog 41 #[.slice A0 l0.length c0, .int .i64 a1, .int .i64 a2] w fun e w' => e = .returned (.tuple #[.int .u64 r1, .int .i64 r2, .int .i64 r3]) ∧ Below w.heap.size w w' :=
 (wire_number.drawn A0 c0 l0 a1 a2 r1 r2 r3 w hr0 hc0 h).mono fun _ _ ⟨he, hd⟩ => ⟨he, hd.below⟩
end Go.Proofs.Ytfigbjjaffkidaa.P
namespace Go.Proofs.Ytfigbjjaffkidaa.P
open Go.RowKit YtfigbjjaffkidaaW.PrintWords YtfigbjjaffkidaaW.PrintLast YtfigbjjaffkidaaW.PrintMore
open YtfigbjjaffkidaaW.PrintWords renaming below_alloc → YA, pw_below_drewN → YB, below_drew1 → YC, below_step → YD, blk_cell → YE, blk_frozen → YF
open YtfigbjjaffkidaaW.PrintWords.Aside0 renaming mk → YG
attribute [local go_sem] max2_int min2_int max_two min_two max_three min_three max_four min_four
def batch_wrong.f (k : Nat) (a0_0 : Int) (a0_1 : Int) (a0_2 : Bool) (a0_3 : Int) (a0_4 : Int) (a0_5 : Int) (a0_6 : Int) (a0_7 : Int) (a0_8 : Int) (a0_9 : Int) (a0_10 : Int) (a0_11 : Int) : Option (Bool) := (object_Check.f k a0_0 a0_1 a0_2 a0_3 a0_4 a0_5 a0_6 a0_7 a0_8 a0_9 a0_10 a0_11).bind fun t128 => (some (t128 != 0))
theorem batch_wrong.mono : ∀ a0 a1 a2 a3 a4 a5 a6 a7 a8 a9 a10 a11 k, LeO (batch_wrong.f k a0 a1 a2 a3 a4 a5 a6 a7 a8 a9 a10 a11) (batch_wrong.f (k + 1) a0 a1 a2 a3 a4 a5 a6 a7 a8 a9 a10 a11) := by
 intro a0 a1 a2 a3 a4 a5 a6 a7 a8 a9 a10 a11 k
 unfold batch_wrong.f
 repeat' first
   | (with_reducible exact object_Check.mono _ _ _ _ _ _ _ _ _ _ _ _ _)
   | (with_reducible exact LeO.refl _)
   | (with_reducible exact LeO.none _)
   | (with_reducible refine LeO.ite ?_ ?_)
   | (with_reducible refine LeO.bind ?_ (fun _ => ?_))
   | exact object_Check.mono _ _ _ _ _ _ _ _ _ _ _ _ _
   | exact LeO.none _
   | refine LeO.ite ?_ ?_
   | refine LeO.bind ?_ (fun _ => ?_)
theorem batch_wrong.calls (k : Nat) (a0_0 : Int) (a0_1 : Int) (a0_2 : Bool) (a0_3 : Int) (a0_4 : Int) (a0_5 : Int) (a0_6 : Int) (a0_7 : Int) (a0_8 : Int) (a0_9 : Int) (a0_10 : Int) (a0_11 : Int) (r : Bool) (w : World) (h : batch_wrong.f k a0_0 a0_1 a0_2 a0_3 a0_4 a0_5 a0_6 a0_7 a0_8 a0_9 a0_10 a0_11 = some r) :
  Calls Try.prog 26 #[.agg #[.int .i64 a0_0, .int .i64 a0_1, .bool a0_2, .int .i64 a0_3, .int .i64 a0_4, .int .i64 a0_5, .int .i64 a0_6, .int .i64 a0_7, .int .i64 a0_8, .int .i64 a0_9, .int .i64 a0_10, .int .i64 a0_11]] w fun e w' => e = .returned (.bool r) ∧ Below w.heap.size w w' := by
 have hu45 := Try.underlying45
 have HB := YG (Below.refl w.heap.size w)
 have H : ((object_Check.f k a0_0 a0_1 a0_2 a0_3 a0_4 a0_5 a0_6 a0_7 a0_8 a0_9 a0_10 a0_11).bind fun t128 => (some (t128 != 0))) = some r := h
 clear h; replace H := Option.bind_eq_some_iff.mp H; obtain ⟨t128, A20, H⟩ := H
 replace H : (some (t128 != 0)) = some r := H
 have A2 := YG A20; clear A20
 obtain rfl := Option.some.inj H
 go_enter Try.func26, Try.ntmps26
 go_wp2_with (first | ((with_reducible refine gate_dst (N := 1) rfl ?_); refine box_event ?hg (N := 1) ?hd (cs := #[.int .i64 a0_0, .int .i64 a0_1, .bool a0_2, .int .i64 a0_3, .int .i64 a0_4, .int .i64 a0_5, .int .i64 a0_6, .int .i64 a0_7, .int .i64 a0_8, .int .i64 a0_9, .int .i64 a0_10, .int .i64 a0_11]) (t := 45) ?hr ?_; (case hd => rfl); (case hg => rfl); (case hr => first | (go_simp; done) | (go_simp; rfl)); intro gb127 hg w3 hbox hb; have n0_ := YG (YD (upB HB) hb); have n1_ := YG (hbox); have n2_ := YG ((by rw [hg]; exact (below_size (upB HB)) : w.heap.size ≤ gb127)); have n3_ := YG ((by rw [hg]; exact (below_size (upB HB)) : w.heap.size ≤ gb127)); clear HB; have HB := n0_; have BK127 := n1_; have GW127 := n2_; have GE127 := n3_; clear n0_ n1_ n2_ n3_; clear hb hbox hg; have q4_0 : w3.cell? ⟨gb127, 0, none⟩ = some (.int .i64 a0_0) := (YE BK127.out 0).trans rfl; have q4_1 : w3.cell? ⟨gb127, 1, none⟩ = some (.int .i64 a0_1) := (YE BK127.out 1).trans rfl; have q4_2 : w3.cell? ⟨gb127, 2, none⟩ = some (.bool a0_2) := (YE BK127.out 2).trans rfl; have q4_3 : w3.cell? ⟨gb127, 3, none⟩ = some (.int .i64 a0_3) := (YE BK127.out 3).trans rfl; have q4_4 : w3.cell? ⟨gb127, 4, none⟩ = some (.int .i64 a0_4) := (YE BK127.out 4).trans rfl; have q4_5 : w3.cell? ⟨gb127, 5, none⟩ = some (.int .i64 a0_5) := (YE BK127.out 5).trans rfl; have q4_6 : w3.cell? ⟨gb127, 6, none⟩ = some (.int .i64 a0_6) := (YE BK127.out 6).trans rfl; have q4_7 : w3.cell? ⟨gb127, 7, none⟩ = some (.int .i64 a0_7) := (YE BK127.out 7).trans rfl; have q4_8 : w3.cell? ⟨gb127, 8, none⟩ = some (.int .i64 a0_8) := (YE BK127.out 8).trans rfl; have q4_9 : w3.cell? ⟨gb127, 9, none⟩ = some (.int .i64 a0_9) := (YE BK127.out 9).trans rfl; have q4_10 : w3.cell? ⟨gb127, 10, none⟩ = some (.int .i64 a0_10) := (YE BK127.out 10).trans rfl; have q4_11 : w3.cell? ⟨gb127, 11, none⟩ = some (.int .i64 a0_11) := (YE BK127.out 11).trans rfl; have f4_0 := YF BK127.out 0; have f4_1 := YF BK127.out 1; have f4_2 := YF BK127.out 2; have f4_3 := YF BK127.out 3; have f4_4 := YF BK127.out 4; have f4_5 := YF BK127.out 5; have f4_6 := YF BK127.out 6; have f4_7 := YF BK127.out 7; have f4_8 := YF BK127.out 8; have f4_9 := YF BK127.out 9; have f4_10 := YF BK127.out 10; have f4_11 := YF BK127.out 11) | ((with_reducible refine gate_callee (f := 34) rfl ?_); refine goesA (some 4) Try.func34 #[.agg #[.int .i64 a0_0, .int .i64 a0_1, .bool a0_2, .int .i64 a0_3, .int .i64 a0_4, .int .i64 a0_5, .int .i64 a0_6, .int .i64 a0_7, .int .i64 a0_8, .int .i64 a0_9, .int .i64 a0_10, .int .i64 a0_11]] ?_; (with_reducible refine (object_Check.calls k a0_0 a0_1 a0_2 a0_3 a0_4 a0_5 a0_6 a0_7 a0_8 a0_9 a0_10 a0_11 t128 _ A2.out).mono ?_); rintro e w5 ⟨rfl, hb⟩; refine ⟨_, rfl, ?_⟩; have n0_ := YG (blk_below (g := gb127) (o := .cells #[.int .i64 a0_0, .int .i64 a0_1, .bool a0_2, .int .i64 a0_3, .int .i64 a0_4, .int .i64 a0_5, .int .i64 a0_6, .int .i64 a0_7, .int .i64 a0_8, .int .i64 a0_9, .int .i64 a0_10, .int .i64 a0_11] 45 (0, 0)) (upK BK127) hb); have n1_ := YG (YD (upB HB) hb); clear BK127; clear HB; have BK127 := n0_; have HB := n1_; clear n0_ n1_; (try clear hb); (try clear hb2); (try clear hk); (try clear hi)))
 go_ret
 exact ⟨by first | rfl | (simp [errW_none, errW_some] <;> rfl) | (simp [*, errW_none, errW_some] <;> rfl), by repeat (first | (with_reducible first | exact HB.out | apply YA | apply YB | apply YC | refine below_set ?_ GE127.out) | exact HB.out)⟩
def api_Object_40.l0 : Nat → List (S45) → Int → Int → Option (Int)
 | 0, _, _, _ => none
 | k + 1, x0, x7, x8 => if x8 < x7 then (if 0 ≤ x8 then (if x8 < (x0.length : Int) then ((batch_wrong.f k ((rd_T45 x0 x8).f0) ((rd_T45 x0 x8).f1) ((rd_T45 x0 x8).f2.f0) ((rd_T45 x0 x8).f2.f1) ((rd_T45 x0 x8).f2.f2) ((rd_T45 x0 x8).f2.f3) ((rd_T45 x0 x8).f2.f4) ((rd_T45 x0 x8).f2.f5) ((rd_T45 x0 x8).f3.f0) ((rd_T45 x0 x8).f3.f1) ((rd_T45 x0 x8).f3.f2) ((rd_T45 x0 x8).f4)).bind fun t130 => (if t130 = true then (some x8) else (api_Object_40.l0 k x0 x7 (wrap64 (x8 + 1))))) else (none)) else (none)) else (some (-1))
def api_Object_40.f (k : Nat) (l0 : List (S45))  : Option (Int) := api_Object_40.l0 k l0 (l0.length : Int) 0
theorem api_Object_40.mono_l : ∀ k, (∀ y0 y1 y2, LeO (api_Object_40.l0 k y0 y1 y2) (api_Object_40.l0 (k + 1) y0 y1 y2))
 | 0 => fun _ _ _ r h => by simp [api_Object_40.l0] at h
 | k + 1 => by
  have ih0 := api_Object_40.mono_l k
  ·intro y0 y1 y2
   unfold api_Object_40.l0
   repeat' first
   | (with_reducible exact ih0 _ _ _)
   | (with_reducible exact batch_wrong.mono _ _ _ _ _ _ _ _ _ _ _ _ _)
   | (with_reducible exact LeO.refl _)
   | (with_reducible exact LeO.none _)
   | (with_reducible refine LeO.ite ?_ ?_)
   | (with_reducible refine LeO.bind ?_ (fun _ => ?_))
   | exact ih0 _ _ _
   | exact batch_wrong.mono _ _ _ _ _ _ _ _ _ _ _ _ _
   | exact LeO.none _
   | refine LeO.ite ?_ ?_
   | refine LeO.bind ?_ (fun _ => ?_)
theorem api_Object_40.mono : ∀ a0 k, LeO (api_Object_40.f k a0) (api_Object_40.f (k + 1) a0) := by
 intro a0 k
 have ih0 := api_Object_40.mono_l k
 unfold api_Object_40.f
 repeat' first
   | (with_reducible exact ih0 _ _ _)
   | (with_reducible exact batch_wrong.mono _ _ _ _ _ _ _ _ _ _ _ _ _)
   | (with_reducible exact LeO.refl _)
   | (with_reducible exact LeO.none _)
   | (with_reducible refine LeO.ite ?_ ?_)
   | (with_reducible refine LeO.bind ?_ (fun _ => ?_))
   | exact ih0 _ _ _
   | exact batch_wrong.mono _ _ _ _ _ _ _ _ _ _ _ _ _
   | exact LeO.none _
   | refine LeO.ite ?_ ?_
   | refine LeO.bind ?_ (fun _ => ?_)
theorem api_Object_40.calls (k : Nat) (A0 : Option Addr) (c0 : Nat) (l0 : List (S45))  (r : Int) (w : World) (hr0 : Kd.C k45 w A0 l0.length l0) (hc0 : l0.length ≤ c0) (h : api_Object_40.f k l0 = some r) :
  Calls Try.prog 40 #[.slice A0 l0.length c0, .func (Fn.func 26) #[] #[]] w fun e w' => e = .returned (.int .i64 r) ∧ Below w.heap.size w w' := by
 have hu45 := Try.underlying45
 have HR0 := YG hr0; have HC0 := YG hc0; clear hr0 hc0
 have HB := YG (Below.refl w.heap.size w)
 have H : (api_Object_40.l0 k l0 (l0.length : Int) 0) = some r := h
 clear h
 have H' := YG H
 clear H
 go_enter Try.func40, Try.ntmps40
 go_wp2
 go_loopg [8] k (fun kq v8 w' => ∃ (x8_1 : Int), v8 = .int .i64 x8_1 ∧ Aside0 (api_Object_40.l0 kq l0 (l0.length : Int) x8_1 = some r) ∧ Aside0 (kq ≤ k) ∧ Aside0 (Below w.heap.size w w'))
 case atStart => exact ⟨(0), (by first | rfl | (simp; done) | (simp [*]; done)), H', ⟨Nat.le_refl _⟩, ⟨by repeat (first | (with_reducible first | exact HB.out | apply YA | apply YB | apply YC) | exact HB.out)⟩⟩
 case round =>
  clear H'
  try clear p2
  obtain ⟨x8_1, rfl, HA, HK1, HB⟩ := hrel
  cases gk with
  | zero => exact absurd HA.out (by simp [api_Object_40.l0])
  | succ k1 =>
   have H := HA.out
   clear HA
   simp only [api_Object_40.l0] at H
   by_cases c3 : x8_1 < (l0.length : Int)
   ·rw [if_pos c3] at H
    have c3b0 : decide (x8_1 < (l0.length : Int)) = true := decide_eq_true c3
    clear c3
    by_cases c4 : 0 ≤ x8_1
    rotate_left
    ·rw [if_neg c4] at H
     exact absurd H (by simp)
    rw [if_pos c4] at H; have c4b0 : decide (0 ≤ x8_1) = true := decide_eq_true c4; clear c4
    by_cases c5 : x8_1 < (l0.length : Int)
    rotate_left
    ·rw [if_neg c5] at H
     exact absurd H (by simp)
    rw [if_pos c5] at H
    have c5b0 : decide (x8_1 < (l0.length : Int)) = true := decide_eq_true c5
    clear c5; replace H := Option.bind_eq_some_iff.mp H; obtain ⟨t130, A60, H⟩ := H
    replace H : (if t130 = true then (some x8_1) else (api_Object_40.l0 k1 l0 (l0.length : Int) (wrap64 (x8_1 + 1)))) = some r := H
    have A6 := YG A60; clear A60
    by_cases c7 : t130 = true
    ·subst c7
     have H1 : (some x8_1) = some r := by rw [if_pos rfl] at H; exact H
     clear H
     have H := H1
     clear H1
     obtain rfl := Option.some.inj H
     have p129 : 0 ≤ (x8_1 : Int) := of_decide_eq_true (by first | (with_reducible assumption) | assumption)
     have q129 : x8_1 < (l0.length : Int) := of_decide_eq_true (by first | (with_reducible assumption) | assumption)
     obtain ⟨ad129, e129, hx129_0, hx129_1, hx129_2, hx129_3, hx129_4, hx129_5, hx129_6, hx129_7, hx129_8, hx129_9, hx129_10, hx129_11⟩ := at_T45 HR0.out x8_1 p129 q129
     cases e129
     replace hx129_0 := (HB.out.cell (World.block_lt_of_cell? w _ hx129_0)).trans hx129_0
     replace hx129_1 := (HB.out.cell (World.block_lt_of_cell? w _ hx129_1)).trans hx129_1
     replace hx129_2 := (HB.out.cell (World.block_lt_of_cell? w _ hx129_2)).trans hx129_2
     replace hx129_3 := (HB.out.cell (World.block_lt_of_cell? w _ hx129_3)).trans hx129_3
     replace hx129_4 := (HB.out.cell (World.block_lt_of_cell? w _ hx129_4)).trans hx129_4
     replace hx129_5 := (HB.out.cell (World.block_lt_of_cell? w _ hx129_5)).trans hx129_5
     replace hx129_6 := (HB.out.cell (World.block_lt_of_cell? w _ hx129_6)).trans hx129_6
     replace hx129_7 := (HB.out.cell (World.block_lt_of_cell? w _ hx129_7)).trans hx129_7
     replace hx129_8 := (HB.out.cell (World.block_lt_of_cell? w _ hx129_8)).trans hx129_8
     replace hx129_9 := (HB.out.cell (World.block_lt_of_cell? w _ hx129_9)).trans hx129_9
     replace hx129_10 := (HB.out.cell (World.block_lt_of_cell? w _ hx129_10)).trans hx129_10
     replace hx129_11 := (HB.out.cell (World.block_lt_of_cell? w _ hx129_11)).trans hx129_11
     replace p129 := eq_true p129
     replace q129 := eq_true q129
     go_wp2_with (first | (go_at_call 26; (with_reducible refine (batch_wrong.calls k1 ((rd_T45 l0 x8_1).f0) ((rd_T45 l0 x8_1).f1) ((rd_T45 l0 x8_1).f2.f0) ((rd_T45 l0 x8_1).f2.f1) ((rd_T45 l0 x8_1).f2.f2) ((rd_T45 l0 x8_1).f2.f3) ((rd_T45 l0 x8_1).f2.f4) ((rd_T45 l0 x8_1).f2.f5) ((rd_T45 l0 x8_1).f3.f0) ((rd_T45 l0 x8_1).f3.f1) ((rd_T45 l0 x8_1).f3.f2) ((rd_T45 l0 x8_1).f4) true _ A6.out).mono ?_); rintro e w8 ⟨rfl, hb⟩; have n0_ := YG (YD (upB HB) hb); clear HB; have HB := n0_; clear n0_; (try clear hb); (try clear hb2); (try clear hk); (try clear hi)))
     go_ret
     exact ⟨by first | rfl | (simp [errW_none, errW_some] <;> rfl) | (simp [*, errW_none, errW_some] <;> rfl), by repeat (first | (with_reducible first | exact HB.out | apply YA | apply YB | apply YC) | exact HB.out)⟩
    replace c7 := Bool.eq_false_iff.mpr c7
    subst c7
    have H1 : (api_Object_40.l0 k1 l0 (l0.length : Int) (wrap64 (x8_1 + 1))) = some r := by rw [if_neg (show ¬ (false = true) by decide)] at H; exact H
    clear H
    have H := H1
    clear H1
    have H' := YG H
    clear H
    have p129 : 0 ≤ (x8_1 : Int) := of_decide_eq_true (by first | (with_reducible assumption) | assumption)
    have q129 : x8_1 < (l0.length : Int) := of_decide_eq_true (by first | (with_reducible assumption) | assumption)
    obtain ⟨ad129, e129, hx129_0, hx129_1, hx129_2, hx129_3, hx129_4, hx129_5, hx129_6, hx129_7, hx129_8, hx129_9, hx129_10, hx129_11⟩ := at_T45 HR0.out x8_1 p129 q129
    cases e129
    replace hx129_0 := (HB.out.cell (World.block_lt_of_cell? w _ hx129_0)).trans hx129_0
    replace hx129_1 := (HB.out.cell (World.block_lt_of_cell? w _ hx129_1)).trans hx129_1
    replace hx129_2 := (HB.out.cell (World.block_lt_of_cell? w _ hx129_2)).trans hx129_2
    replace hx129_3 := (HB.out.cell (World.block_lt_of_cell? w _ hx129_3)).trans hx129_3
    replace hx129_4 := (HB.out.cell (World.block_lt_of_cell? w _ hx129_4)).trans hx129_4
    replace hx129_5 := (HB.out.cell (World.block_lt_of_cell? w _ hx129_5)).trans hx129_5
    replace hx129_6 := (HB.out.cell (World.block_lt_of_cell? w _ hx129_6)).trans hx129_6
    replace hx129_7 := (HB.out.cell (World.block_lt_of_cell? w _ hx129_7)).trans hx129_7
    replace hx129_8 := (HB.out.cell (World.block_lt_of_cell? w _ hx129_8)).trans hx129_8
    replace hx129_9 := (HB.out.cell (World.block_lt_of_cell? w _ hx129_9)).trans hx129_9
    replace hx129_10 := (HB.out.cell (World.block_lt_of_cell? w _ hx129_10)).trans hx129_10
    replace hx129_11 := (HB.out.cell (World.block_lt_of_cell? w _ hx129_11)).trans hx129_11
    replace p129 := eq_true p129
    replace q129 := eq_true q129
    go_wp2_with (first | (go_at_call 26; (with_reducible refine (batch_wrong.calls k1 ((rd_T45 l0 x8_1).f0) ((rd_T45 l0 x8_1).f1) ((rd_T45 l0 x8_1).f2.f0) ((rd_T45 l0 x8_1).f2.f1) ((rd_T45 l0 x8_1).f2.f2) ((rd_T45 l0 x8_1).f2.f3) ((rd_T45 l0 x8_1).f2.f4) ((rd_T45 l0 x8_1).f2.f5) ((rd_T45 l0 x8_1).f3.f0) ((rd_T45 l0 x8_1).f3.f1) ((rd_T45 l0 x8_1).f3.f2) ((rd_T45 l0 x8_1).f4) false _ A6.out).mono ?_); rintro e w9 ⟨rfl, hb⟩; have n0_ := YG (YD (upB HB) hb); clear HB; have HB := n0_; clear n0_; (try clear hb); (try clear hb2); (try clear hk); (try clear hi)))
    go_roundg k1
    case measure => have := HK1.out; omega
    case rel => exact ⟨(wrap64 (x8_1 + 1)), (by first | rfl | (simp; done) | (simp [*]; done)), H', ⟨by have := HK1.out; omega⟩, ⟨by repeat (first | (with_reducible first | exact HB.out | apply YA | apply YB | apply YC) | exact HB.out)⟩⟩
   rw [if_neg c3] at H
   have c3b0 : decide (x8_1 < (l0.length : Int)) = false := decide_eq_false c3
   clear c3
   obtain rfl := Option.some.inj H
   go_wp2
   go_ret
   exact ⟨by first | rfl | (simp [errW_none, errW_some] <;> rfl) | (simp [*, errW_none, errW_some] <;> rfl), by repeat (first | (with_reducible first | exact HB.out | apply YA | apply YB | apply YC) | exact HB.out)⟩
def api_Object_25.f (k : Nat) (l0 : List (S45))  : Option (Bool) := (api_Object_40.f k l0).bind fun t131 => (some (decide (t131 ≥ 0)))
theorem api_Object_25.mono : ∀ a0 k, LeO (api_Object_25.f k a0) (api_Object_25.f (k + 1) a0) := by
 intro a0 k
 unfold api_Object_25.f
 repeat' first
   | (with_reducible exact api_Object_40.mono _ _)
   | (with_reducible exact LeO.refl _)
   | (with_reducible exact LeO.none _)
   | (with_reducible refine LeO.ite ?_ ?_)
   | (with_reducible refine LeO.bind ?_ (fun _ => ?_))
   | exact api_Object_40.mono _ _
   | exact LeO.none _
   | refine LeO.ite ?_ ?_
   | refine LeO.bind ?_ (fun _ => ?_)
theorem api_Object_25.calls (k : Nat) (A0 : Option Addr) (c0 : Nat) (l0 : List (S45))  (r : Bool) (w : World) (hr0 : Kd.C k45 w A0 l0.length l0) (hc0 : l0.length ≤ c0) (h : api_Object_25.f k l0 = some r) :
  Calls Try.prog 25 #[.slice A0 l0.length c0, .func (Fn.func 26) #[] #[]] w fun e w' => e = .returned (.bool r) ∧ Below w.heap.size w w' := by
 have HR0 := YG hr0; have HC0 := YG hc0; clear hr0 hc0
 have HB := YG (Below.refl w.heap.size w)
 have H : ((api_Object_40.f k l0).bind fun t131 => (some (decide (t131 ≥ 0)))) = some r := h
 clear h; replace H := Option.bind_eq_some_iff.mp H; obtain ⟨t131, A30, H⟩ := H
 replace H : (some (decide (t131 ≥ 0))) = some r := H
 have A3 := YG A30; clear A30
 obtain rfl := Option.some.inj H
 go_enter Try.func25, Try.ntmps25
 go_wp2_with (first | ((with_reducible refine gate_callee (f := 40) rfl ?_); refine goesA (some 7) Try.func40 #[.slice A0 l0.length c0, .func (Fn.func 26) #[] #[]] ?_; (with_reducible refine (api_Object_40.calls k _ _ l0  t131 _ ?side1 ?side2 A3.out).mono ?_); (case side1 => repeat (first | exact HR0.out | (with_reducible refine Kd.C_alloc ?_ _) | (with_reducible refine Kd.C_drewN ?_ _) | (with_reducible refine Kd.C_drew ?_))); (case side2 => exact HC0.out); rintro e w4 ⟨rfl, hb⟩; refine ⟨_, rfl, ?_⟩; have n0_ := YG (YD (upB HB) hb); clear HB; have HB := n0_; clear n0_; (try clear hb); (try clear hb2); (try clear hk); (try clear hi)))
 go_ret
 exact ⟨by first | rfl | (simp [errW_none, errW_some] <;> rfl) | (simp [*, errW_none, errW_some] <;> rfl), by repeat (first | (with_reducible first | exact HB.out | apply YA | apply YB | apply YC) | exact HB.out)⟩
def wire_Int.f (a0 : Int) : Option (List Int) := (wire_bytes.f (IntKind.u64.wrap (a0)) 8).bind fun t132 => (some t132)
theorem wire_Int.calls (a0 : Int) (r : List Int) (w : World) (h : wire_Int.f a0 = some r) :
  Calls Try.prog 36 #[.int .i64 a0] w fun e w' => ∃ v0_ : Value, e = .returned (v0_) ∧ Kd.R (Kd.int .u8) 5 w' w.heap.size (fun _ => True) v0_ r ∧ Below w.heap.size w w' := by
 have HB := YG (Below.refl w.heap.size w)
 have H : ((wire_bytes.f (IntKind.u64.wrap (a0)) 8).bind fun t132 => (some t132)) = some r := h
 clear h; replace H := Option.bind_eq_some_iff.mp H; obtain ⟨t132, A20, H⟩ := H
 replace H : (some t132) = some r := H
 have A2 := YG A20; clear A20
 obtain rfl := Option.some.inj H
 go_enter Try.func36, Try.ntmps36
 go_wp2_with (first | ((with_reducible refine gate_callee (f := 46) rfl ?_); refine goesA (some 5) Try.func46 #[.int .u64 (IntKind.u64.wrap (a0)), .int .i64 8] ?_; (with_reducible refine (wire_bytes.calls (IntKind.u64.wrap (a0)) 8 t132 _ A2.out).mono ?_); rintro e w3 ⟨v133, rfl, ho0, hb⟩; refine ⟨_, rfl, ?_⟩; have n0_ := YG (Kd.R_lower ho0 (below_size (upB HB))); have n1_ := YG (YD (upB HB) hb); clear HB; have HO134 := n0_; have HB := n1_; clear n0_ n1_; (try clear hb); (try clear hb2); (try clear hk); (try clear hi); (try clear ho0)))
 go_ret
 exact ⟨_, by first | rfl | (simp [errW_none, errW_some] <;> rfl) | (simp [*, errW_none, errW_some] <;> rfl), by (with_reducible repeat (first | apply Kd.R_alloc | apply Kd.R_drewN | apply Kd.R_drew)); exact HO134.out, by repeat (first | (with_reducible first | exact HB.out | apply YA | apply YB | apply YC) | exact HB.out)⟩
end Go.Proofs.Ytfigbjjaffkidaa.P
