/- Walks. -/
import Derived.Test.YtclbempnhelmoaaXSenderDoesWWords
import Derived.Test.YtclbempnhelmoaaXSenderDoesWMore
import Derived.Test.YtclbempnhelmoaaProg
import Derived.Below
import Derived.Deep.Draws
import Derived.Deep.AppendLies
import Derived.Maps.AppendAt
import Derived.OwnWalk
import Derived.Laws.BytesArg
import Derived.Laws.MakeOwn
import Derived.Laws.OwnMore
import Derived.Deep.OwnRows
import Derived.Tactics
import Derived.Lib.ConvBytes
import Derived.Laws.Slices
import Derived.WalkKit
import Derived.KernelRfl
import Derived.RowKit3
import Derived.Deep.LoopGhost
import Derived.Deep.QuietTactic
import Derived.BigQuiet
import Derived.WideLaws
import Derived.Deep.DeepCutAuto
import Derived.Deep.CutBlock
import Derived.Deep.RegionHeld3
import Derived.Laws.Rows
import Derived.Lib.AppendStr
import Derived.ArgAppend
import Derived.Laws.IdiomCopy
import Derived.OrdersHeld
import Derived.Laws.BitsLemmas
import Derived.RowKit
import Derived.Test.YtclbempnhelmoaaXSenderDoesWLast
import Derived.Test.YtclbempnhelmoaaXSenderDoesWTab
import Derived.Test.YtclbempnhelmoaaXSenderDoesWFour
import Derived.Test.YtclbempnhelmoaaXSenderDoesWQPut
import Derived.Test.YtclbempnhelmoaaXSenderDoesWApart
import Derived.Test.YtclbempnhelmoaaXSenderDoesWArr
import Derived.Test.YtclbempnhelmoaaXSenderDoesWZeros
import Derived.Test.YtclbempnhelmoaaXSenderDoesWFoot
import Derived.Test.YtclbempnhelmoaaXSenderDoesWKept
import Derived.Test.YtclbempnhelmoaaXSenderDoesWShare
import Derived.Test.YtclbempnhelmoaaXSenderDoesWN
import Derived.Test.YtclbempnhelmoaaXSenderDoesWFootNe
import Derived.Test.YtclbempnhelmoaaXSenderDoesWAt
import Derived.Test.YtclbempnhelmoaaXSenderDoesWEqStruct
import Derived.Test.YtclbempnhelmoaaXSenderDoesWRepsOne
import Derived.Test.YtclbempnhelmoaaXSenderDoesWInv
import Derived.Test.YtclbempnhelmoaaXSenderDoesWInvWords
import Derived.Test.YtclbempnhelmoaaXSenderDoesWGuard
import Derived.Test.YtclbempnhelmoaaXSenderDoesWNEv
import Derived.Tactics2
import Derived.Laws.LoneSync
import Derived.Lib.SliceRun
import Derived.Laws.BitsAllLaws
import Derived.OpenShut
set_option linter.unusedVariables false
set_option linter.unusedSimpArgs false
set_option maxHeartbeats 8000000
set_option maxRecDepth 100000
namespace Go.Proofs.Ytclbempnhelmoaa.P
open Go.RowKit YtclbempnhelmoaaW.PrintWords YtclbempnhelmoaaW.PrintLast YtclbempnhelmoaaW.PrintMore
section
variable {P : Program} {ops : Array Oper} {Q : Exit → Act → World → Prop} {md : Region.Mode} {S : World → Prop} {ds : List Nat} {T : Bool × List (List Nat × List Nat)} {B : List Nat}
theorem pureA {i : Nat} {N : Option Tmp} {oi : Oper} {v : Value} {fuel : Nat} {l l' : Array Bool} {a a' : Act} {w : World} (HT : Aside0 (rtab md ops = T)) (h : wpAnyLast P md ops Q S ds fuel l' a' w)
    (hl : l.setIfInBounds i true = l' := by simp only [List.setIfInBounds_toArray, List.set_cons_zero, List.set_cons_succ]; rfl) (hi : ops[i]? = some oi := by rfl) (hN : oi.dst = N := by rfl) (hc : anyT T l.toList l'.toList i = true := by kernel_rfl)
    (hQ : ∀ c a w, Q (.panic c) (a.put oi.dst v) w → Q (.panic c) a w := by exact fun _ _ _ h => h) (hw : Region.wanted oi (yielded ops a.tmps) = true := by rfl) (hy : ∀ w', (execOp a.eval oi).run P w' = .ok (.value v) w' := by intro w'; go_simp; with_reducible rfl)
    (ha : a.put N v = a' := by simp only [Act.put, List.setIfInBounds_toArray, List.set_cons_zero, List.set_cons_succ, i64_w, i32_w]; rfl) : wpAnyLast P md ops Q S ds (fuel + 1) l a w :=
  pure_ l' hi hN (any_of HT.out hc) hQ (Or.inl ⟨hw, hy⟩) ha h
theorem pureN {i : Nat} {N : Option Tmp} {oi : Oper} {fuel : Nat} {l l' : Array Bool} {a a' : Act} {w : World} (HT : Aside0 (rtab md ops = T)) (h : wpAnyLast P md ops Q S ds fuel l' a' w)
    (hl : l.setIfInBounds i true = l' := by simp only [List.setIfInBounds_toArray, List.set_cons_zero, List.set_cons_succ]; rfl) (hi : ops[i]? = some oi := by rfl) (hN : oi.dst = N := by rfl) (hc : anyT T l.toList l'.toList i = true := by kernel_rfl)
    (hQ : ∀ c a w, Q (.panic c) (a.put oi.dst undef) w → Q (.panic c) a w := by exact fun _ _ _ h => h) (hw : Region.wanted oi (yielded ops a.tmps) = false := by rfl)
    (ha : a.put N undef = a' := by simp only [Act.put, List.setIfInBounds_toArray, List.set_cons_zero, List.set_cons_succ, i64_w, i32_w]; rfl) : wpAnyLast P md ops Q S ds (fuel + 1) l a w :=
  pure_ l' hi hN (any_of HT.out hc) hQ (Or.inr ⟨hw, rfl⟩) ha h
theorem takeA {i : Nat} {N : Option Tmp} {oi : Oper} {v : Value} {fuel : Nat} {l l' : Array Bool} {a a' : Act} {w : World} (HT : Aside0 (rtab md ops = T)) (HW : Aside0 (waitsOk T.2 B = true)) (hS : S w) (h : wpAnyLast P md ops Q S ds fuel l' a' w)
    (hl : l.setIfInBounds i true = l' := by simp only [List.setIfInBounds_toArray, List.set_cons_zero, List.set_cons_succ]; rfl) (hi : ops[i]? = some oi := by rfl) (hN : oi.dst = N := by rfl) (hc : takeW T B ds l.toList l'.toList i = true := by kernel_rfl)
    (hQ : ∀ c a w, Q (.panic c) (a.put oi.dst v) w → Q (.panic c) a w := by exact fun _ _ _ h => h) (hw : Region.wanted oi (yielded ops a.tmps) = true := by rfl) (hy : ∀ w', S w' → (execOp a.eval oi).run P w' = .ok (.value v) w' := by intro w' s; (repeat (obtain ⟨s0, s⟩ := s)); go_simp; with_reducible rfl)
    (ha : a.put N v = a' := by simp only [Act.put, List.setIfInBounds_toArray, List.set_cons_zero, List.set_cons_succ, i64_w, i32_w]; rfl) : wpAnyLast P md ops Q S ds (fuel + 1) l a w :=
  take_ l' hi hN (take_ofW HT.out HW.out hc) hQ (Or.inl ⟨hw, hy⟩) hS ha h
theorem oneA {i : Nat} {N : Option Tmp} {oi : Oper} {fuel : Nat} {l l' : Array Bool} {a : Act} {w : World} (HT : Aside0 (rtab md ops = T))
    (h : ∀ K : Act → World → Prop, Shut (∀ a' w', S w' → (S w' → wpAnyLast P md ops Q S ds fuel l' a' w') → K a' w') → if Region.wanted oi (yielded ops a.tmps) = true then Oper.wp P oi a w K Q else K (a.put N undef) w)
    (hl : l.setIfInBounds i true = l' := by simp only [List.setIfInBounds_toArray, List.set_cons_zero, List.set_cons_succ]; rfl) (hi : ops[i]? = some oi := by rfl) (hN : oi.dst = N := by rfl) (hc : (readyT T.2 l.toList == [i] && l.toList.set i true == l'.toList) = true := by kernel_rfl) (hd : i ∉ ds := by decide) :
    wpAnyLast P md ops Q S ds (fuel + 1) l a w := one_ l' hi hN (one_of HT.out hc) hd h
theorem normA {N : Tmp} {v : Value} {fuel : Nat} {l : Array Bool} {a a' : Act} {w : World} (h : wpAnyLast P md ops Q S ds fuel l a' w) (ha : a.put (some N) v = a' := by simp only [Act.put, List.setIfInBounds_toArray, List.set_cons_zero, List.set_cons_succ, i64_w, i32_w]; rfl) : wpAnyLast P md ops Q S ds fuel l (a.put (some N) v) w := norm_ ha h
theorem goesA {rest : List Oper} {oi : Oper} {a : Act} {w : World} (N : Option Tmp) {f : FuncId} {fn : Func} {as_ : Array Operand} {ts : Array TypeId} (hf : P.funcs[f]? = some fn) (args : Array Value)
    (h : Calls P f args w fun e w' => ∃ v, e = .returned v ∧ wpList P ops Q rest (a.put N v) w') (hd : oi.dst = N := by rfl) (hg : oi.guard = none := by rfl) (hname : (fn.name == "runtime.NumGoroutine") = false := by kernel_rfl) (hb : fn.body.isSome = true := by rfl)
    (hop : oi.op = .call { callee := .value (.func f), args := as_, argTypes := ts } := by rfl) (hargs : as_.map a.eval = args := by (try simp only [List.map_toArray, List.map_cons, List.map_nil]); first | done | rfl | (simp only [List.length_drop, List.length_take]; rfl)) :
    wpList P ops Q (oi :: rest) a w := goesL_ N hd hg hf hname hb args hop hargs h
end
theorem upV {p q : Prop} (h : Aside0 p) (e : p → q := by intro h_; (with_reducible repeat (first | apply Kd.V_alloc | apply Kd.V_drewN | apply Kd.V_drew)); exact h_) : q := e h.out
theorem upR {p q : Prop} (h : Aside0 p) (e : p → q := by intro h_; (with_reducible repeat (first | apply Kd.R_alloc | apply Kd.R_drewN | apply Kd.R_drew)); exact h_) : q := e h.out
theorem upN {p q : Prop} (h : Aside0 p) (e : p → q := by intro h_; (with_reducible repeat (first | apply Kd.N_alloc | apply Kd.N_drewN | apply Kd.N_drew)); exact h_) : q := e h.out
theorem upK {p q : Prop} (h : Aside0 p) (e : p → q := by intro h_; (with_reducible repeat (first | refine blk_drewN ?_ _ | refine blk_drew ?_ | refine blk_alloc ?_ _)); exact h_) : q := e h.out
theorem upB {p q : Prop} (h : Aside0 p) (e : p → q := by intro h_; repeat (first | (with_reducible first | exact h_ | apply below_alloc | apply pw_below_drewN | apply below_drew1 | refine below_set ?_ (Aside0.out (by assumption))) | exact h_)) : q := e h.out
theorem cA3 {w : World} {g t : Nat} {v0 v1 v2 : Value} (h : w.heap[g]? = some (.cells #[v0, v1, v2] t (0, 0))) : w.cell? ⟨g, 0, none⟩ = some v0 ∧ w.cell? ⟨g, 1, none⟩ = some v1 ∧ w.cell? ⟨g, 2, none⟩ = some v2 := ⟨(blk_cell h 0).trans rfl, (blk_cell h 1).trans rfl, (blk_cell h 2).trans rfl⟩
theorem fA3 {w : World} {g t : Nat} {cs : Array Value} (h : w.heap[g]? = some (.cells cs t (0, 0))) : w.frozen? ⟨g, 0, none⟩ = false ∧ w.frozen? ⟨g, 1, none⟩ = false ∧ w.frozen? ⟨g, 2, none⟩ = false := ⟨blk_frozen h 0, blk_frozen h 1, blk_frozen h 2⟩
theorem cA4 {w : World} {g t : Nat} {v0 v1 v2 v3 : Value} (h : w.heap[g]? = some (.cells #[v0, v1, v2, v3] t (0, 0))) : w.cell? ⟨g, 0, none⟩ = some v0 ∧ w.cell? ⟨g, 1, none⟩ = some v1 ∧ w.cell? ⟨g, 2, none⟩ = some v2 ∧ w.cell? ⟨g, 3, none⟩ = some v3 := ⟨(blk_cell h 0).trans rfl, (blk_cell h 1).trans rfl, (blk_cell h 2).trans rfl, (blk_cell h 3).trans rfl⟩
theorem fA4 {w : World} {g t : Nat} {cs : Array Value} (h : w.heap[g]? = some (.cells cs t (0, 0))) : w.frozen? ⟨g, 0, none⟩ = false ∧ w.frozen? ⟨g, 1, none⟩ = false ∧ w.frozen? ⟨g, 2, none⟩ = false ∧ w.frozen? ⟨g, 3, none⟩ = false := ⟨blk_frozen h 0, blk_frozen h 1, blk_frozen h 2, blk_frozen h 3⟩
theorem cA5 {w : World} {g t : Nat} {v0 v1 v2 v3 v4 : Value} (h : w.heap[g]? = some (.cells #[v0, v1, v2, v3, v4] t (0, 0))) : w.cell? ⟨g, 0, none⟩ = some v0 ∧ w.cell? ⟨g, 1, none⟩ = some v1 ∧ w.cell? ⟨g, 2, none⟩ = some v2 ∧ w.cell? ⟨g, 3, none⟩ = some v3 ∧ w.cell? ⟨g, 4, none⟩ = some v4 := ⟨(blk_cell h 0).trans rfl, (blk_cell h 1).trans rfl, (blk_cell h 2).trans rfl, (blk_cell h 3).trans rfl, (blk_cell h 4).trans rfl⟩
theorem fA5 {w : World} {g t : Nat} {cs : Array Value} (h : w.heap[g]? = some (.cells cs t (0, 0))) : w.frozen? ⟨g, 0, none⟩ = false ∧ w.frozen? ⟨g, 1, none⟩ = false ∧ w.frozen? ⟨g, 2, none⟩ = false ∧ w.frozen? ⟨g, 3, none⟩ = false ∧ w.frozen? ⟨g, 4, none⟩ = false := ⟨blk_frozen h 0, blk_frozen h 1, blk_frozen h 2, blk_frozen h 3, blk_frozen h 4⟩
theorem cA6 {w : World} {g t : Nat} {v0 v1 v2 v3 v4 v5 : Value} (h : w.heap[g]? = some (.cells #[v0, v1, v2, v3, v4, v5] t (0, 0))) : w.cell? ⟨g, 0, none⟩ = some v0 ∧ w.cell? ⟨g, 1, none⟩ = some v1 ∧ w.cell? ⟨g, 2, none⟩ = some v2 ∧ w.cell? ⟨g, 3, none⟩ = some v3 ∧ w.cell? ⟨g, 4, none⟩ = some v4 ∧ w.cell? ⟨g, 5, none⟩ = some v5 := ⟨(blk_cell h 0).trans rfl, (blk_cell h 1).trans rfl, (blk_cell h 2).trans rfl, (blk_cell h 3).trans rfl, (blk_cell h 4).trans rfl, (blk_cell h 5).trans rfl⟩
theorem fA6 {w : World} {g t : Nat} {cs : Array Value} (h : w.heap[g]? = some (.cells cs t (0, 0))) : w.frozen? ⟨g, 0, none⟩ = false ∧ w.frozen? ⟨g, 1, none⟩ = false ∧ w.frozen? ⟨g, 2, none⟩ = false ∧ w.frozen? ⟨g, 3, none⟩ = false ∧ w.frozen? ⟨g, 4, none⟩ = false ∧ w.frozen? ⟨g, 5, none⟩ = false := ⟨blk_frozen h 0, blk_frozen h 1, blk_frozen h 2, blk_frozen h 3, blk_frozen h 4, blk_frozen h 5⟩
theorem cA7 {w : World} {g t : Nat} {v0 v1 v2 v3 v4 v5 v6 : Value} (h : w.heap[g]? = some (.cells #[v0, v1, v2, v3, v4, v5, v6] t (0, 0))) : w.cell? ⟨g, 0, none⟩ = some v0 ∧ w.cell? ⟨g, 1, none⟩ = some v1 ∧ w.cell? ⟨g, 2, none⟩ = some v2 ∧ w.cell? ⟨g, 3, none⟩ = some v3 ∧ w.cell? ⟨g, 4, none⟩ = some v4 ∧ w.cell? ⟨g, 5, none⟩ = some v5 ∧ w.cell? ⟨g, 6, none⟩ = some v6 := ⟨(blk_cell h 0).trans rfl, (blk_cell h 1).trans rfl, (blk_cell h 2).trans rfl, (blk_cell h 3).trans rfl, (blk_cell h 4).trans rfl, (blk_cell h 5).trans rfl, (blk_cell h 6).trans rfl⟩
theorem fA7 {w : World} {g t : Nat} {cs : Array Value} (h : w.heap[g]? = some (.cells cs t (0, 0))) : w.frozen? ⟨g, 0, none⟩ = false ∧ w.frozen? ⟨g, 1, none⟩ = false ∧ w.frozen? ⟨g, 2, none⟩ = false ∧ w.frozen? ⟨g, 3, none⟩ = false ∧ w.frozen? ⟨g, 4, none⟩ = false ∧ w.frozen? ⟨g, 5, none⟩ = false ∧ w.frozen? ⟨g, 6, none⟩ = false := ⟨blk_frozen h 0, blk_frozen h 1, blk_frozen h 2, blk_frozen h 3, blk_frozen h 4, blk_frozen h 5, blk_frozen h 6⟩
theorem cA8 {w : World} {g t : Nat} {v0 v1 v2 v3 v4 v5 v6 v7 : Value} (h : w.heap[g]? = some (.cells #[v0, v1, v2, v3, v4, v5, v6, v7] t (0, 0))) : w.cell? ⟨g, 0, none⟩ = some v0 ∧ w.cell? ⟨g, 1, none⟩ = some v1 ∧ w.cell? ⟨g, 2, none⟩ = some v2 ∧ w.cell? ⟨g, 3, none⟩ = some v3 ∧ w.cell? ⟨g, 4, none⟩ = some v4 ∧ w.cell? ⟨g, 5, none⟩ = some v5 ∧ w.cell? ⟨g, 6, none⟩ = some v6 ∧ w.cell? ⟨g, 7, none⟩ = some v7 := ⟨(blk_cell h 0).trans rfl, (blk_cell h 1).trans rfl, (blk_cell h 2).trans rfl, (blk_cell h 3).trans rfl, (blk_cell h 4).trans rfl, (blk_cell h 5).trans rfl, (blk_cell h 6).trans rfl, (blk_cell h 7).trans rfl⟩
theorem fA8 {w : World} {g t : Nat} {cs : Array Value} (h : w.heap[g]? = some (.cells cs t (0, 0))) : w.frozen? ⟨g, 0, none⟩ = false ∧ w.frozen? ⟨g, 1, none⟩ = false ∧ w.frozen? ⟨g, 2, none⟩ = false ∧ w.frozen? ⟨g, 3, none⟩ = false ∧ w.frozen? ⟨g, 4, none⟩ = false ∧ w.frozen? ⟨g, 5, none⟩ = false ∧ w.frozen? ⟨g, 6, none⟩ = false ∧ w.frozen? ⟨g, 7, none⟩ = false := ⟨blk_frozen h 0, blk_frozen h 1, blk_frozen h 2, blk_frozen h 3, blk_frozen h 4, blk_frozen h 5, blk_frozen h 6, blk_frozen h 7⟩
theorem cA9 {w : World} {g t : Nat} {v0 v1 v2 v3 v4 v5 v6 v7 v8 : Value} (h : w.heap[g]? = some (.cells #[v0, v1, v2, v3, v4, v5, v6, v7, v8] t (0, 0))) : w.cell? ⟨g, 0, none⟩ = some v0 ∧ w.cell? ⟨g, 1, none⟩ = some v1 ∧ w.cell? ⟨g, 2, none⟩ = some v2 ∧ w.cell? ⟨g, 3, none⟩ = some v3 ∧ w.cell? ⟨g, 4, none⟩ = some v4 ∧ w.cell? ⟨g, 5, none⟩ = some v5 ∧ w.cell? ⟨g, 6, none⟩ = some v6 ∧ w.cell? ⟨g, 7, none⟩ = some v7 ∧ w.cell? ⟨g, 8, none⟩ = some v8 := ⟨(blk_cell h 0).trans rfl, (blk_cell h 1).trans rfl, (blk_cell h 2).trans rfl, (blk_cell h 3).trans rfl, (blk_cell h 4).trans rfl, (blk_cell h 5).trans rfl, (blk_cell h 6).trans rfl, (blk_cell h 7).trans rfl, (blk_cell h 8).trans rfl⟩
theorem fA9 {w : World} {g t : Nat} {cs : Array Value} (h : w.heap[g]? = some (.cells cs t (0, 0))) : w.frozen? ⟨g, 0, none⟩ = false ∧ w.frozen? ⟨g, 1, none⟩ = false ∧ w.frozen? ⟨g, 2, none⟩ = false ∧ w.frozen? ⟨g, 3, none⟩ = false ∧ w.frozen? ⟨g, 4, none⟩ = false ∧ w.frozen? ⟨g, 5, none⟩ = false ∧ w.frozen? ⟨g, 6, none⟩ = false ∧ w.frozen? ⟨g, 7, none⟩ = false ∧ w.frozen? ⟨g, 8, none⟩ = false := ⟨blk_frozen h 0, blk_frozen h 1, blk_frozen h 2, blk_frozen h 3, blk_frozen h 4, blk_frozen h 5, blk_frozen h 6, blk_frozen h 7, blk_frozen h 8⟩
theorem cA10 {w : World} {g t : Nat} {v0 v1 v2 v3 v4 v5 v6 v7 v8 v9 : Value} (h : w.heap[g]? = some (.cells #[v0, v1, v2, v3, v4, v5, v6, v7, v8, v9] t (0, 0))) : w.cell? ⟨g, 0, none⟩ = some v0 ∧ w.cell? ⟨g, 1, none⟩ = some v1 ∧ w.cell? ⟨g, 2, none⟩ = some v2 ∧ w.cell? ⟨g, 3, none⟩ = some v3 ∧ w.cell? ⟨g, 4, none⟩ = some v4 ∧ w.cell? ⟨g, 5, none⟩ = some v5 ∧ w.cell? ⟨g, 6, none⟩ = some v6 ∧ w.cell? ⟨g, 7, none⟩ = some v7 ∧ w.cell? ⟨g, 8, none⟩ = some v8 ∧ w.cell? ⟨g, 9, none⟩ = some v9 := ⟨(blk_cell h 0).trans rfl, (blk_cell h 1).trans rfl, (blk_cell h 2).trans rfl, (blk_cell h 3).trans rfl, (blk_cell h 4).trans rfl, (blk_cell h 5).trans rfl, (blk_cell h 6).trans rfl, (blk_cell h 7).trans rfl, (blk_cell h 8).trans rfl, (blk_cell h 9).trans rfl⟩
theorem fA10 {w : World} {g t : Nat} {cs : Array Value} (h : w.heap[g]? = some (.cells cs t (0, 0))) : w.frozen? ⟨g, 0, none⟩ = false ∧ w.frozen? ⟨g, 1, none⟩ = false ∧ w.frozen? ⟨g, 2, none⟩ = false ∧ w.frozen? ⟨g, 3, none⟩ = false ∧ w.frozen? ⟨g, 4, none⟩ = false ∧ w.frozen? ⟨g, 5, none⟩ = false ∧ w.frozen? ⟨g, 6, none⟩ = false ∧ w.frozen? ⟨g, 7, none⟩ = false ∧ w.frozen? ⟨g, 8, none⟩ = false ∧ w.frozen? ⟨g, 9, none⟩ = false := ⟨blk_frozen h 0, blk_frozen h 1, blk_frozen h 2, blk_frozen h 3, blk_frozen h 4, blk_frozen h 5, blk_frozen h 6, blk_frozen h 7, blk_frozen h 8, blk_frozen h 9⟩
theorem cA11 {w : World} {g t : Nat} {v0 v1 v2 v3 v4 v5 v6 v7 v8 v9 v10 : Value} (h : w.heap[g]? = some (.cells #[v0, v1, v2, v3, v4, v5, v6, v7, v8, v9, v10] t (0, 0))) : w.cell? ⟨g, 0, none⟩ = some v0 ∧ w.cell? ⟨g, 1, none⟩ = some v1 ∧ w.cell? ⟨g, 2, none⟩ = some v2 ∧ w.cell? ⟨g, 3, none⟩ = some v3 ∧ w.cell? ⟨g, 4, none⟩ = some v4 ∧ w.cell? ⟨g, 5, none⟩ = some v5 ∧ w.cell? ⟨g, 6, none⟩ = some v6 ∧ w.cell? ⟨g, 7, none⟩ = some v7 ∧ w.cell? ⟨g, 8, none⟩ = some v8 ∧ w.cell? ⟨g, 9, none⟩ = some v9 ∧ w.cell? ⟨g, 10, none⟩ = some v10 := ⟨(blk_cell h 0).trans rfl, (blk_cell h 1).trans rfl, (blk_cell h 2).trans rfl, (blk_cell h 3).trans rfl, (blk_cell h 4).trans rfl, (blk_cell h 5).trans rfl, (blk_cell h 6).trans rfl, (blk_cell h 7).trans rfl, (blk_cell h 8).trans rfl, (blk_cell h 9).trans rfl, (blk_cell h 10).trans rfl⟩
theorem fA11 {w : World} {g t : Nat} {cs : Array Value} (h : w.heap[g]? = some (.cells cs t (0, 0))) : w.frozen? ⟨g, 0, none⟩ = false ∧ w.frozen? ⟨g, 1, none⟩ = false ∧ w.frozen? ⟨g, 2, none⟩ = false ∧ w.frozen? ⟨g, 3, none⟩ = false ∧ w.frozen? ⟨g, 4, none⟩ = false ∧ w.frozen? ⟨g, 5, none⟩ = false ∧ w.frozen? ⟨g, 6, none⟩ = false ∧ w.frozen? ⟨g, 7, none⟩ = false ∧ w.frozen? ⟨g, 8, none⟩ = false ∧ w.frozen? ⟨g, 9, none⟩ = false ∧ w.frozen? ⟨g, 10, none⟩ = false := ⟨blk_frozen h 0, blk_frozen h 1, blk_frozen h 2, blk_frozen h 3, blk_frozen h 4, blk_frozen h 5, blk_frozen h 6, blk_frozen h 7, blk_frozen h 8, blk_frozen h 9, blk_frozen h 10⟩
theorem cA12 {w : World} {g t : Nat} {v0 v1 v2 v3 v4 v5 v6 v7 v8 v9 v10 v11 : Value} (h : w.heap[g]? = some (.cells #[v0, v1, v2, v3, v4, v5, v6, v7, v8, v9, v10, v11] t (0, 0))) : w.cell? ⟨g, 0, none⟩ = some v0 ∧ w.cell? ⟨g, 1, none⟩ = some v1 ∧ w.cell? ⟨g, 2, none⟩ = some v2 ∧ w.cell? ⟨g, 3, none⟩ = some v3 ∧ w.cell? ⟨g, 4, none⟩ = some v4 ∧ w.cell? ⟨g, 5, none⟩ = some v5 ∧ w.cell? ⟨g, 6, none⟩ = some v6 ∧ w.cell? ⟨g, 7, none⟩ = some v7 ∧ w.cell? ⟨g, 8, none⟩ = some v8 ∧ w.cell? ⟨g, 9, none⟩ = some v9 ∧ w.cell? ⟨g, 10, none⟩ = some v10 ∧ w.cell? ⟨g, 11, none⟩ = some v11 := ⟨(blk_cell h 0).trans rfl, (blk_cell h 1).trans rfl, (blk_cell h 2).trans rfl, (blk_cell h 3).trans rfl, (blk_cell h 4).trans rfl, (blk_cell h 5).trans rfl, (blk_cell h 6).trans rfl, (blk_cell h 7).trans rfl, (blk_cell h 8).trans rfl, (blk_cell h 9).trans rfl, (blk_cell h 10).trans rfl, (blk_cell h 11).trans rfl⟩
theorem fA12 {w : World} {g t : Nat} {cs : Array Value} (h : w.heap[g]? = some (.cells cs t (0, 0))) : w.frozen? ⟨g, 0, none⟩ = false ∧ w.frozen? ⟨g, 1, none⟩ = false ∧ w.frozen? ⟨g, 2, none⟩ = false ∧ w.frozen? ⟨g, 3, none⟩ = false ∧ w.frozen? ⟨g, 4, none⟩ = false ∧ w.frozen? ⟨g, 5, none⟩ = false ∧ w.frozen? ⟨g, 6, none⟩ = false ∧ w.frozen? ⟨g, 7, none⟩ = false ∧ w.frozen? ⟨g, 8, none⟩ = false ∧ w.frozen? ⟨g, 9, none⟩ = false ∧ w.frozen? ⟨g, 10, none⟩ = false ∧ w.frozen? ⟨g, 11, none⟩ = false := ⟨blk_frozen h 0, blk_frozen h 1, blk_frozen h 2, blk_frozen h 3, blk_frozen h 4, blk_frozen h 5, blk_frozen h 6, blk_frozen h 7, blk_frozen h 8, blk_frozen h 9, blk_frozen h 10, blk_frozen h 11⟩
end Go.Proofs.Ytclbempnhelmoaa.P
namespace Go.Proofs.YtclbempnhelmoaaW.PrintWords.Kd
open Go.RowKit YtclbempnhelmoaaW.PrintWords
section
variable {P : Program} {ops : Array Oper} {rest : List Oper} {o : Oper} {a : Act} {Q : Exit → Act → World → Prop} {α : Type}
theorem R_make0 (d : Kd α) {w0 W : World} (base e : Nat) (hgd : o.guard = none) {N : Tmp} (_hd : o.dst = some N) (t : TypeId) (x y : Operand) (ho : o.op = .makeSlice t x y) (n : Int) (hx : a.eval x = .int .i64 0) (hy : a.eval y = .int .i64 n)
  (ht : P.underlying t = some (.slice e)) (z : Value) (bytes : Nat) (hinfo : (P.info? e).map (fun i => (i.zero, i.size, i.bytes)) = some (some z, d.sz, bytes)) (hb0 : 0 < bytes)
  {ok : Nat → Prop} (hfresh : ok W.heap.size) (h0 : 0 ≤ n) (hl : n.toNat * bytes ≤ 281474976710656) (HB : Below base w0 W) (hbase : base ≤ W.heap.size)
  (h : ∀ v1 w1, d.R e w1 base ok v1 [] → Below base w0 w1 → W.grownBy w1 none → (∃ b, v1.ownBlock = some b ∧ W.heap.size ≤ b) → wpList P ops Q rest (a.put o.dst v1) w1) : wpList P ops Q (o :: rest) a W := by
 obtain ⟨m, rfl⟩ := Int.eq_ofNat_of_zero_le h0
 simp only [Int.toNat_natCast] at hl
 obtain ⟨i0, hi, hzz⟩ := Option.map_eq_some_iff.1 hinfo
 simp only [Prod.mk.injEq] at hzz
 obtain ⟨hz0, hz1, hz2⟩ := hzz
 have hm : m ≤ 281474976710656 := Nat.le_trans (Nat.le_mul_of_pos_right _ hb0) hl
 obtain ⟨w', hr, hown, hg⟩ := run_make_own (P := P) W base t e i0 z d.sz ht hi hz0 hz1 .i64 .i64 m (by rw [hz2, Nat.mul_comm]; exact hl) (by unfold maxLen; omega) hbase
 refine event_run hgd (v := .slice (some ⟨W.heap.size, 0, none⟩) 0 m) (w1 := w') (by simp [execOp, ho, hx, hy, hr]) (h _ _ ⟨fun k hk => ?_, [], hown, Reps.none _ _⟩ (HB.grown hg hbase (by simp)) hg ⟨W.heap.size, by simp [Value.ownBlock], Nat.le_refl _⟩)
 have : W.heap.size = k := by simpa [Value.ownBlock] using hk
 subst this
 exact hfresh
end
end Go.Proofs.YtclbempnhelmoaaW.PrintWords.Kd
namespace Go.Proofs.Ytclbempnhelmoaa.P
open Go.RowKit YtclbempnhelmoaaW.PrintWords YtclbempnhelmoaaW.PrintLast YtclbempnhelmoaaW.PrintMore
attribute [local go_sem] max2_int min2_int max_two min_two max_three min_three max_four min_four
def errW : Option Int → Value
 | none => .nilIface
 | some c => .iface 0 (.int .i64 c)
theorem errW_none : errW none = .nilIface := rfl
theorem errW_some (c : Int) : errW (some c) = .iface 0 (.int .i64 c) := rfl
theorem info3 : (Try.prog.info? 3).map (fun i => (i.zero, i.size, i.bytes)) = some (some (.int .i64 0), 1, 8) := by kernel_rfl
theorem info5 : (Try.prog.info? 5).map (fun i => (i.zero, i.size, i.bytes)) = some (some (.int .u8 0), 1, 1) := by kernel_rfl
theorem info34 : (Try.prog.info? 34).map (fun i => (i.zero, i.size, i.bytes)) = some (some (.agg #[(.int .i64 0), (.int .i64 0), (.bool false), (.int .i64 0), (.int .i64 0), (.int .i64 0), (.int .i64 0), (.int .i64 0), (.int .i64 0), (.int .i64 0), (.int .i64 0), (.int .i64 0)]), 12, 96) := by kernel_rfl
theorem info48 : (Try.prog.info? 48).map (fun i => (i.zero, i.size, i.bytes)) = some (some (.agg #[(.int .i64 0), (.slice none 0 0)]), 2, 32) := by kernel_rfl
theorem info89 : (Try.prog.info? 89).map (fun i => (i.zero, i.size, i.bytes)) = some (some (.int .u16 0), 1, 2) := by kernel_rfl
structure S30 where
 f0 : Bool
 f1 : Int
 f2 : Int
 f3 : Int
 f4 : Int
 f5 : Int
def z30 : S30 := ⟨false, (0 : Int), (0 : Int), (0 : Int), (0 : Int), (0 : Int)⟩
def k30 : Kd S30 := Kd.iso (Kd.pair Kd.bool (Kd.pair (Kd.int .i64) (Kd.pair (Kd.int .i64) (Kd.pair (Kd.int .i64) (Kd.pair (Kd.int .i64) (Kd.int .i64)))))) (fun x : S30 => (x.f0, x.f1, x.f2, x.f3, x.f4, x.f5))
theorem k30_open {w : World} {x : S30} {cs : List Value} (h : k30.K w x cs) : cs = [.bool x.f0, .int .i64 x.f1, .int .i64 x.f2, .int .i64 x.f3, .int .i64 x.f4, .int .i64 x.f5] := by
 obtain ⟨_, _, rfl, rfl, ⟨_, _, rfl, rfl, ⟨_, _, rfl, rfl, ⟨_, _, rfl, rfl, ⟨_, _, rfl, rfl, rfl⟩⟩⟩⟩⟩ := h
 exact rfl
theorem k30_mk (w : World) (x : S30)  : k30.K w x [.bool x.f0, .int .i64 x.f1, .int .i64 x.f2, .int .i64 x.f3, .int .i64 x.f4, .int .i64 x.f5] := ⟨[.bool x.f0], [.int .i64 x.f1, .int .i64 x.f2, .int .i64 x.f3, .int .i64 x.f4, .int .i64 x.f5], rfl, rfl, ⟨[.int .i64 x.f1], [.int .i64 x.f2, .int .i64 x.f3, .int .i64 x.f4, .int .i64 x.f5], rfl, rfl, ⟨[.int .i64 x.f2], [.int .i64 x.f3, .int .i64 x.f4, .int .i64 x.f5], rfl, rfl, ⟨[.int .i64 x.f3], [.int .i64 x.f4, .int .i64 x.f5], rfl, rfl, ⟨[.int .i64 x.f4], [.int .i64 x.f5], rfl, rfl, rfl⟩⟩⟩⟩⟩
theorem k30_mkM (w : World) (base : Nat) (ok : Nat → Prop) (x : S30)  : k30.M w base ok x [.bool x.f0, .int .i64 x.f1, .int .i64 x.f2, .int .i64 x.f3, .int .i64 x.f4, .int .i64 x.f5] := ⟨[.bool x.f0], [.int .i64 x.f1, .int .i64 x.f2, .int .i64 x.f3, .int .i64 x.f4, .int .i64 x.f5], rfl, rfl, ⟨[.int .i64 x.f1], [.int .i64 x.f2, .int .i64 x.f3, .int .i64 x.f4, .int .i64 x.f5], rfl, rfl, ⟨[.int .i64 x.f2], [.int .i64 x.f3, .int .i64 x.f4, .int .i64 x.f5], rfl, rfl, ⟨[.int .i64 x.f3], [.int .i64 x.f4, .int .i64 x.f5], rfl, rfl, ⟨[.int .i64 x.f4], [.int .i64 x.f5], rfl, rfl, rfl⟩⟩⟩⟩⟩
structure S32 where
 f0 : Int
 f1 : Int
 f2 : Int
def z32 : S32 := ⟨(0 : Int), (0 : Int), (0 : Int)⟩
def k32 : Kd S32 := Kd.iso (Kd.pair (Kd.int .i64) (Kd.pair (Kd.int .i64) (Kd.int .i64))) (fun x : S32 => (x.f0, x.f1, x.f2))
theorem k32_open {w : World} {x : S32} {cs : List Value} (h : k32.K w x cs) : cs = [.int .i64 x.f0, .int .i64 x.f1, .int .i64 x.f2] := by
 obtain ⟨_, _, rfl, rfl, ⟨_, _, rfl, rfl, rfl⟩⟩ := h
 exact rfl
theorem k32_mk (w : World) (x : S32)  : k32.K w x [.int .i64 x.f0, .int .i64 x.f1, .int .i64 x.f2] := ⟨[.int .i64 x.f0], [.int .i64 x.f1, .int .i64 x.f2], rfl, rfl, ⟨[.int .i64 x.f1], [.int .i64 x.f2], rfl, rfl, rfl⟩⟩
theorem k32_mkM (w : World) (base : Nat) (ok : Nat → Prop) (x : S32)  : k32.M w base ok x [.int .i64 x.f0, .int .i64 x.f1, .int .i64 x.f2] := ⟨[.int .i64 x.f0], [.int .i64 x.f1, .int .i64 x.f2], rfl, rfl, ⟨[.int .i64 x.f1], [.int .i64 x.f2], rfl, rfl, rfl⟩⟩
structure S34 where
 f0 : Int
 f1 : Int
 f2 : S30
 f3 : S32
 f4 : Int
def z34 : S34 := ⟨(0 : Int), (0 : Int), z30, z32, (0 : Int)⟩
def k34 : Kd S34 := Kd.iso (Kd.pair (Kd.int .i64) (Kd.pair (Kd.int .i64) (Kd.pair k30 (Kd.pair k32 (Kd.int .i64))))) (fun x : S34 => (x.f0, x.f1, x.f2, x.f3, x.f4))
theorem k34_open {w : World} {x : S34} {cs : List Value} (h : k34.K w x cs) : cs = [.int .i64 x.f0, .int .i64 x.f1, .bool x.f2.f0, .int .i64 x.f2.f1, .int .i64 x.f2.f2, .int .i64 x.f2.f3, .int .i64 x.f2.f4, .int .i64 x.f2.f5, .int .i64 x.f3.f0, .int .i64 x.f3.f1, .int .i64 x.f3.f2, .int .i64 x.f4] := by
 obtain ⟨_, _, rfl, rfl, ⟨_, _, rfl, rfl, ⟨_, _, rfl, s2, ⟨_, _, rfl, s8, rfl⟩⟩⟩⟩ := h
 obtain rfl := k30_open s2
 obtain rfl := k32_open s8
 exact rfl
theorem k34_mk (w : World) (x : S34)  : k34.K w x [.int .i64 x.f0, .int .i64 x.f1, .bool x.f2.f0, .int .i64 x.f2.f1, .int .i64 x.f2.f2, .int .i64 x.f2.f3, .int .i64 x.f2.f4, .int .i64 x.f2.f5, .int .i64 x.f3.f0, .int .i64 x.f3.f1, .int .i64 x.f3.f2, .int .i64 x.f4] := ⟨[.int .i64 x.f0], [.int .i64 x.f1, .bool x.f2.f0, .int .i64 x.f2.f1, .int .i64 x.f2.f2, .int .i64 x.f2.f3, .int .i64 x.f2.f4, .int .i64 x.f2.f5, .int .i64 x.f3.f0, .int .i64 x.f3.f1, .int .i64 x.f3.f2, .int .i64 x.f4], rfl, rfl, ⟨[.int .i64 x.f1], [.bool x.f2.f0, .int .i64 x.f2.f1, .int .i64 x.f2.f2, .int .i64 x.f2.f3, .int .i64 x.f2.f4, .int .i64 x.f2.f5, .int .i64 x.f3.f0, .int .i64 x.f3.f1, .int .i64 x.f3.f2, .int .i64 x.f4], rfl, rfl, ⟨[.bool x.f2.f0, .int .i64 x.f2.f1, .int .i64 x.f2.f2, .int .i64 x.f2.f3, .int .i64 x.f2.f4, .int .i64 x.f2.f5], [.int .i64 x.f3.f0, .int .i64 x.f3.f1, .int .i64 x.f3.f2, .int .i64 x.f4], rfl, (k30_mk w x.f2 ), ⟨[.int .i64 x.f3.f0, .int .i64 x.f3.f1, .int .i64 x.f3.f2], [.int .i64 x.f4], rfl, (k32_mk w x.f3 ), rfl⟩⟩⟩⟩
theorem k34_mkM (w : World) (base : Nat) (ok : Nat → Prop) (x : S34)  : k34.M w base ok x [.int .i64 x.f0, .int .i64 x.f1, .bool x.f2.f0, .int .i64 x.f2.f1, .int .i64 x.f2.f2, .int .i64 x.f2.f3, .int .i64 x.f2.f4, .int .i64 x.f2.f5, .int .i64 x.f3.f0, .int .i64 x.f3.f1, .int .i64 x.f3.f2, .int .i64 x.f4] := ⟨[.int .i64 x.f0], [.int .i64 x.f1, .bool x.f2.f0, .int .i64 x.f2.f1, .int .i64 x.f2.f2, .int .i64 x.f2.f3, .int .i64 x.f2.f4, .int .i64 x.f2.f5, .int .i64 x.f3.f0, .int .i64 x.f3.f1, .int .i64 x.f3.f2, .int .i64 x.f4], rfl, rfl, ⟨[.int .i64 x.f1], [.bool x.f2.f0, .int .i64 x.f2.f1, .int .i64 x.f2.f2, .int .i64 x.f2.f3, .int .i64 x.f2.f4, .int .i64 x.f2.f5, .int .i64 x.f3.f0, .int .i64 x.f3.f1, .int .i64 x.f3.f2, .int .i64 x.f4], rfl, rfl, ⟨[.bool x.f2.f0, .int .i64 x.f2.f1, .int .i64 x.f2.f2, .int .i64 x.f2.f3, .int .i64 x.f2.f4, .int .i64 x.f2.f5], [.int .i64 x.f3.f0, .int .i64 x.f3.f1, .int .i64 x.f3.f2, .int .i64 x.f4], rfl, (k30_mkM w base ok x.f2 ), ⟨[.int .i64 x.f3.f0, .int .i64 x.f3.f1, .int .i64 x.f3.f2], [.int .i64 x.f4], rfl, (k32_mkM w base ok x.f3 ), rfl⟩⟩⟩⟩
def rd_T34 (xs : List S34) (i : Int) : S34 := xs.getD i.toNat z34
theorem at_T34 {w : World} {A : Option Addr} {n : Nat} {xs : List S34} (h : Kd.C k34 w A n xs) (i : Int) (h0 : 0 ≤ i) (h1 : i < n) : ∃ ad , A = some ad ∧ w.cell? (ad.add (i.toNat * 12)) = some (.int .i64 (rd_T34 xs i).f0) ∧ w.cell? ⟨(ad.add (i.toNat * 12)).block, (ad.add (i.toNat * 12)).off + 1, none⟩ = some (.int .i64 (rd_T34 xs i).f1) ∧ w.cell? ⟨(ad.add (i.toNat * 12)).block, (ad.add (i.toNat * 12)).off + 2, none⟩ = some (.bool (rd_T34 xs i).f2.f0) ∧ w.cell? ⟨(ad.add (i.toNat * 12)).block, (ad.add (i.toNat * 12)).off + 3, none⟩ = some (.int .i64 (rd_T34 xs i).f2.f1) ∧ w.cell? ⟨(ad.add (i.toNat * 12)).block, (ad.add (i.toNat * 12)).off + 4, none⟩ = some (.int .i64 (rd_T34 xs i).f2.f2) ∧ w.cell? ⟨(ad.add (i.toNat * 12)).block, (ad.add (i.toNat * 12)).off + 5, none⟩ = some (.int .i64 (rd_T34 xs i).f2.f3) ∧ w.cell? ⟨(ad.add (i.toNat * 12)).block, (ad.add (i.toNat * 12)).off + 6, none⟩ = some (.int .i64 (rd_T34 xs i).f2.f4) ∧ w.cell? ⟨(ad.add (i.toNat * 12)).block, (ad.add (i.toNat * 12)).off + 7, none⟩ = some (.int .i64 (rd_T34 xs i).f2.f5) ∧ w.cell? ⟨(ad.add (i.toNat * 12)).block, (ad.add (i.toNat * 12)).off + 8, none⟩ = some (.int .i64 (rd_T34 xs i).f3.f0) ∧ w.cell? ⟨(ad.add (i.toNat * 12)).block, (ad.add (i.toNat * 12)).off + 9, none⟩ = some (.int .i64 (rd_T34 xs i).f3.f1) ∧ w.cell? ⟨(ad.add (i.toNat * 12)).block, (ad.add (i.toNat * 12)).off + 10, none⟩ = some (.int .i64 (rd_T34 xs i).f3.f2) ∧ w.cell? ⟨(ad.add (i.toNat * 12)).block, (ad.add (i.toNat * 12)).off + 11, none⟩ = some (.int .i64 (rd_T34 xs i).f4) := by
 obtain ⟨ad, c, e, _, hK, hc0⟩ := Kd.C_get h z34 i h0 h1
 have hc : ∀ j u, c[j]? = some u → w.cell? (ad.add (i.toNat * 12 + j)) = some u := hc0
 obtain rfl := k34_open hK
 exact ⟨ad, e, hc 0 _ rfl, by rw [← add_field _ _ 1 (by omega)]; exact hc 1 _ rfl, by rw [← add_field _ _ 2 (by omega)]; exact hc 2 _ rfl, by rw [← add_field _ _ 3 (by omega)]; exact hc 3 _ rfl, by rw [← add_field _ _ 4 (by omega)]; exact hc 4 _ rfl, by rw [← add_field _ _ 5 (by omega)]; exact hc 5 _ rfl, by rw [← add_field _ _ 6 (by omega)]; exact hc 6 _ rfl, by rw [← add_field _ _ 7 (by omega)]; exact hc 7 _ rfl, by rw [← add_field _ _ 8 (by omega)]; exact hc 8 _ rfl, by rw [← add_field _ _ 9 (by omega)]; exact hc 9 _ rfl, by rw [← add_field _ _ 10 (by omega)]; exact hc 10 _ rfl, by rw [← add_field _ _ 11 (by omega)]; exact hc 11 _ rfl⟩
structure S48 where
 f0 : Int
 f1 : (List S34)
def z48 : S48 := ⟨(0 : Int), ([] : List S34)⟩
def k48 : Kd S48 := Kd.iso (Kd.pair (Kd.int .i64) (Kd.slice 34 k34)) (fun x : S48 => (x.f0, x.f1))
theorem k48_open {w : World} {x : S48} {cs : List Value} (h : k48.K w x cs) : ∃ A1 c1, cs = [.int .i64 x.f0, .slice A1 x.f1.length c1] ∧ x.f1.length ≤ c1 ∧ k34.C w A1 x.f1.length x.f1 := by
 obtain ⟨_, _, rfl, rfl, ⟨A1, c1, rfl, l1, g1⟩⟩ := h
 exact ⟨A1, c1, rfl, l1, g1⟩
theorem k48_openM {w : World} {base : Nat} {ok : Nat → Prop} {x : S48} {cs : List Value} (h : k48.M w base ok x cs) : ∃ v1, cs = [.int .i64 x.f0, v1] ∧ k34.R 34 w base ok v1 x.f1 := by
 obtain ⟨_, _, rfl, rfl, ⟨v1, rfl, g1⟩⟩ := h
 exact ⟨v1, rfl, g1⟩
theorem k48_mkM (w : World) (base : Nat) (ok : Nat → Prop) (x : S48) {v1 : Value} (g1 : k34.R 34 w base ok v1 x.f1) : k48.M w base ok x [.int .i64 x.f0, v1] := ⟨[.int .i64 x.f0], [v1], rfl, rfl, ⟨v1, rfl, g1⟩⟩
def rd_T48 (xs : List S48) (i : Int) : S48 := xs.getD i.toNat z48
theorem at_T48 {w : World} {A : Option Addr} {n : Nat} {xs : List S48} (h : Kd.C k48 w A n xs) (i : Int) (h0 : 0 ≤ i) (h1 : i < n) : ∃ ad A1 c1, A = some ad ∧ w.cell? (ad.add (i.toNat * 2)) = some (.int .i64 (rd_T48 xs i).f0) ∧ w.cell? ⟨(ad.add (i.toNat * 2)).block, (ad.add (i.toNat * 2)).off + 1, none⟩ = some (.slice A1 (rd_T48 xs i).f1.length c1) ∧ (rd_T48 xs i).f1.length ≤ c1 ∧ k34.C w A1 (rd_T48 xs i).f1.length (rd_T48 xs i).f1 := by
 obtain ⟨ad, c, e, _, hK, hc0⟩ := Kd.C_get h z48 i h0 h1
 have hc : ∀ j u, c[j]? = some u → w.cell? (ad.add (i.toNat * 2 + j)) = some u := hc0
 obtain ⟨A1, c1, rfl, l1, g1⟩ := k48_open hK
 exact ⟨ad, A1, c1, e, hc 0 _ rfl, by rw [← add_field _ _ 1 (by omega)]; exact hc 1 _ rfl, l1, g1⟩
def rd_L10 (xs : List (List Int)) (i : Int) : (List Int) := xs.getD i.toNat ([] : List Int)
theorem at_L10 {w : World} {A : Option Addr} {n : Nat} {xs : List (List Int)} (h : Kd.C (Kd.slice 5 (Kd.int .u8)) w A n xs) (i : Int) (h0 : 0 ≤ i) (h1 : i < n) : ∃ ad A0 c0, A = some ad ∧ w.cell? (ad.add i.toNat) = some (.slice A0 (rd_L10 xs i).length c0) ∧ (rd_L10 xs i).length ≤ c0 ∧ (Kd.int .u8).C w A0 (rd_L10 xs i).length (rd_L10 xs i) := by
 obtain ⟨ad, c, e, _, hK, hc0⟩ := Kd.C_get h ([] : List Int) i h0 h1
 have hc : ∀ j u, c[j]? = some u → w.cell? (ad.add (i.toNat * 1 + j)) = some u := hc0
 obtain ⟨A0, c0, rfl, l0, g0⟩ := hK
 exact ⟨ad, A0, c0, e, by have hq := hc 0 _ rfl; rwa [Nat.mul_one, Nat.add_zero] at hq, l0, g0⟩
structure S36 where
 f0 : Int
 f1 : Int
 f2 : Int
 f3 : Int
def z36 : S36 := ⟨(0 : Int), (0 : Int), (0 : Int), (0 : Int)⟩
def k36 : Kd S36 := Kd.iso (Kd.pair (Kd.int .i64) (Kd.pair (Kd.int .i64) (Kd.pair (Kd.int .i64) (Kd.int .i64)))) (fun x : S36 => (x.f0, x.f1, x.f2, x.f3))
theorem k36_open {w : World} {x : S36} {cs : List Value} (h : k36.K w x cs) : cs = [.int .i64 x.f0, .int .i64 x.f1, .int .i64 x.f2, .int .i64 x.f3] := by
 obtain ⟨_, _, rfl, rfl, ⟨_, _, rfl, rfl, ⟨_, _, rfl, rfl, rfl⟩⟩⟩ := h
 exact rfl
structure S38 where
 f0 : Int
 f1 : S34
 f2 : S36
def z38 : S38 := ⟨(0 : Int), z34, z36⟩
def k38 : Kd S38 := Kd.iso (Kd.pair (Kd.int .i64) (Kd.pair k34 k36)) (fun x : S38 => (x.f0, x.f1, x.f2))
theorem k38_open {w : World} {x : S38} {cs : List Value} (h : k38.K w x cs) : cs = [.int .i64 x.f0, .int .i64 x.f1.f0, .int .i64 x.f1.f1, .bool x.f1.f2.f0, .int .i64 x.f1.f2.f1, .int .i64 x.f1.f2.f2, .int .i64 x.f1.f2.f3, .int .i64 x.f1.f2.f4, .int .i64 x.f1.f2.f5, .int .i64 x.f1.f3.f0, .int .i64 x.f1.f3.f1, .int .i64 x.f1.f3.f2, .int .i64 x.f1.f4, .int .i64 x.f2.f0, .int .i64 x.f2.f1, .int .i64 x.f2.f2, .int .i64 x.f2.f3] := by
 obtain ⟨_, _, rfl, rfl, ⟨_, _, rfl, s1, s13⟩⟩ := h
 obtain rfl := k34_open s1
 obtain rfl := k36_open s13
 exact rfl
def rd_T38 (xs : List S38) (i : Int) : S38 := xs.getD i.toNat z38
theorem at_T38 {w : World} {A : Option Addr} {n : Nat} {xs : List S38} (h : Kd.C k38 w A n xs) (i : Int) (h0 : 0 ≤ i) (h1 : i < n) : ∃ ad , A = some ad ∧ w.cell? (ad.add (i.toNat * 17)) = some (.int .i64 (rd_T38 xs i).f0) ∧ w.cell? ⟨(ad.add (i.toNat * 17)).block, (ad.add (i.toNat * 17)).off + 1, none⟩ = some (.int .i64 (rd_T38 xs i).f1.f0) ∧ w.cell? ⟨(ad.add (i.toNat * 17)).block, (ad.add (i.toNat * 17)).off + 2, none⟩ = some (.int .i64 (rd_T38 xs i).f1.f1) ∧ w.cell? ⟨(ad.add (i.toNat * 17)).block, (ad.add (i.toNat * 17)).off + 3, none⟩ = some (.bool (rd_T38 xs i).f1.f2.f0) ∧ w.cell? ⟨(ad.add (i.toNat * 17)).block, (ad.add (i.toNat * 17)).off + 4, none⟩ = some (.int .i64 (rd_T38 xs i).f1.f2.f1) ∧ w.cell? ⟨(ad.add (i.toNat * 17)).block, (ad.add (i.toNat * 17)).off + 5, none⟩ = some (.int .i64 (rd_T38 xs i).f1.f2.f2) ∧ w.cell? ⟨(ad.add (i.toNat * 17)).block, (ad.add (i.toNat * 17)).off + 6, none⟩ = some (.int .i64 (rd_T38 xs i).f1.f2.f3) ∧ w.cell? ⟨(ad.add (i.toNat * 17)).block, (ad.add (i.toNat * 17)).off + 7, none⟩ = some (.int .i64 (rd_T38 xs i).f1.f2.f4) ∧ w.cell? ⟨(ad.add (i.toNat * 17)).block, (ad.add (i.toNat * 17)).off + 8, none⟩ = some (.int .i64 (rd_T38 xs i).f1.f2.f5) ∧ w.cell? ⟨(ad.add (i.toNat * 17)).block, (ad.add (i.toNat * 17)).off + 9, none⟩ = some (.int .i64 (rd_T38 xs i).f1.f3.f0) ∧ w.cell? ⟨(ad.add (i.toNat * 17)).block, (ad.add (i.toNat * 17)).off + 10, none⟩ = some (.int .i64 (rd_T38 xs i).f1.f3.f1) ∧ w.cell? ⟨(ad.add (i.toNat * 17)).block, (ad.add (i.toNat * 17)).off + 11, none⟩ = some (.int .i64 (rd_T38 xs i).f1.f3.f2) ∧ w.cell? ⟨(ad.add (i.toNat * 17)).block, (ad.add (i.toNat * 17)).off + 12, none⟩ = some (.int .i64 (rd_T38 xs i).f1.f4) ∧ w.cell? ⟨(ad.add (i.toNat * 17)).block, (ad.add (i.toNat * 17)).off + 13, none⟩ = some (.int .i64 (rd_T38 xs i).f2.f0) ∧ w.cell? ⟨(ad.add (i.toNat * 17)).block, (ad.add (i.toNat * 17)).off + 14, none⟩ = some (.int .i64 (rd_T38 xs i).f2.f1) ∧ w.cell? ⟨(ad.add (i.toNat * 17)).block, (ad.add (i.toNat * 17)).off + 15, none⟩ = some (.int .i64 (rd_T38 xs i).f2.f2) ∧ w.cell? ⟨(ad.add (i.toNat * 17)).block, (ad.add (i.toNat * 17)).off + 16, none⟩ = some (.int .i64 (rd_T38 xs i).f2.f3) := by
 obtain ⟨ad, c, e, _, hK, hc0⟩ := Kd.C_get h z38 i h0 h1
 have hc : ∀ j u, c[j]? = some u → w.cell? (ad.add (i.toNat * 17 + j)) = some u := hc0
 obtain rfl := k38_open hK
 exact ⟨ad, e, hc 0 _ rfl, by rw [← add_field _ _ 1 (by omega)]; exact hc 1 _ rfl, by rw [← add_field _ _ 2 (by omega)]; exact hc 2 _ rfl, by rw [← add_field _ _ 3 (by omega)]; exact hc 3 _ rfl, by rw [← add_field _ _ 4 (by omega)]; exact hc 4 _ rfl, by rw [← add_field _ _ 5 (by omega)]; exact hc 5 _ rfl, by rw [← add_field _ _ 6 (by omega)]; exact hc 6 _ rfl, by rw [← add_field _ _ 7 (by omega)]; exact hc 7 _ rfl, by rw [← add_field _ _ 8 (by omega)]; exact hc 8 _ rfl, by rw [← add_field _ _ 9 (by omega)]; exact hc 9 _ rfl, by rw [← add_field _ _ 10 (by omega)]; exact hc 10 _ rfl, by rw [← add_field _ _ 11 (by omega)]; exact hc 11 _ rfl, by rw [← add_field _ _ 12 (by omega)]; exact hc 12 _ rfl, by rw [← add_field _ _ 13 (by omega)]; exact hc 13 _ rfl, by rw [← add_field _ _ 14 (by omega)]; exact hc 14 _ rfl, by rw [← add_field _ _ 15 (by omega)]; exact hc 15 _ rfl, by rw [← add_field _ _ 16 (by omega)]; exact hc 16 _ rfl⟩
end Go.Proofs.Ytclbempnhelmoaa.P
namespace Go.Proofs.Ytclbempnhelmoaa.P
open Go.RowKit YtclbempnhelmoaaW.PrintWords YtclbempnhelmoaaW.PrintLast YtclbempnhelmoaaW.PrintMore
theorem at_store (b : Nat) (x y : Int) (w : World) (hc : w.cell? ⟨b, 0, none⟩ = some (.int .i32 x)) (hz : w.frozen? ⟨b, 0, none⟩ = false) :
  Calls Try.prog 29 #[.pointer (some ⟨b, 0, none⟩), .int .i32 y] w fun e w' => e = .returned (.tuple #[]) ∧ w' = w.setCell ⟨b, 0, none⟩ (.int .i32 y) := by
 have hst := run_call_store (P := Try.prog) Try.func53 (by kernel_rfl) (by kernel_rfl) (by kernel_rfl) (by kernel_rfl) (k := .i32) (y := y) hc hz
 go_enter Try.func29, Try.ntmps29
 go_wp2
 go_end0
 exact ⟨rfl, rfl⟩
theorem at_load (b : Nat) (x : Int) (w : World) (hc : w.cell? ⟨b, 0, none⟩ = some (.int .i32 x)) :
  Calls Try.prog 33 #[.pointer (some ⟨b, 0, none⟩)] w fun e w' => e = .returned (.int .i32 x) ∧ w' = w := by
 have hld := run_call_load (P := Try.prog) Try.func55 (by kernel_rfl) (by kernel_rfl) (by kernel_rfl) .i32 (by kernel_rfl) hc
 go_enter Try.func33, Try.ntmps33
 go_wp2
 go_ret
 exact ⟨rfl, rfl⟩
theorem at_add (b : Nat) (x y s : Int) (w : World) (hc : w.cell? ⟨b, 0, none⟩ = some (.int .i32 x)) (hz : w.frozen? ⟨b, 0, none⟩ = false) (hs : IntKind.i32.wrap (x + y) = s) :
  Calls Try.prog 34 #[.pointer (some ⟨b, 0, none⟩), .int .i32 y] w fun e w' => e = .returned (.int .i32 s) ∧ w' = w.setCell ⟨b, 0, none⟩ (.int .i32 s) := by
 have hadd := run_call_add (P := Try.prog) Try.func56 (by kernel_rfl) (by kernel_rfl) (by kernel_rfl) .i32 (by kernel_rfl) (y := y) (s := s) hc hz (by simp [go_sem, hs])
 go_enter Try.func34, Try.ntmps34
 go_wp2
 go_ret
 exact ⟨rfl, rfl⟩
theorem clo_nil (c : Nat) (Y : List S34) (w : World) (hr : Kd.C k34 w none Y.length Y) :
  Calls Try.prog 30 #[.slice none Y.length c] w fun e w' => ∃ v, e = .returned v ∧ Kd.R k34 34 w' w.heap.size (fun _ => True) v Y ∧ Below w.heap.size w w' := by
 have hY : Y = [] := by
  cases Y with
  | nil => rfl
  | cons o Y =>
   obtain ⟨ad, e, _⟩ := hr.2.2 (by simp)
   cases e
 subst hY
 clear hr
 have q22 := fun (w : World) (a : Option Addr) (n c n' c' : Nat) => Lib.run_eql_slice_nil (P := Try.prog) w 46 _ a n c n' c' Try.underlying46
 go_enter Try.func30, Try.ntmps30
 go_wp2
 go_ret
 exact ⟨_, rfl, Kd.R_nil _ _ _ _ _, Below.refl _ _⟩
theorem clo_some (ad : Addr) (c : Nat) (Y : List S34) (w : World) (hr : Kd.C k34 w (some ad) Y.length Y) (hl : Y.length ≤ 1000000000000) :
  Calls Try.prog 30 #[.slice (some ad) Y.length c] w fun e w' => ∃ v, e = .returned v ∧ Kd.R k34 34 w' w.heap.size (fun _ => True) v Y ∧ Below w.heap.size w w' := by
 have HR := Aside0.mk hr
 have HL := Aside0.mk hl
 clear hr hl
 have q22 := fun (w : World) (a : Option Addr) (n c n' c' : Nat) => Lib.run_eql_slice_nil (P := Try.prog) w 46 _ a n c n' c' Try.underlying46
 go_enter Try.func30, Try.ntmps30
 have HB5 := Aside0.mk (below_alloc (Below.refl w.heap.size w) (.cells #[] 34))
 have HO5 := Aside0.mk (show Kd.R k34 34 (w.alloc (.cells #[] 34)) w.heap.size (fun _ => True) (.slice (some ⟨w.heap.size, 0, none⟩) 0 0) [] from ⟨fun _ _ => trivial, [], World.ownsRow_made w #[] 0 (Nat.le_refl _) (Nat.zero_le _) (by simp), Reps.none _ _⟩)
 go_wp2_with (((with_reducible refine gate_builtin (b := .append) (xs := #[.tmp 5, .tmp 6]) rfl ?_); at_builtin; refine Kd.R_append_rows k34 (w0 := w) w.heap.size rfl (.tmp 5) (.tmp 6) 46 34 (.agg #[(.int .i64 0), (.int .i64 0), (.bool false), (.int .i64 0), (.int .i64 0), (.int .i64 0), (.int .i64 0), (.int .i64 0), (.int .i64 0), (.int .i64 0), (.int .i64 0), (.int .i64 0)]) 96 rfl Try.underlying46 info34 rfl (by decide) (by omega) (.slice (some ⟨w.heap.size, 0, none⟩) 0 0) ([] : List S34) Y _ _ _ (fun _ => True) (fun _ => False) rfl rfl ?aO ?aR (fun _ _ h => h) (fun _ h => h.elim) ?aF ?aB ?aS ?aL ?_; (case aR => exact Kd.C_below HR.out HB5.out); (case aB => exact HB5.out); (case aF => exact (fun _ _ => trivial)); (case aO => exact HO5.out); (case aS => exact below_size HB5.out); (case aL => have := HL.out; simp only [List.length_nil]; omega); intro v2 w2 ho hb hg hat; have HO := Aside0.mk ho; have HB := Aside0.mk hb; clear ho hb hg hat))
 go_ret
 rw [List.nil_append] at HO
 exact ⟨_, rfl, HO.out, HB.out⟩
def slices_CloneO.f (Y : List S34) : Option (List S34) := if Y.length ≤ 1000000000000 then some Y else none
theorem slices_CloneO.calls (A0 : Option Addr) (c0 : Nat) (l0 : List S34) (r : List S34) (w : World) (hr0 : Kd.C k34 w A0 l0.length l0) (h : slices_CloneO.f l0 = some r) :
  Calls Try.prog 30 #[.slice A0 l0.length c0] w fun e w' => ∃ v0_ : Value, e = .returned v0_ ∧ Kd.R k34 34 w' w.heap.size (fun _ => True) v0_ r ∧ Below w.heap.size w w' := by
 unfold slices_CloneO.f at h
 split at h
 ·rename_i hc
  cases h
  cases A0 with
  | none => exact clo_nil c0 l0 w hr0
  | some ad => exact clo_some ad c0 l0 w hr0 hc
 ·exact absurd h (by simp)
structure It where
 b : S48
 p : Nat
def zIt : It := ⟨z48, 0⟩
def kPt : Kd Nat := Kd.scalar (fun p : Nat => Value.pointer (some ⟨p, 0, none⟩)) (fun _ => rfl)
def kIt : Kd It := Kd.iso (Kd.pair k48 kPt) (fun x : It => (x.b, x.p))
theorem kIt_open {w : World} {x : It} {cs : List Value} (h : kIt.K w x cs) : ∃ A1 c1, cs = [.int .i64 x.b.f0, .slice A1 x.b.f1.length c1, .pointer (some ⟨x.p, 0, none⟩)] ∧ x.b.f1.length ≤ c1 ∧ k34.C w A1 x.b.f1.length x.b.f1 := by
 obtain ⟨_, _, rfl, h1, rfl⟩ := h
 obtain ⟨A1, c1, rfl, l1, g1⟩ := k48_open h1
 exact ⟨A1, c1, rfl, l1, g1⟩
theorem kIt_openM {w : World} {base : Nat} {ok : Nat → Prop} {x : It} {cs : List Value} (h : kIt.M w base ok x cs) : ∃ v1, cs = [.int .i64 x.b.f0, v1, .pointer (some ⟨x.p, 0, none⟩)] ∧ k34.R 34 w base ok v1 x.b.f1 := by
 obtain ⟨_, _, rfl, h1, rfl⟩ := h
 obtain ⟨v1, rfl, g1⟩ := k48_openM h1
 exact ⟨v1, rfl, g1⟩
theorem kIt_mkM (w : World) (base : Nat) (ok : Nat → Prop) (x : It) {v1 : Value} (g1 : k34.R 34 w base ok v1 x.b.f1) : kIt.M w base ok x [.int .i64 x.b.f0, v1, .pointer (some ⟨x.p, 0, none⟩)] := ⟨[.int .i64 x.b.f0, v1], [.pointer (some ⟨x.p, 0, none⟩)], rfl, k48_mkM w base ok x.b g1, rfl⟩
def rd_It (xs : List It) (i : Int) : It := xs.getD i.toNat zIt
theorem at_It {w : World} {A : Option Addr} {n : Nat} {xs : List It} (h : Kd.C kIt w A n xs) (i : Int) (h0 : 0 ≤ i) (h1 : i < n) : ∃ ad A1 c1, A = some ad ∧ w.cell? (ad.add (i.toNat * 3)) = some (.int .i64 (rd_It xs i).b.f0) ∧ w.cell? ⟨(ad.add (i.toNat * 3)).block, (ad.add (i.toNat * 3)).off + 1, none⟩ = some (.slice A1 (rd_It xs i).b.f1.length c1) ∧ w.cell? ⟨(ad.add (i.toNat * 3)).block, (ad.add (i.toNat * 3)).off + 2, none⟩ = some (.pointer (some ⟨(rd_It xs i).p, 0, none⟩)) ∧ (rd_It xs i).b.f1.length ≤ c1 ∧ k34.C w A1 (rd_It xs i).b.f1.length (rd_It xs i).b.f1 := by
 obtain ⟨ad, c, e, _, hK, hc0⟩ := Kd.C_get h zIt i h0 h1
 have hc : ∀ j u, c[j]? = some u → w.cell? (ad.add (i.toNat * 3 + j)) = some u := hc0
 obtain ⟨A1, c1, rfl, l1, g1⟩ := kIt_open hK
 exact ⟨ad, A1, c1, e, hc 0 _ rfl, by rw [← add_field _ _ 1 (by omega)]; exact hc 1 _ rfl, by rw [← add_field _ _ 2 (by omega)]; exact hc 2 _ rfl, l1, g1⟩
abbrev SdC (wn tr : Int) (vw vo : Value) (nx : Int) : Array Value := #[.int .i64 wn, .int .i64 tr, vw, vo, .int .i64 nx]
structure Sd (w0 w : World) (F : Nat → Prop) (g : Nat) (wn tr : Int) (W : List S34) (O : List (It × Int)) (nx : Int) (vw vo : Value) : Prop where
 bl : Below w0.heap.size w0 w
 blk : w.heap[g]? = some (.cells (SdC wn tr vw vo nx) 63 (0, 0))
 new : w0.heap.size ≤ g
 lt : ∀ k, F k → k < w.heap.size
 fg : F g
 roww : k34.R 34 w w0.heap.size (fun k => F k ∧ k ≠ g ∧ some k ≠ vo.ownBlock ∧ ∀ o ∈ O, k ≠ o.1.p) vw W
 rowo : kIt.R 73 w w0.heap.size (fun k => F k ∧ k ≠ g ∧ some k ≠ vw.ownBlock ∧ ∀ o ∈ O, k ≠ o.1.p) vo (O.map Prod.fst)
 cnt : ∀ o ∈ O, F o.1.p ∧ o.1.p ≠ g ∧ w0.heap.size ≤ o.1.p ∧ w.heap[o.1.p]? = some (.cells #[.int .i32 o.2] 71 (0, 0))
 apart : O.Pairwise (fun a b => a.1.p ≠ b.1.p)
theorem snew_bad (wn tr : Int) (w : World) (b1 b2 b3 b4 : Bool) (h1 : decide (wn < 1) = b1) (h2 : decide (wn > 16) = b2) (h3 : decide (tr < 1) = b3) (h4 : decide (tr > 100) = b4) (hb : (b1 || b2 || b3 || b4) = true) :
    Calls Try.prog 9 #[.int .i64 wn, .int .i64 tr] w fun e w' => e = .returned (.tuple #[.pointer none, .int .i64 1]) ∧ w = w' := by
  cases b1 <;> cases b2 <;> cases b3 <;> cases b4 <;> first
    | (exfalso; revert hb; decide)
    | (clear hb
       go_enter Try.func9, Try.ntmps9
       go_wp2
       go_ret2
       exact ⟨rfl, rfl⟩)
theorem snew_ok {w0 w : World} (hb : Below w0.heap.size w0 w) (wn tr : Int) (h1 : decide (wn < 1) = false) (h2 : decide (wn > 16) = false) (h3 : decide (tr < 1) = false) (h4 : decide (tr > 100) = false) :
  Calls Try.prog 9 #[.int .i64 wn, .int .i64 tr] w fun e w' => ∃ g F, e = .returned (.tuple #[.pointer (some ⟨g, 0, none⟩), .int .i64 0]) ∧ Sd w0 w' F g wn tr [] [] 0 (.slice none 0 0) (.slice none 0 0) ∧ (∀ k, F k → w.heap.size ≤ k) ∧ Below w.heap.size w w' := by
 have HB := Aside0.mk hb
 clear hb
 go_enter Try.func9, Try.ntmps9
 go_wp2_with ((with_reducible refine gate_dst (N := 23) rfl ?_); refine box_event ?hg (N := 23) ?hd (cs := SdC wn tr (.slice none 0 0) (.slice none 0 0) 0) (t := 63) ?hr ?_; (case hd => rfl); (case hg => rfl); (case hr => first | (go_simp; done) | (go_simp; rfl) | rfl | kernel_rfl); intro g hg w1 hbox hb; have B1 := Aside0.mk hbox; have L1 := Aside0.mk hb; have G1 := Aside0.mk hg; clear hb hbox hg)
 go_ret2
 refine ⟨g, fun k => k = g, rfl, ⟨below_step HB.out L1.out, B1.out, ?_, fun k hk => by rw [hk]; exact blk_lt B1.out, rfl, Kd.R_nil _ _ _ _ _, Kd.R_nil _ _ _ _ _, fun o ho => by simp at ho, List.Pairwise.nil⟩, fun k hk => by rw [hk, G1.out]; exact Nat.le_refl _, L1.out⟩
 rw [G1.out]
 exact below_size HB.out
theorem swait_s {w0 w : World} {F : Nat → Prop} {g : Nat} {wn tr nx : Int} {W : List S34} {O : List (It × Int)} {vw vo : Value} (h : Sd w0 w F g wn tr W O nx vw vo) (hl : W.length ≤ 1024) :
  Calls Try.prog 23 #[.pointer (some ⟨g, 0, none⟩)] w fun e w' => ∃ v, e = .returned v ∧ k34.R 34 w' w.heap.size (fun _ => True) v W ∧ Below w.heap.size w w' := by
 obtain ⟨A, c, rfl, hlc, hC⟩ := Kd.R_reads h.roww
 have hx : w.cell? ⟨g, 2, none⟩ = some (.slice A W.length c) := (blk_cell h.blk 2).trans rfl
 have HC := Aside0.mk hC
 have HL := Aside0.mk (show W.length ≤ 1000000000000 by omega)
 clear h hl hlc hC
 go_enter Try.func23, Try.ntmps23
 go_wp2_with (go_at_call 30; (refine (slices_CloneO.calls A c W W _ HC.out (if_pos HL.out)).mono ?_); rintro e w1 ⟨v, rfl, ho, hb⟩; have HO := Aside0.mk ho; have HB := Aside0.mk hb; clear ho hb)
 go_ret
 exact ⟨_, rfl, HO.out, HB.out⟩
def firstL (O : List (It × Int)) (nx : Int) : Int := match O with | [] => nx | o :: _ => o.1.b.f0
theorem sfirst_s {w0 w : World} {F : Nat → Prop} {g : Nat} {wn tr nx : Int} {W : List S34} {O : List (It × Int)} {vw vo : Value} (h : Sd w0 w F g wn tr W O nx vw vo) :
  Calls Try.prog 28 #[.pointer (some ⟨g, 0, none⟩)] w fun e w' => e = .returned (.int .i64 (firstL O nx)) ∧ w = w' := by
 obtain ⟨A, c, rfl, hlc, hC⟩ := Kd.R_reads h.rowo
 have hn : w.cell? ⟨g, 4, none⟩ = some (.int .i64 nx) := (blk_cell h.blk 4).trans rfl
 have hx : w.cell? ⟨g, 3, none⟩ = some (.slice A (O.map Prod.fst).length c) := (blk_cell h.blk 3).trans rfl
 cases O with
 | nil =>
  clear h hlc hC
  replace hx : w.cell? ⟨g, 3, none⟩ = some (.slice A 0 c) := hx
  go_enter Try.func28, Try.ntmps28
  go_wp2
  go_ret
  exact ⟨rfl, rfl⟩
 | cons o r =>
  obtain ⟨n, hn2⟩ : ∃ n, n = (((o :: r).map Prod.fst).length) := ⟨_, rfl⟩
  have hpos : (0 : Int) < (n : Int) := by rw [hn2]; simp <;> omega
  obtain ⟨ad, A1, c1, e_, hx0, _, _, _, _⟩ := at_It hC 0 (by omega) (by rw [← hn2]; exact hpos)
  cases e_
  have e0 : ad.add ((0 : Int).toNat * 3) = ad := by
   show ad.add 0 = ad
   cases ad
   simp [Addr.add]
  rw [e0] at hx0
  rw [← hn2] at hx
  have b0 : decide ((n : Int) > 0) = true := decide_eq_true hpos
  have hp := eq_true hpos
  clear h hlc hC hn2 e0
  go_enter Try.func28, Try.ntmps28
  go_wp2
  go_ret
  exact ⟨rfl, rfl⟩
theorem w64 {x : Int} (h0 : -9223372036854775808 ≤ x) (h1 : x < 9223372036854775808) : wrap64 x = x := by unfold wrap64; omega
theorem Ev.from {α : Type} {g : Nat → Option α} {r : α} (n : Nat) (h : ∀ k, g (k + n) = some r) : Ev g r := ⟨n, fun k hk => by
 obtain ⟨m, rfl⟩ : ∃ m, k = m + n := ⟨k - n, by omega⟩
 exact h m⟩
theorem bits_and_i64 (a b : Nat) (ha : a < 2 ^ 62) (hb : b < 2 ^ 62) : Go.bits .and .i64 (a : Int) (b : Int) = ((a &&& b : Nat) : Int) := (bits_nat .i64 62 (by decide) (by intro n h0 h1; rw [IntKind.wrap_i64]; omega) a b ha hb).1
theorem rd_mem (l : List Int) (i : Int) (h0 : 0 ≤ i) (h1 : i < l.length) : rd l i ∈ l := by
 have hi : i.toNat < l.length := by omega
 unfold rd
 rw [List.getD_eq_getElem?_getD, List.getElem?_eq_getElem hi]
 exact List.getElem_mem hi
theorem bnd64 {n : Int} (h : (Lit.int .i64 n).wf = true) : -9223372036854775808 ≤ n ∧ n ≤ 9223372036854775807 := Go.bounds_i64 h
theorem wrap_u64 (n : Int) : IntKind.u64.wrap n = n % 18446744073709551616 := by simp [IntKind.wrap, IntKind.bits, IntKind.signed]
def Bytes (l : List Int) : Prop := ∀ x ∈ l, 0 ≤ x ∧ x ≤ 255
def be : Nat → Int → List Int
 | 0, _ => []
 | n + 1, v => be n (v / 256) ++ [v % 256]
theorem be_length (n : Nat) (v : Int) : (be n v).length = n := by
 induction n generalizing v with
 | zero => rfl
 | succ n ih => simp [be, ih]
theorem be_cons (n : Nat) : ∀ v : Int, be (n + 1) v = (v / 256 ^ n % 256) :: be n v := by
 induction n with
 | zero => intro v; simp [be]
 | succ n ih =>
  intro v
  show be (n + 1) (v / 256) ++ [v % 256] = _
  rw [ih (v / 256), Int.ediv_ediv_of_nonneg (by decide), ← Int.pow_succ']
  rfl
theorem be_set (m : Nat) (x : Int) (t : List Int) : (List.replicate (m + 1) (0 : Int) ++ t).set m x = List.replicate m 0 ++ x :: t := by
 induction m with
 | zero => rfl
 | succ m ih => rw [List.replicate_succ, List.cons_append, List.set_cons_succ, ih, List.replicate_succ (n := m), List.cons_append]
theorem be_add (n : Nat) : ∀ v a : Int, be n (v + a * 256 ^ n) = be n v := by
 induction n with
 | zero => intro v a; rfl
 | succ n ih =>
  intro v a
  have e : v + a * 256 ^ (n + 1) = v + (a * 256 ^ n) * 256 := by rw [Int.pow_succ, Int.mul_assoc]
  simp only [be]
  rw [e, Int.add_mul_ediv_right _ _ (by decide), Int.add_mul_emod_self_right, ih]
theorem Bytes.cons {x : Int} {l : List Int} (h : Bytes (x :: l)) : (0 ≤ x ∧ x ≤ 255) ∧ Bytes l := ⟨h x (by simp), fun y hy => h y (by simp [hy])⟩
theorem Bytes.sub {l m : List Int} (h : Bytes l) (hm : ∀ x ∈ m, x ∈ l) : Bytes m := fun x hx => h x (hm x hx)
theorem Bytes.drop {l : List Int} (h : Bytes l) (n : Nat) : Bytes (l.drop n) := h.sub fun _ => List.mem_of_mem_drop
theorem Bytes.take {l : List Int} (h : Bytes l) (n : Nat) : Bytes (l.take n) := h.sub fun _ => List.mem_of_mem_take
theorem pow256_pos (n : Nat) : (0 : Int) < 256 ^ n := Int.pow_pos (by decide)
def intSpec (v : Int) : List Int := be 8 (v % 18446744073709551616)
end Go.Proofs.Ytclbempnhelmoaa.P
namespace Go.Proofs.Ytclbempnhelmoaa.P
open Go.RowKit YtclbempnhelmoaaW.PrintWords YtclbempnhelmoaaW.PrintLast YtclbempnhelmoaaW.PrintMore
attribute [local go_sem] max2_int min2_int max_two min_two max_three min_three max_four min_four
theorem eqA30 (d : Nat) (w : World) (x0 y0 : Bool) (x1 y1 : Int) (x2 y2 : Int) (x3 y3 : Int) (x4 y4 : Int) (x5 y5 : Int) :
  (Op.equalIn (d + 2) 30 (.agg #[.bool x0, .int .i64 x1, .int .i64 x2, .int .i64 x3, .int .i64 x4, .int .i64 x5]) (.agg #[.bool y0, .int .i64 y1, .int .i64 y2, .int .i64 y3, .int .i64 y4, .int .i64 y5])).run Try.prog w = .ok (x0 == y0 && (x1 == y1 && (x2 == y2 && (x3 == y3 && (x4 == y4 && (x5 == y5)))))) w := by
 refine eqA_of Try.underlying30 (by kernel_rfl) ?_
 refine eqf_cons (by rfl) (by go_simp; rfl) (by go_simp; rfl) (by go_simp) ?_
 refine eqf_cons (by rfl) (by go_simp; rfl) (by go_simp; rfl) (by go_simp) ?_
 refine eqf_cons (by rfl) (by go_simp; rfl) (by go_simp; rfl) (by go_simp) ?_
 refine eqf_cons (by rfl) (by go_simp; rfl) (by go_simp; rfl) (by go_simp) ?_
 refine eqf_cons (by rfl) (by go_simp; rfl) (by go_simp; rfl) (by go_simp) ?_
 exact eqf_last (by rfl) (by go_simp; rfl) (by go_simp; rfl) (by go_simp)
theorem eqA32 (d : Nat) (w : World) (x0 y0 : Int) (x1 y1 : Int) (x2 y2 : Int) :
  (Op.equalIn (d + 2) 32 (.agg #[.int .i64 x0, .int .i64 x1, .int .i64 x2]) (.agg #[.int .i64 y0, .int .i64 y1, .int .i64 y2])).run Try.prog w = .ok (x0 == y0 && (x1 == y1 && (x2 == y2))) w := by
 refine eqA_of Try.underlying32 (by kernel_rfl) ?_
 refine eqf_cons (by rfl) (by go_simp; rfl) (by go_simp; rfl) (by go_simp) ?_
 refine eqf_cons (by rfl) (by go_simp; rfl) (by go_simp; rfl) (by go_simp) ?_
 exact eqf_last (by rfl) (by go_simp; rfl) (by go_simp; rfl) (by go_simp)
theorem eqA34 (d : Nat) (w : World) (x0 y0 : Int) (x1 y1 : Int) (x2 y2 : Bool) (x3 y3 : Int) (x4 y4 : Int) (x5 y5 : Int) (x6 y6 : Int) (x7 y7 : Int) (x8 y8 : Int) (x9 y9 : Int) (x10 y10 : Int) (x11 y11 : Int) :
  (Op.equalIn (d + 3) 34 (.agg #[.int .i64 x0, .int .i64 x1, .bool x2, .int .i64 x3, .int .i64 x4, .int .i64 x5, .int .i64 x6, .int .i64 x7, .int .i64 x8, .int .i64 x9, .int .i64 x10, .int .i64 x11]) (.agg #[.int .i64 y0, .int .i64 y1, .bool y2, .int .i64 y3, .int .i64 y4, .int .i64 y5, .int .i64 y6, .int .i64 y7, .int .i64 y8, .int .i64 y9, .int .i64 y10, .int .i64 y11])).run Try.prog w = .ok (x0 == y0 && (x1 == y1 && ((x2 == y2 && (x3 == y3 && (x4 == y4 && (x5 == y5 && (x6 == y6 && (x7 == y7)))))) && ((x8 == y8 && (x9 == y9 && (x10 == y10))) && (x11 == y11))))) w := by
 refine eqA_of Try.underlying34 (by kernel_rfl) ?_
 refine eqf_cons (by rfl) (by go_simp; rfl) (by go_simp; rfl) (by go_simp) ?_
 refine eqf_cons (by rfl) (by go_simp; rfl) (by go_simp; rfl) (by go_simp) ?_
 refine eqf_cons (by rfl) (by go_simp) (by go_simp) (eqA30 (d + 0) w _ _ _ _ _ _ _ _ _ _ _ _) ?_
 refine eqf_cons (by rfl) (by go_simp) (by go_simp) (eqA32 (d + 0) w _ _ _ _ _ _) ?_
 exact eqf_last (by rfl) (by go_simp; rfl) (by go_simp; rfl) (by go_simp)
end Go.Proofs.Ytclbempnhelmoaa.P
namespace Go.Proofs.Ytclbempnhelmoaa.P
open Go.RowKit YtclbempnhelmoaaW.PrintWords YtclbempnhelmoaaW.PrintLast YtclbempnhelmoaaW.PrintMore
open YtclbempnhelmoaaW.PrintWords renaming below_alloc → YA, pw_below_drewN → YB, below_drew1 → YC, below_step → YD, below_size → YE, blk_drewN → YF, blk_drew → YG, blk_alloc → YH, blk_cell → YI, blk_frozen → YJ
open YtclbempnhelmoaaW.PrintWords.Aside0 renaming mk → YK
open YtclbempnhelmoaaW.PrintWords.Kd renaming R_alloc → YL, R_drewN → YM, R_drew → YN
attribute [local go_sem] max2_int min2_int max_two min_two max_three min_three max_four min_four
def serial_of.l0 : Nat → List Int → List Int → Int → Int → Option (List Int)
 | 0, _, _, _, _ => none
 | k + 1, x3, x9, x10, x11 => if x11 < x10 then (if 0 ≤ x11 then (if x11 < (x9.length : Int) then (if x3.length < 70368744177664 then (serial_of.l0 k (x3 ++ [IntKind.u16.wrap (rd x9 x11)]) x9 x10 (wrap64 (x11 + 1))) else (none)) else (none)) else (none)) else (some x3)
def serial_of.f (k : Nat) (l0 : List Int) : Option (List Int) := if 0 ≤ (l0.length : Int) then (if ((l0.length : Int) : Int).toNat ≤ 140737488355328 then (serial_of.l0 k (([] : List Int)) l0 (l0.length : Int) 0) else (none)) else (none)
theorem serial_of.calls (k : Nat) (A0 : Option Addr) (c0 : Nat) (l0 : List Int) (r : List Int) (w : World) (hr0 : Kd.C (Kd.int .i64) w A0 l0.length l0) (hc0 : l0.length ≤ c0) (h : serial_of.f k l0 = some r) :
  Calls Try.prog 47 #[.slice A0 l0.length c0] w fun e w' => ∃ v0_ : Value, e = .returned (v0_) ∧ Kd.R (Kd.int .u16) 89 w' w.heap.size (fun _ => True) v0_ r ∧ Below w.heap.size w w' := by
 have HR0 := YK hr0; have HC0 := YK hc0; clear hr0 hc0
 have HB := YK (Below.refl w.heap.size w)
 have H : (if 0 ≤ (l0.length : Int) then (if ((l0.length : Int) : Int).toNat ≤ 140737488355328 then (serial_of.l0 k (([] : List Int)) l0 (l0.length : Int) 0) else (none)) else (none)) = some r := h
 clear h
 by_cases c2 : 0 ≤ (l0.length : Int)
 rotate_left
 ·rw [if_neg c2] at H
  exact absurd H (by simp)
 rw [if_pos c2] at H
 have c2b0 := eq_true c2
 have c2b1 : decide (0 ≤ (l0.length : Int)) = true := decide_eq_true c2
 clear c2
 by_cases c3 : ((l0.length : Int) : Int).toNat ≤ 140737488355328
 rotate_left
 ·rw [if_neg c3] at H
  exact absurd H (by simp)
 rw [if_pos c3] at H
 have c3b0 := eq_true c3
 have c3b1 : decide (((l0.length : Int) : Int).toNat ≤ 140737488355328) = true := decide_eq_true c3
 clear c3
 obtain ⟨y108, hy108⟩ : ∃ y_ : List Int, y_ = (([] : List Int)) := ⟨_, rfl⟩
 replace H : (serial_of.l0 k y108 l0 (l0.length : Int) 0) = some r := by first | (rw [hy108]; with_reducible exact H) | (have H2_ := (Option.bind_some _ _).symm.trans H; rw [hy108]; with_reducible exact H2_) | (have H2_ := (Option.bind_some _ _).symm.trans H; with_reducible exact H2_) | with_reducible exact H | (rw [hy108]; exact H) | exact H
 have Ny108 := YK hy108; clear hy108
 have H' := YK H
 clear H
 go_enter Try.func47, Try.ntmps47
 go_wp2_with (first | ((with_reducible refine gate_dst (N := 8) rfl ?_); refine Kd.R_make0 (Kd.int .u16) _ 89 rfl (N := 8) rfl 86 _ _ rfl (l0.length : Int) rfl rfl Try.underlying86 (.int .u16 0) 2 info89 (by decide) (ok := fun _ => True) trivial (of_decide_eq_true (by first | (with_reducible assumption) | assumption)) (Nat.le_trans (Nat.mul_le_mul_right _ (of_decide_eq_true (by first | (with_reducible assumption) | assumption) : (l0.length : Int).toNat ≤ 140737488355328)) (by omega)) (Below.refl _ _) (Nat.le_refl _) ?_; intro v109 w4 ho5 hb hg_ hnew_; clear hg_ hnew_; (first | rw [← Ny108.out] at ho5 | (simp only [Int.reduceToNat] at ho5; rw [← Ny108.out] at ho5)); have n0_ := YK (Kd.R_lower ho5 (YE (upB HB))); have n1_ := YK (YD (upB HB) hb); clear HB; have HO110 := n0_; have HB := n1_; clear n0_ n1_; clear hb ho5))
 go_loopg [3, 11] k (fun kq v3 v11 w' => ∃ (x3_1 : List Int) (x11_1 : Int), v11 = .int .i64 x11_1 ∧ Aside0 (serial_of.l0 kq x3_1 l0 (l0.length : Int) x11_1 = some r) ∧ Aside0 (kq ≤ k) ∧ Aside0 (Kd.R (Kd.int .u16) 89 w' w.heap.size (fun _ => True) v3 x3_1) ∧ Aside0 (Below w.heap.size w w'))
 case atStart => exact ⟨(y108), (0), (by first | rfl | (simp; done) | (simp [*]; done)), H', ⟨Nat.le_refl _⟩, ⟨by (with_reducible repeat (first | apply YL | apply YM | apply YN)); exact HO110.out⟩, ⟨by repeat (first | (with_reducible first | exact HB.out | apply YA | apply YB | apply YC) | exact HB.out)⟩⟩
 case round =>
  clear H'
  try clear c2; try clear c2b0
  try clear c2b1; try clear p2
  try clear c3; try clear c3b0
  try clear c3b1; try clear c4
  obtain ⟨x3_1, x11_1, rfl, HA, HK1, HO_3, HB⟩ := hrel
  cases gk with
  | zero => exact absurd HA.out (by simp [serial_of.l0])
  | succ k1 =>
   have H := HA.out
   clear HA
   simp only [serial_of.l0] at H
   by_cases c6 : x11_1 < (l0.length : Int)
   ·rw [if_pos c6] at H
    have c6b0 : decide (x11_1 < (l0.length : Int)) = true := decide_eq_true c6
    clear c6
    by_cases c7 : 0 ≤ x11_1
    rotate_left
    ·rw [if_neg c7] at H
     exact absurd H (by simp)
    rw [if_pos c7] at H; have c7b0 : decide (0 ≤ x11_1) = true := decide_eq_true c7; clear c7
    by_cases c8 : x11_1 < (l0.length : Int)
    rotate_left
    ·rw [if_neg c8] at H
     exact absurd H (by simp)
    rw [if_pos c8] at H
    have c8b0 : decide (x11_1 < (l0.length : Int)) = true := decide_eq_true c8
    clear c8
    by_cases c9 : x3_1.length < 70368744177664
    rotate_left
    ·rw [if_neg c9] at H
     exact absurd H (by simp)
    rw [if_pos c9] at H; have LMc9 := YK c9; clear c9
    obtain ⟨y112, hy112⟩ : ∃ y_ : List Int, y_ = (x3_1 ++ [IntKind.u16.wrap (rd l0 x11_1)]) := ⟨_, rfl⟩
    replace H : (serial_of.l0 k1 y112 l0 (l0.length : Int) (wrap64 (x11_1 + 1))) = some r := by first | (rw [hy112]; with_reducible exact H) | (have H2_ := (Option.bind_some _ _).symm.trans H; rw [hy112]; with_reducible exact H2_) | (have H2_ := (Option.bind_some _ _).symm.trans H; with_reducible exact H2_) | with_reducible exact H | (rw [hy112]; exact H) | exact H
    have Ny112 := YK hy112; clear hy112
    have H' := YK H
    clear H
    have p111 : 0 ≤ (x11_1 : Int) := of_decide_eq_true (by first | (with_reducible assumption) | assumption)
    have q111 : x11_1 < (l0.length : Int) := of_decide_eq_true (by first | (with_reducible assumption) | assumption)
    obtain ⟨ad111, e111, hx111_0⟩ := Kd.at_int HR0.out x11_1 p111 q111
    cases e111
    replace hx111_0 := (HB.out.cell (World.block_lt_of_cell? w _ hx111_0)).trans hx111_0
    replace p111 := eq_true p111
    replace q111 := eq_true q111
    go_wp2_with (first | ((with_reducible refine gate_builtin (b := .append) (xs := #[.tmp 15, .tmp 18]) rfl ?_); at_builtin; refine Kd.R_append (Kd.int .u16) (w0 := w) w.heap.size rfl (.tmp 15) (.tmp 18) 86 89 (.int .u16 0) 2 rfl Try.underlying86 info89 rfl (by decide) (by omega) u3 x3_1 (IntKind.u16.wrap (rd l0 x11_1)) [.int .u16 (IntKind.u16.wrap (rd l0 x11_1))] (fun _ => True) (fun _ => False) rfl rfl ?aP (fun _ hk => hk.elim) ?aF ?aO ?aB ?aS ?aL ?_; (case aP => exact rfl); (case aB => exact (upB HB)); (case aF => exact (fun _ _ => trivial)); (case aO => exact (upR HO_3)); (case aS => exact (YE (upB HB))); (case aL => have := LMc9.out; omega); intro v113 w10 ho hb hg hat; rw [← Ny112.out] at ho; have n0_ := YK (hb); have n1_ := YK (ho); clear HB; clear HO_3; have HB := n0_; have HO114 := n1_; clear n0_ n1_; clear ho hb hg hat))
    go_roundg k1
    case measure => have := HK1.out; omega
    case rel => exact ⟨(y112), (wrap64 (x11_1 + 1)), (by first | rfl | (simp; done) | (simp [*]; done)), H', ⟨by have := HK1.out; omega⟩, ⟨by (with_reducible repeat (first | apply YL | apply YM | apply YN)); exact HO114.out⟩, ⟨by repeat (first | (with_reducible first | exact HB.out | apply YA | apply YB | apply YC) | exact HB.out)⟩⟩
   rw [if_neg c6] at H
   have c6b0 : decide (x11_1 < (l0.length : Int)) = false := decide_eq_false c6
   clear c6
   obtain rfl := Option.some.inj H
   go_wp2
   go_ret
   exact ⟨_, by first | rfl | (simp [errW_none, errW_some] <;> rfl) | (simp [*, errW_none, errW_some] <;> rfl), by (with_reducible repeat (first | apply YL | apply YM | apply YN)); exact HO_3.out, by repeat (first | (with_reducible first | exact HB.out | apply YA | apply YB | apply YC) | exact HB.out)⟩
def serial_Far.f (k : Nat) (a0 : Int) (a1 : Int) : Option (Int) := (serial_of.f k (([a0, a1] : List Int))).bind fun t118 => (if 1 < (t118.length : Int) then (if 0 < (t118.length : Int) then (some (wrap64 (IntKind.u16.wrap ((rd t118 1) - (rd t118 0))))) else (none)) else (none))
theorem serial_Far.calls (k : Nat) (a0 : Int) (a1 : Int) (r : Int) (w : World) (h : serial_Far.f k a0 a1 = some r) :
  Calls Try.prog 24 #[.int .i64 a0, .int .i64 a1] w fun e w' => e = .returned (.int .i64 r) ∧ Below w.heap.size w w' := by
 have HB := YK (Below.refl w.heap.size w)
 have H : ((serial_of.f k (([a0, a1] : List Int))).bind fun t118 => (if 1 < (t118.length : Int) then (if 0 < (t118.length : Int) then (some (wrap64 (IntKind.u16.wrap ((rd t118 1) - (rd t118 0))))) else (none)) else (none))) = some r := h
 clear h
 obtain ⟨y115, hy115⟩ : ∃ y_ : List Int, y_ = (([a0, a1] : List Int)) := ⟨_, rfl⟩
 replace H : ((serial_of.f k y115).bind fun t118 => (if 1 < (t118.length : Int) then (if 0 < (t118.length : Int) then (some (wrap64 (IntKind.u16.wrap ((rd t118 1) - (rd t118 0))))) else (none)) else (none))) = some r := by first | (rw [hy115]; with_reducible exact H) | (have H2_ := (Option.bind_some _ _).symm.trans H; rw [hy115]; with_reducible exact H2_) | (have H2_ := (Option.bind_some _ _).symm.trans H; with_reducible exact H2_) | with_reducible exact H | (rw [hy115]; exact H) | exact H
 have Ny115 := YK hy115; clear hy115; replace H := Option.bind_eq_some_iff.mp H; obtain ⟨t118, A30, H⟩ := H
 replace H : (if 1 < (t118.length : Int) then (if 0 < (t118.length : Int) then (some (wrap64 (IntKind.u16.wrap ((rd t118 1) - (rd t118 0))))) else (none)) else (none)) = some r := H
 have A3 := YK A30; clear A30
 by_cases c4 : 1 < (t118.length : Int)
 rotate_left
 ·rw [if_neg c4] at H
  exact absurd H (by simp)
 rw [if_pos c4] at H
 have c4b0 : decide (1 < (t118.length : Int)) = true := decide_eq_true c4
 have c4b1 : decide (1 < t118.length) = true := decide_eq_true (by omega)
 clear c4
 by_cases c5 : 0 < (t118.length : Int)
 rotate_left
 ·rw [if_neg c5] at H
  exact absurd H (by simp)
 rw [if_pos c5] at H
 have c5b0 : decide (0 < (t118.length : Int)) = true := decide_eq_true c5
 have c5b1 : decide (0 < t118.length) = true := decide_eq_true (by omega)
 clear c5
 obtain rfl := Option.some.inj H
 go_enter Try.func24, Try.ntmps24
 go_wp2_with (first | ((with_reducible refine gate_dst (N := 8) rfl ?_); refine Kd.R_lit (Kd.int .i64) _ 3 ?hg (N := 8) ?hd (xs := ([a0, a1] : List Int)) (inner := [.int .i64 a0, .int .i64 a1]) (ok := fun _ => True) (okp := fun _ => True) ?hr ?hp (fun _ hk => hk) trivial (Below.refl _ _) (Nat.le_refl _) (by simp) ?_; (case hd => rfl); (case hg => rfl); (case hr => first | (go_simp; done) | (go_simp; rfl)); (case hp => exact (Reps.one (show Kd.M (Kd.int .i64) _ _ _ a0 [.int .i64 a0] from rfl) (Reps.one (show Kd.M (Kd.int .i64) _ _ _ a1 [.int .i64 a1] from rfl) (Reps.none _ _)))); intro v116 w6 ho7 hb hg_ hnew_; clear hg_ hnew_; (first | rw [← Ny115.out] at ho7 | (simp only [Int.reduceToNat] at ho7; rw [← Ny115.out] at ho7)); have n0_ := YK (Kd.R_lower ho7 (YE (upB HB))); have n1_ := YK (YD (upB HB) hb); clear HB; have HO117 := n0_; have HB := n1_; clear n0_ n1_; clear hb ho7; obtain ⟨Ao8, co8, eo8⟩ := Kd.R_slice HO117.out; subst eo8) | (go_at_call 47; (with_reducible refine (serial_of.calls k _ _ y115 t118 _ ?side1 ?side2 A3.out).mono ?_); (case side1 => repeat (first | exact (Kd.R_reads' HO117.out).2.2 | (with_reducible refine Kd.C_alloc ?_ _) | (with_reducible refine Kd.C_drewN ?_ _) | (with_reducible refine Kd.C_drew ?_))); (case side2 => exact (Kd.R_reads' HO117.out).2.1); rintro e w9 ⟨v119, rfl, ho0, hb⟩; have n0_ := YK (Kd.R_below (upR HO117) hb); have n1_ := YK (Kd.R_lower ho0 (YE (upB HB))); have n2_ := YK (YD (upB HB) hb); clear HO117; clear HB; have HO117 := n0_; have HO120 := n1_; have HB := n2_; clear n0_ n1_ n2_; (try clear hb); (try clear hb2); (try clear hk); (try clear hi); (try clear ho0); obtain ⟨Ao10, co10, eo10⟩ := Kd.R_slice HO120.out; subst eo10; have p121 : 0 ≤ (1 : Int) := (by omega); have q121 : 1 < (t118.length : Int) := of_decide_eq_true (by first | (with_reducible assumption) | assumption); obtain ⟨ad121, e121, hx121_0⟩ := Kd.at_int (Kd.R_reads' HO120.out).2.2 1 p121 q121; cases e121; (try simp only [show (1 : Int).toNat = 1 from rfl, Nat.reduceMul, Nat.reduceEqDiff, Go.Addr.add, ↓reduceIte] at hx121_0); have qi121 : (1 < t118.length) = True := eq_true (by omega); (try rw [show ((1 : Int)).toNat = 1 from rfl] at hx121_0); replace p121 := eq_true p121; replace q121 := eq_true q121; have p122 : 0 ≤ (0 : Int) := (by omega); have q122 : 0 < (t118.length : Int) := of_decide_eq_true (by first | (with_reducible assumption) | assumption); obtain ⟨ad122, e122, hx122_0⟩ := Kd.at_int (Kd.R_reads' HO120.out).2.2 0 p122 q122; obtain rfl : ad121 = ad122 := (by injection e122); have qi122 : (0 < t118.length) = True := eq_true (by omega); (try rw [show ((0 : Int)).toNat = 0 from rfl] at hx122_0); (try rw [Addr.add_zero'] at hx122_0); replace p122 := eq_true p122; replace q122 := eq_true q122))
 repeat (go_quiet (first | ((with_reducible refine gate_dst (N := 8) rfl ?_); refine Kd.R_lit (Kd.int .i64) _ 3 ?hg (N := 8) ?hd (xs := ([a0, a1] : List Int)) (inner := [.int .i64 a0, .int .i64 a1]) (ok := fun _ => True) (okp := fun _ => True) ?hr ?hp (fun _ hk => hk) trivial (Below.refl _ _) (Nat.le_refl _) (by simp) ?_; (case hd => rfl); (case hg => rfl); (case hr => first | (go_simp; done) | (go_simp; rfl)); (case hp => exact (Reps.one (show Kd.M (Kd.int .i64) _ _ _ a0 [.int .i64 a0] from rfl) (Reps.one (show Kd.M (Kd.int .i64) _ _ _ a1 [.int .i64 a1] from rfl) (Reps.none _ _)))); intro v116 w6 ho7 hb hg_ hnew_; clear hg_ hnew_; (first | rw [← Ny115.out] at ho7 | (simp only [Int.reduceToNat] at ho7; rw [← Ny115.out] at ho7)); have n0_ := YK (Kd.R_lower ho7 (YE (upB HB))); have n1_ := YK (YD (upB HB) hb); clear HB; have HO117 := n0_; have HB := n1_; clear n0_ n1_; clear hb ho7; obtain ⟨Ao8, co8, eo8⟩ := Kd.R_slice HO117.out; subst eo8) | (go_at_call 47; (with_reducible refine (serial_of.calls k _ _ y115 t118 _ ?side1 ?side2 A3.out).mono ?_); (case side1 => repeat (first | exact (Kd.R_reads' HO117.out).2.2 | (with_reducible refine Kd.C_alloc ?_ _) | (with_reducible refine Kd.C_drewN ?_ _) | (with_reducible refine Kd.C_drew ?_))); (case side2 => exact (Kd.R_reads' HO117.out).2.1); rintro e w9 ⟨v119, rfl, ho0, hb⟩; have n0_ := YK (Kd.R_below (upR HO117) hb); have n1_ := YK (Kd.R_lower ho0 (YE (upB HB))); have n2_ := YK (YD (upB HB) hb); clear HO117; clear HB; have HO117 := n0_; have HO120 := n1_; have HB := n2_; clear n0_ n1_ n2_; (try clear hb); (try clear hb2); (try clear hk); (try clear hi); (try clear ho0); obtain ⟨Ao10, co10, eo10⟩ := Kd.R_slice HO120.out; subst eo10; have p121 : 0 ≤ (1 : Int) := (by omega); have q121 : 1 < (t118.length : Int) := of_decide_eq_true (by first | (with_reducible assumption) | assumption); obtain ⟨ad121, e121, hx121_0⟩ := Kd.at_int (Kd.R_reads' HO120.out).2.2 1 p121 q121; cases e121; (try simp only [show (1 : Int).toNat = 1 from rfl, Nat.reduceMul, Nat.reduceEqDiff, Go.Addr.add, ↓reduceIte] at hx121_0); have qi121 : (1 < t118.length) = True := eq_true (by omega); (try rw [show ((1 : Int)).toNat = 1 from rfl] at hx121_0); replace p121 := eq_true p121; replace q121 := eq_true q121; have p122 : 0 ≤ (0 : Int) := (by omega); have q122 : 0 < (t118.length : Int) := of_decide_eq_true (by first | (with_reducible assumption) | assumption); obtain ⟨ad122, e122, hx122_0⟩ := Kd.at_int (Kd.R_reads' HO120.out).2.2 0 p122 q122; obtain rfl : ad121 = ad122 := (by injection e122); have qi122 : (0 < t118.length) = True := eq_true (by omega); (try rw [show ((0 : Int)).toNat = 0 from rfl] at hx122_0); (try rw [Addr.add_zero'] at hx122_0); replace p122 := eq_true p122; replace q122 := eq_true q122)); try go_wp2_with (first | ((with_reducible refine gate_dst (N := 8) rfl ?_); refine Kd.R_lit (Kd.int .i64) _ 3 ?hg (N := 8) ?hd (xs := ([a0, a1] : List Int)) (inner := [.int .i64 a0, .int .i64 a1]) (ok := fun _ => True) (okp := fun _ => True) ?hr ?hp (fun _ hk => hk) trivial (Below.refl _ _) (Nat.le_refl _) (by simp) ?_; (case hd => rfl); (case hg => rfl); (case hr => first | (go_simp; done) | (go_simp; rfl)); (case hp => exact (Reps.one (show Kd.M (Kd.int .i64) _ _ _ a0 [.int .i64 a0] from rfl) (Reps.one (show Kd.M (Kd.int .i64) _ _ _ a1 [.int .i64 a1] from rfl) (Reps.none _ _)))); intro v116 w6 ho7 hb hg_ hnew_; clear hg_ hnew_; (first | rw [← Ny115.out] at ho7 | (simp only [Int.reduceToNat] at ho7; rw [← Ny115.out] at ho7)); have n0_ := YK (Kd.R_lower ho7 (YE (upB HB))); have n1_ := YK (YD (upB HB) hb); clear HB; have HO117 := n0_; have HB := n1_; clear n0_ n1_; clear hb ho7; obtain ⟨Ao8, co8, eo8⟩ := Kd.R_slice HO117.out; subst eo8) | (go_at_call 47; (with_reducible refine (serial_of.calls k _ _ y115 t118 _ ?side1 ?side2 A3.out).mono ?_); (case side1 => repeat (first | exact (Kd.R_reads' HO117.out).2.2 | (with_reducible refine Kd.C_alloc ?_ _) | (with_reducible refine Kd.C_drewN ?_ _) | (with_reducible refine Kd.C_drew ?_))); (case side2 => exact (Kd.R_reads' HO117.out).2.1); rintro e w9 ⟨v119, rfl, ho0, hb⟩; have n0_ := YK (Kd.R_below (upR HO117) hb); have n1_ := YK (Kd.R_lower ho0 (YE (upB HB))); have n2_ := YK (YD (upB HB) hb); clear HO117; clear HB; have HO117 := n0_; have HO120 := n1_; have HB := n2_; clear n0_ n1_ n2_; (try clear hb); (try clear hb2); (try clear hk); (try clear hi); (try clear ho0); obtain ⟨Ao10, co10, eo10⟩ := Kd.R_slice HO120.out; subst eo10; have p121 : 0 ≤ (1 : Int) := (by omega); have q121 : 1 < (t118.length : Int) := of_decide_eq_true (by first | (with_reducible assumption) | assumption); obtain ⟨ad121, e121, hx121_0⟩ := Kd.at_int (Kd.R_reads' HO120.out).2.2 1 p121 q121; cases e121; (try simp only [show (1 : Int).toNat = 1 from rfl, Nat.reduceMul, Nat.reduceEqDiff, Go.Addr.add, ↓reduceIte] at hx121_0); have qi121 : (1 < t118.length) = True := eq_true (by omega); (try rw [show ((1 : Int)).toNat = 1 from rfl] at hx121_0); replace p121 := eq_true p121; replace q121 := eq_true q121; have p122 : 0 ≤ (0 : Int) := (by omega); have q122 : 0 < (t118.length : Int) := of_decide_eq_true (by first | (with_reducible assumption) | assumption); obtain ⟨ad122, e122, hx122_0⟩ := Kd.at_int (Kd.R_reads' HO120.out).2.2 0 p122 q122; obtain rfl : ad121 = ad122 := (by injection e122); have qi122 : (0 < t118.length) = True := eq_true (by omega); (try rw [show ((0 : Int)).toNat = 0 from rfl] at hx122_0); (try rw [Addr.add_zero'] at hx122_0); replace p122 := eq_true p122; replace q122 := eq_true q122)))
 go_ret
 exact ⟨by first | rfl | (simp [errW_none, errW_some] <;> rfl) | (simp [*, errW_none, errW_some] <;> rfl), by repeat (first | (with_reducible first | exact HB.out | apply YA | apply YB | apply YC) | exact HB.out)⟩
def serial_Within.f (k : Nat) (a0 : Int) (a1 : Int) (a2 : Int) : Option (Bool) := (serial_Far.f k a1 a0).bind fun t123 => (some (decide (t123 < a2)))
theorem serial_Within.calls (k : Nat) (a0 : Int) (a1 : Int) (a2 : Int) (r : Bool) (w : World) (h : serial_Within.f k a0 a1 a2 = some r) :
  Calls Try.prog 17 #[.int .i64 a0, .int .i64 a1, .int .i64 a2] w fun e w' => e = .returned (.bool r) ∧ Below w.heap.size w w' := by
 have HB := YK (Below.refl w.heap.size w)
 have H : ((serial_Far.f k a1 a0).bind fun t123 => (some (decide (t123 < a2)))) = some r := h
 clear h; replace H := Option.bind_eq_some_iff.mp H; obtain ⟨t123, A40, H⟩ := H
 replace H : (some (decide (t123 < a2))) = some r := H
 have A4 := YK A40; clear A40
 obtain rfl := Option.some.inj H
 go_enter Try.func17, Try.ntmps17
 go_wp2_with (first | ((with_reducible refine gate_callee (f := 24) rfl ?_); refine goesA (some 9) Try.func24 #[.int .i64 a1, .int .i64 a0] ?_; (with_reducible refine (serial_Far.calls k a1 a0 t123 _ A4.out).mono ?_); rintro e w5 ⟨rfl, hb⟩; refine ⟨_, rfl, ?_⟩; have n0_ := YK (YD (upB HB) hb); clear HB; have HB := n0_; clear n0_; (try clear hb); (try clear hb2); (try clear hk); (try clear hi)))
 go_ret
 exact ⟨by first | rfl | (simp [errW_none, errW_some] <;> rfl) | (simp [*, errW_none, errW_some] <;> rfl), by repeat (first | (with_reducible first | exact HB.out | apply YA | apply YB | apply YC) | exact HB.out)⟩
def serial_Next.f (a0 : Int) : Option (Int) := some (wrap64 (IntKind.u16.wrap ((IntKind.u16.wrap (a0)) + 1)))
theorem serial_Next.calls (a0 : Int) (r : Int) (w : World) (h : serial_Next.f a0 = some r) :
  Calls Try.prog 25 #[.int .i64 a0] w fun e w' => e = .returned (.int .i64 r) ∧ Drawn0 w w' := by
 have H : (some (wrap64 (IntKind.u16.wrap ((IntKind.u16.wrap (a0)) + 1)))) = some r := h
 clear h
 obtain rfl := Option.some.inj H
 go_enter Try.func25, Try.ntmps25
 go_wp2
 go_ret
 exact ⟨by first | rfl | (simp; done) | (simp [*]; done), by repeat (first | exact Drawn0.refl _ | apply Drawn0.step)⟩
def height_Null.f (a0 : Int) : Option (Bool × Int × Int × Int × Int × Int) := some (true, 0, 0, 0, 0, a0)
theorem height_Null.calls (a0 : Int) (r1 : Bool) (r2 : Int) (r3 : Int) (r4 : Int) (r5 : Int) (r6 : Int) (w : World) (h : height_Null.f a0 = some (r1, r2, r3, r4, r5, r6)) :
  Calls Try.prog 65 #[.int .i64 a0] w fun e w' => e = .returned (.agg #[.bool r1, .int .i64 r2, .int .i64 r3, .int .i64 r4, .int .i64 r5, .int .i64 r6]) ∧ Below w.heap.size w w' := by
 have hu30 := Try.underlying30
 have HB := YK (Below.refl w.heap.size w)
 have H : (some (true, 0, 0, 0, 0, a0)) = some (r1, r2, r3, r4, r5, r6) := h
 clear h
 simp only [Option.some.injEq, Prod.mk.injEq] at H
 obtain ⟨rfl, rfl, rfl, rfl, rfl, rfl⟩ := H
 go_enter Try.func65, Try.ntmps65
 go_wp2_with (first | ((with_reducible refine gate_dst (N := 2) rfl ?_); refine box_event ?hg (N := 2) ?hd (cs := #[.bool false, .int .i64 0, .int .i64 0, .int .i64 0, .int .i64 0, .int .i64 0]) (t := 30) ?hr ?_; (case hd => rfl); (case hg => rfl); (case hr => first | (go_simp; done) | (go_simp; rfl)); intro gb124 hg w2 hbox hb; have n0_ := YK (YD (upB HB) hb); have n1_ := YK (hbox); have n2_ := YK ((by rw [hg]; exact (YE (upB HB)) : w.heap.size ≤ gb124)); have n3_ := YK ((by rw [hg]; exact (YE (upB HB)) : w.heap.size ≤ gb124)); clear HB; have HB := n0_; have BK124 := n1_; have GW124 := n2_; have GE124 := n3_; clear n0_ n1_ n2_ n3_; clear hb hbox hg; obtain ⟨q3_0, q3_1, q3_2, q3_3, q3_4, q3_5⟩ := cA6 BK124.out; obtain ⟨f3_0, f3_1, f3_2, f3_3, f3_4, f3_5⟩ := fA6 BK124.out))
 refine bodyPost_ret (results_cell_row rfl _ _ gb124 30 #[.bool true, .int .i64 0, .int .i64 0, .int .i64 0, .int .i64 0, .int .i64 a0] (0, 0) _ rfl (by (with_reducible repeat (first | refine YF ?_ _ | refine YG ?_ | refine YH ?_ _)); refine blk_put (cs := #[.bool true, .int .i64 0, .int .i64 0, .int .i64 0, .int .i64 0, .int .i64 0]) ?_ 5 _ rfl; (with_reducible repeat (first | refine YF ?_ _ | refine YG ?_ | refine YH ?_ _)); refine blk_put (cs := #[.bool true, .int .i64 0, .int .i64 0, .int .i64 0, .int .i64 0, .int .i64 0]) ?_ 4 _ rfl; (with_reducible repeat (first | refine YF ?_ _ | refine YG ?_ | refine YH ?_ _)); refine blk_put (cs := #[.bool true, .int .i64 0, .int .i64 0, .int .i64 0, .int .i64 0, .int .i64 0]) ?_ 3 _ rfl; (with_reducible repeat (first | refine YF ?_ _ | refine YG ?_ | refine YH ?_ _)); refine blk_put (cs := #[.bool true, .int .i64 0, .int .i64 0, .int .i64 0, .int .i64 0, .int .i64 0]) ?_ 2 _ rfl; (with_reducible repeat (first | refine YF ?_ _ | refine YG ?_ | refine YH ?_ _)); refine blk_put (cs := #[.bool true, .int .i64 0, .int .i64 0, .int .i64 0, .int .i64 0, .int .i64 0]) ?_ 1 _ rfl; (with_reducible repeat (first | refine YF ?_ _ | refine YG ?_ | refine YH ?_ _)); refine blk_put (cs := #[.bool false, .int .i64 0, .int .i64 0, .int .i64 0, .int .i64 0, .int .i64 0]) ?_ 0 _ rfl; (with_reducible repeat (first | refine YF ?_ _ | refine YG ?_ | refine YH ?_ _)); exact BK124.out) Try.underlying30 rfl (by kernel_rfl)) rfl ?_
 exact ⟨by first | rfl | (simp [errW_none, errW_some] <;> rfl) | (simp [*, errW_none, errW_some] <;> rfl), by repeat (first | (with_reducible first | exact HB.out | apply YA | apply YB | apply YC | refine below_set ?_ GE124.out) | exact HB.out)⟩
end Go.Proofs.Ytclbempnhelmoaa.P
namespace Go.Proofs.Ytclbempnhelmoaa.P
open Go.RowKit YtclbempnhelmoaaW.PrintWords YtclbempnhelmoaaW.PrintLast YtclbempnhelmoaaW.PrintMore
open YtclbempnhelmoaaW.PrintWords renaming below_alloc → YA, pw_below_drewN → YB, below_drew1 → YC, blk_drewN → YD, blk_drew → YE, blk_alloc → YF, blk_cell → YG, blk_frozen → YH
open YtclbempnhelmoaaW.PrintWords.Aside0 renaming mk → YI
open List renaming setIfInBounds_toArray → YJ, set_cons_zero → YK, set_cons_succ → YL
attribute [local go_sem] max2_int min2_int max_two min_two max_three min_three max_four min_four
attribute [local go_sem high] eqA30
def height_Check.j0 : Nat → Bool → Bool → Int → Int → Int → Int → Int → Option (Int)
 | 0, _, _, _, _, _, _, _ => none
 | k + 1, x3, x126000, x126001, x126002, x126003, x126004, x126005 => if x126000 = true then (if x3 = true then ((height_Null.f x126005).bind fun bt126 => (if ((bt126.1 && (x126001 == bt126.2.1 && (x126002 == bt126.2.2.1 && (x126003 == bt126.2.2.2.1 && (x126004 == bt126.2.2.2.2.1 && (x126005 == bt126.2.2.2.2.2)))))) = true) then (some 0) else (some 1))) else (some 1)) else (if x3 = true then (if x126001 ≥ 0 then (if x126001 ≤ 4611686018427387903 then (if x126002 ≥ 0 then (if x126002 < 64 then (if (x126003 / 2) = 0 then (if x126004 ≥ (-1099511627776) then (if x126004 ≤ 1099511627776 then (some 0) else (some 1)) else (some 1)) else (some 1)) else (some 1)) else (some 1)) else (some 1)) else (some 1)) else (some 1))
def height_Check.f (k : Nat) (a0_0 : Bool) (a0_1 : Int) (a0_2 : Int) (a0_3 : Int) (a0_4 : Int) (a0_5 : Int) : Option (Int) := if a0_5 ≥ 0 then (height_Check.j0 k (decide (a0_5 < 64)) a0_0 a0_1 a0_2 a0_3 a0_4 a0_5) else (height_Check.j0 k false a0_0 a0_1 a0_2 a0_3 a0_4 a0_5)
def height_Check.T3 : Bool × List (List Nat × List Nat) := (true, [([], []), ([0], [0]), ([1], [1]), ([1], [1]), ([3, 1], [1, 3]), ([4, 1, 1], [1, 4]), ([2, 5, 1], [1, 2, 5]), ([1, 6], [1, 6]), ([7, 5, 0, 1, 2, 3, 4, 5, 6, 7], [0, 7])])
def height_Check.B3 : List Nat := [0, 1, 3, 3, 11, 27, 63, 127, 255]
theorem height_Check.tab3 : rtab .any (opsOf Try.f48 3) = height_Check.T3 := by kernel_rfl
theorem height_Check.bits3 : waitsOk height_Check.T3.2 height_Check.B3 = true := by kernel_rfl
theorem height_Check.calls (k : Nat) (a0_0 : Bool) (a0_1 : Int) (a0_2 : Int) (a0_3 : Int) (a0_4 : Int) (a0_5 : Int) (r : Int) (w : World) (h : height_Check.f k a0_0 a0_1 a0_2 a0_3 a0_4 a0_5 = some r) :
  Calls Try.prog 48 #[.agg #[.bool a0_0, .int .i64 a0_1, .int .i64 a0_2, .int .i64 a0_3, .int .i64 a0_4, .int .i64 a0_5]] w fun e w' => e = .returned (.int .i64 r) ∧ Below w.heap.size w w' := by
 have hu30 := Try.underlying30
 have HB := YI (Below.refl w.heap.size w)
 have H : (if a0_5 ≥ 0 then (height_Check.j0 k (decide (a0_5 < 64)) a0_0 a0_1 a0_2 a0_3 a0_4 a0_5) else (height_Check.j0 k false a0_0 a0_1 a0_2 a0_3 a0_4 a0_5)) = some r := h
 clear h; have HC2 := YI H; clear H
 go_enter Try.func48, Try.ntmps48
 go_upto_region 1 with (first | ((with_reducible refine gate_dst (N := 1) rfl ?_); refine box_event ?hg (N := 1) ?hd (cs := #[.bool a0_0, .int .i64 a0_1, .int .i64 a0_2, .int .i64 a0_3, .int .i64 a0_4, .int .i64 a0_5]) (t := 30) ?hr ?_; (case hd => rfl); (case hg => rfl); (case hr => first | (go_simp; done) | (go_simp; rfl)); intro gb125 hg w3 hbox hb; have n0_ := YI (below_step (upB HB) hb); have n1_ := YI (hbox); have n2_ := YI ((by rw [hg]; exact (below_size (upB HB)) : w.heap.size ≤ gb125)); have n3_ := YI ((by rw [hg]; exact (below_size (upB HB)) : w.heap.size ≤ gb125)); clear HB; have HB := n0_; have BK125 := n1_; have GW125 := n2_; have GE125 := n3_; clear n0_ n1_ n2_ n3_; clear hb hbox hg))
 (try simp only [Act.put, YJ, YK, YL])
 go_cut [3] (fun v3 wc => ∃ (kq : Nat) (x3_1 : Bool), v3 = .bool x3_1 ∧ Aside0 (height_Check.j0 kq x3_1 a0_0 a0_1 a0_2 a0_3 a0_4 a0_5 = some r) ∧ Aside0 (kq ≤ k) ∧ Aside0 (wc.heap[gb125]? = some (.cells #[.bool a0_0, .int .i64 a0_1, .int .i64 a0_2, .int .i64 a0_3, .int .i64 a0_4, .int .i64 a0_5] 30 (0, 0))) ∧ Aside0 (Below w.heap.size w wc))
 case first =>
  have H := HC2.out
  clear HC2
  by_cases c4 : a0_5 ≥ 0
  ·rw [if_pos c4] at H
   have c4b0 : decide (0 ≤ a0_5) = true := decide_eq_true c4; clear c4
   (first | rw [c4b0] | (simp only [i64_w, i32_w]; rw [c4b0]) | rw [c4b1] | skip)
   have H' := YI H
   clear H
   obtain ⟨q5_0, q5_1, q5_2, q5_3, q5_4, q5_5⟩ := cA6 BK125.out
   obtain ⟨f5_0, f5_1, f5_2, f5_3, f5_4, f5_5⟩ := fA6 BK125.out
   go_wp2
   go_meet
   case rel => exact ⟨_, (decide (a0_5 < 64)), (by first | rfl | (simp; done) | (simp [*]; done)), H', ⟨by first | omega | exact Nat.le_refl _⟩, ⟨by (with_reducible repeat (first | refine YD ?_ _ | refine YE ?_ | refine YF ?_ _)); exact BK125.out⟩, ⟨by repeat (first | (with_reducible first | exact HB.out | apply YA | apply YB | apply YC | refine below_set ?_ GE125.out) | exact HB.out)⟩⟩
  rw [if_neg c4] at H; have c4b0 : decide (0 ≤ a0_5) = false := decide_eq_false c4; clear c4
  (first | rw [c4b0] | (simp only [i64_w, i32_w]; rw [c4b0]) | rw [c4b1] | skip)
  have H' := YI H
  clear H
  obtain ⟨q6_0, q6_1, q6_2, q6_3, q6_4, q6_5⟩ := cA6 BK125.out
  obtain ⟨f6_0, f6_1, f6_2, f6_3, f6_4, f6_5⟩ := fA6 BK125.out
  go_wp2
  go_meet
  case rel => exact ⟨_, (false), (by first | rfl | (simp; done) | (simp [*]; done)), H', ⟨by first | omega | exact Nat.le_refl _⟩, ⟨by (with_reducible repeat (first | refine YD ?_ _ | refine YE ?_ | refine YF ?_ _)); exact BK125.out⟩, ⟨by repeat (first | (with_reducible first | exact HB.out | apply YA | apply YB | apply YC | refine below_set ?_ GE125.out) | exact HB.out)⟩⟩
 case rest =>
  clear HC2
  try clear p2; try clear c4
  try clear c4b0; try clear q5_0
  try clear q5_1; try clear q5_2
  try clear q5_3; try clear q5_4
  try clear q5_5; try clear q6_0
  try clear q6_1; try clear q6_2
  try clear q6_3; try clear q6_4
  try clear q6_5; try clear f5_0
  try clear f5_1; try clear f5_2
  try clear f5_3; try clear f5_4
  try clear f5_5; try clear f6_0
  try clear f6_1; try clear f6_2
  try clear f6_3; try clear f6_4; try clear f6_5
  obtain ⟨kq, x3_1, rfl, HA, HJ1, BK125, HB⟩ := hcut
  cases kq with
  | zero => exact absurd HA.out (by simp [height_Check.j0])
  | succ kj1 =>
   have H := HA.out
   clear HA
   simp only [height_Check.j0] at H
   by_cases c7 : a0_0 = true
   ·subst c7
    have H1 : (if x3_1 = true then ((height_Null.f a0_5).bind fun bt126 => (if ((bt126.1 && (a0_1 == bt126.2.1 && (a0_2 == bt126.2.2.1 && (a0_3 == bt126.2.2.2.1 && (a0_4 == bt126.2.2.2.2.1 && (a0_5 == bt126.2.2.2.2.2)))))) = true) then (some 0) else (some 1))) else (some 1)) = some r := by rw [if_pos rfl] at H; exact H
    clear H
    have H := H1
    clear H1
    by_cases c8 : x3_1 = true
    ·subst c8
     have H1 : ((height_Null.f a0_5).bind fun bt126 => (if ((bt126.1 && (a0_1 == bt126.2.1 && (a0_2 == bt126.2.2.1 && (a0_3 == bt126.2.2.2.1 && (a0_4 == bt126.2.2.2.2.1 && (a0_5 == bt126.2.2.2.2.2)))))) = true) then (some 0) else (some 1))) = some r := by rw [if_pos rfl] at H; exact H
     clear H
     have H := H1
     clear H1; replace H := Option.bind_eq_some_iff.mp H
     obtain ⟨⟨t126, t127, t128, t129, t130, t131⟩, A90, H⟩ := H
     replace H : (if ((t126 && (a0_1 == t127 && (a0_2 == t128 && (a0_3 == t129 && (a0_4 == t130 && (a0_5 == t131)))))) = true) then (some 0) else (some 1)) = some r := H
     have A9 := YI A90; clear A90
     by_cases c10 : ((t126 && (a0_1 == t127 && (a0_2 == t128 && (a0_3 == t129 && (a0_4 == t130 && (a0_5 == t131)))))) = true)
     ·rw [if_pos c10] at H
      have c10b0 : (t126 && (a0_1 == t127 && (a0_2 == t128 && (a0_3 == t129 && (a0_4 == t130 && (a0_5 == t131)))))) = true := c10
      clear c10
      obtain rfl := Option.some.inj H
      obtain ⟨q11_0, q11_1, q11_2, q11_3, q11_4, q11_5⟩ := cA6 BK125.out
      obtain ⟨f11_0, f11_1, f11_2, f11_3, f11_4, f11_5⟩ := fA6 BK125.out
      try go_wp2
      have n0_ := YI (YE BK125.out)
      have n1_ := YI (YC HB.out)
      clear BK125; clear HB; have BK125 := n0_; have HB := n1_; clear n0_ n1_
      refine start_ (n := 9) (S := fun w' => w'.cell? ⟨gb125, 0, none⟩ = some (.bool true) ∧ w'.cell? ⟨gb125, 1, none⟩ = some (.int .i64 a0_1) ∧ w'.cell? ⟨gb125, 2, none⟩ = some (.int .i64 a0_2) ∧ w'.cell? ⟨gb125, 3, none⟩ = some (.int .i64 a0_3) ∧ w'.cell? ⟨gb125, 4, none⟩ = some (.int .i64 a0_4) ∧ w'.cell? ⟨gb125, 5, none⟩ = some (.int .i64 a0_5)) (ds := []) #[false, false, false, false, false, false, false, false, false] (by kernel_rfl) rfl rfl ⟨(YG BK125.out 0).trans rfl, (YG BK125.out 1).trans rfl, (YG BK125.out 2).trans rfl, (YG BK125.out 3).trans rfl, (YG BK125.out 4).trans rfl, (YG BK125.out 5).trans rfl⟩ (fun hHeld => ?_); refine with_tabW height_Check.tab3 height_Check.bits3 (fun HT_ HW_ => ?_)
      generalize wc.drew = w12 at BK125 HB hHeld ⊢
      refine pure_ (i := 0) (N := some 14) (v := ?_) (a' := ?_) #[true, false, false, false, false, false, false, false, false] rfl rfl (any_of HT_.out (by kernel_rfl)) (fun _ _ _ h => h) (Or.inl ⟨by rfl, ?_⟩) ?_ ?_
      rotate_left
      ·intro w'
       go_simp; with_reducible rfl
      rotate_left
      ·simp only [Act.put, YJ, YK, YL, i64_w, i32_w]
       rfl
      refine pure_ (i := 1) (N := some 15) (v := ?_) (a' := ?_) #[true, true, false, false, false, false, false, false, false] rfl rfl (any_of HT_.out (by kernel_rfl)) (fun _ _ _ h => h) (Or.inl ⟨by rfl, ?_⟩) ?_ ?_
      rotate_left
      ·intro w'
       go_simp; with_reducible rfl
      rotate_left
      ·simp only [Act.put, YJ, YK, YL, i64_w, i32_w]
       rfl
      refine pure_ (i := 3) (N := some 17) (v := ?_) (a' := ?_) #[true, true, false, true, false, false, false, false, false] rfl rfl (any_of HT_.out (by kernel_rfl)) (fun _ _ _ h => h) (Or.inl ⟨by rfl, ?_⟩) ?_ ?_
      rotate_left
      ·intro w'
       go_simp; with_reducible rfl
      rotate_left
      ·simp only [Act.put, YJ, YK, YL, i64_w, i32_w]
       rfl
      refine take_ (i := 2) (N := some 16) (v := ?_) (a' := ?_) #[true, true, true, true, false, false, false, false, false] rfl rfl (take_ofW HT_.out HW_.out (by kernel_rfl)) (fun _ _ _ h => h) (Or.inl ⟨by rfl, ?_⟩) hHeld ?_ ?_
      rotate_left
      ·rintro w' ⟨s0, s1, s2, s3, s4, s5⟩
       go_simp; with_reducible rfl
      rotate_left
      ·simp only [Act.put, YJ, YK, YL, i64_w, i32_w]
       rfl
      refine take_ (i := 4) (N := some 18) (v := ?_) (a' := ?_) #[true, true, true, true, true, false, false, false, false] rfl rfl (take_ofW HT_.out HW_.out (by kernel_rfl)) (fun _ _ _ h => h) (Or.inl ⟨by rfl, ?_⟩) hHeld ?_ ?_
      rotate_left
      ·rintro w' ⟨s0, s1, s2, s3, s4, s5⟩
       go_simp; with_reducible rfl
      rotate_left
      ·simp only [Act.put, YJ, YK, YL, i64_w, i32_w]
       rfl
      refine oneA (i := 5) (N := some 19) HT_ (fun K hK => ?_)
      refine goes_ Try.func65 (by kernel_rfl) rfl #[.int .i64 a0_5] (by rfl) rfl rfl (by (try simp only [List.map_toArray, List.map_cons, List.map_nil]); first | done | rfl | (simp only [List.length_drop, List.length_take]; rfl)) ?_
      with_reducible refine (height_Null.calls a0_5 t126 t127 t128 t129 t130 t131 _ A9.out).mono ?_
      rintro e w13 ⟨rfl, hb⟩
      refine ⟨_, rfl, ?_⟩
      have n0_ := YI (blk_below (g := gb125) (o := .cells #[.bool true, .int .i64 a0_1, .int .i64 a0_2, .int .i64 a0_3, .int .i64 a0_4, .int .i64 a0_5] 30 (0, 0)) (upK BK125) hb)
      have n1_ := YI (below_step (upB HB) hb)
      clear BK125; clear HB; have BK125 := n0_; have HB := n1_; clear n0_ n1_; (try clear hb); (try clear hb2); (try clear hk); (try clear hi)
      refine hK.out _ _ ⟨(YG BK125.out 0).trans rfl, (YG BK125.out 1).trans rfl, (YG BK125.out 2).trans rfl, (YG BK125.out 3).trans rfl, (YG BK125.out 4).trans rfl, (YG BK125.out 5).trans rfl⟩ (fun hHeld => ?_)
      clear hK K
      refine normA (N := 19) ?_
      refine pure_ (i := 6) (N := some 20) (v := ?_) (a' := ?_) #[true, true, true, true, true, true, true, false, false] rfl rfl (any_of HT_.out (by kernel_rfl)) (fun _ _ _ h => h) (Or.inl ⟨by rfl, ?_⟩) ?_ ?_
      rotate_left
      ·intro w'
       go_simp; with_reducible rfl
      rotate_left
      ·simp only [Act.put, YJ, YK, YL, i64_w, i32_w]
       rfl
      refine pure_ (i := 7) (N := some 21) (v := ?_) (a' := ?_) #[true, true, true, true, true, true, true, true, false] rfl rfl (any_of HT_.out (by kernel_rfl)) (fun _ _ _ h => h) (Or.inl ⟨by rfl, ?_⟩) ?_ ?_
      rotate_left
      ·intro w'
       go_simp; with_reducible rfl
      rotate_left
      ·simp only [Act.put, YJ, YK, YL, i64_w, i32_w]
       rfl
      refine pure_ (i := 8) (N := some 3) (v := ?_) (a' := ?_) #[true, true, true, true, true, true, true, true, true] rfl rfl (any_of HT_.out (by kernel_rfl)) (fun _ _ _ h => h) (Or.inl ⟨by rfl, ?_⟩) ?_ ?_
      rotate_left
      ·intro w'
       go_simp; with_reducible rfl
      rotate_left
      ·simp only [Act.put, YJ, YK, YL, i64_w, i32_w]
       rfl
      refine done_ (done_of HT_.out (by kernel_rfl)) ?_
      try go_wp2
      go_ret
      exact ⟨by first | rfl | (simp [errW_none, errW_some] <;> rfl) | (simp [*, errW_none, errW_some] <;> rfl), by repeat (first | (with_reducible first | exact HB.out | apply YA | apply YB | apply YC | refine below_set ?_ GE125.out) | exact HB.out)⟩
     rw [if_neg c10] at H
     have c10b0 : (t126 && (a0_1 == t127 && (a0_2 == t128 && (a0_3 == t129 && (a0_4 == t130 && (a0_5 == t131)))))) = false := by simpa using c10
     clear c10
     obtain rfl := Option.some.inj H
     obtain ⟨q14_0, q14_1, q14_2, q14_3, q14_4, q14_5⟩ := cA6 BK125.out
     obtain ⟨f14_0, f14_1, f14_2, f14_3, f14_4, f14_5⟩ := fA6 BK125.out
     try go_wp2
     have n0_ := YI (YE BK125.out)
     have n1_ := YI (YC HB.out)
     clear BK125; clear HB; have BK125 := n0_; have HB := n1_; clear n0_ n1_
     refine start_ (n := 9) (S := fun w' => w'.cell? ⟨gb125, 0, none⟩ = some (.bool true) ∧ w'.cell? ⟨gb125, 1, none⟩ = some (.int .i64 a0_1) ∧ w'.cell? ⟨gb125, 2, none⟩ = some (.int .i64 a0_2) ∧ w'.cell? ⟨gb125, 3, none⟩ = some (.int .i64 a0_3) ∧ w'.cell? ⟨gb125, 4, none⟩ = some (.int .i64 a0_4) ∧ w'.cell? ⟨gb125, 5, none⟩ = some (.int .i64 a0_5)) (ds := []) #[false, false, false, false, false, false, false, false, false] (by kernel_rfl) rfl rfl ⟨(YG BK125.out 0).trans rfl, (YG BK125.out 1).trans rfl, (YG BK125.out 2).trans rfl, (YG BK125.out 3).trans rfl, (YG BK125.out 4).trans rfl, (YG BK125.out 5).trans rfl⟩ (fun hHeld => ?_); refine with_tabW height_Check.tab3 height_Check.bits3 (fun HT_ HW_ => ?_)
     generalize wc.drew = w15 at BK125 HB hHeld ⊢
     refine pure_ (i := 0) (N := some 14) (v := ?_) (a' := ?_) #[true, false, false, false, false, false, false, false, false] rfl rfl (any_of HT_.out (by kernel_rfl)) (fun _ _ _ h => h) (Or.inl ⟨by rfl, ?_⟩) ?_ ?_
     rotate_left
     ·intro w'
      go_simp; with_reducible rfl
     rotate_left
     ·simp only [Act.put, YJ, YK, YL, i64_w, i32_w]
      rfl
     refine pure_ (i := 1) (N := some 15) (v := ?_) (a' := ?_) #[true, true, false, false, false, false, false, false, false] rfl rfl (any_of HT_.out (by kernel_rfl)) (fun _ _ _ h => h) (Or.inl ⟨by rfl, ?_⟩) ?_ ?_
     rotate_left
     ·intro w'
      go_simp; with_reducible rfl
     rotate_left
     ·simp only [Act.put, YJ, YK, YL, i64_w, i32_w]
      rfl
     refine pure_ (i := 3) (N := some 17) (v := ?_) (a' := ?_) #[true, true, false, true, false, false, false, false, false] rfl rfl (any_of HT_.out (by kernel_rfl)) (fun _ _ _ h => h) (Or.inl ⟨by rfl, ?_⟩) ?_ ?_
     rotate_left
     ·intro w'
      go_simp; with_reducible rfl
     rotate_left
     ·simp only [Act.put, YJ, YK, YL, i64_w, i32_w]
      rfl
     refine take_ (i := 2) (N := some 16) (v := ?_) (a' := ?_) #[true, true, true, true, false, false, false, false, false] rfl rfl (take_ofW HT_.out HW_.out (by kernel_rfl)) (fun _ _ _ h => h) (Or.inl ⟨by rfl, ?_⟩) hHeld ?_ ?_
     rotate_left
     ·rintro w' ⟨s0, s1, s2, s3, s4, s5⟩
      go_simp; with_reducible rfl
     rotate_left
     ·simp only [Act.put, YJ, YK, YL, i64_w, i32_w]
      rfl
     refine take_ (i := 4) (N := some 18) (v := ?_) (a' := ?_) #[true, true, true, true, true, false, false, false, false] rfl rfl (take_ofW HT_.out HW_.out (by kernel_rfl)) (fun _ _ _ h => h) (Or.inl ⟨by rfl, ?_⟩) hHeld ?_ ?_
     rotate_left
     ·rintro w' ⟨s0, s1, s2, s3, s4, s5⟩
      go_simp; with_reducible rfl
     rotate_left
     ·simp only [Act.put, YJ, YK, YL, i64_w, i32_w]
      rfl
     refine oneA (i := 5) (N := some 19) HT_ (fun K hK => ?_)
     refine goes_ Try.func65 (by kernel_rfl) rfl #[.int .i64 a0_5] (by rfl) rfl rfl (by (try simp only [List.map_toArray, List.map_cons, List.map_nil]); first | done | rfl | (simp only [List.length_drop, List.length_take]; rfl)) ?_
     with_reducible refine (height_Null.calls a0_5 t126 t127 t128 t129 t130 t131 _ A9.out).mono ?_
     rintro e w16 ⟨rfl, hb⟩
     refine ⟨_, rfl, ?_⟩
     have n0_ := YI (blk_below (g := gb125) (o := .cells #[.bool true, .int .i64 a0_1, .int .i64 a0_2, .int .i64 a0_3, .int .i64 a0_4, .int .i64 a0_5] 30 (0, 0)) (upK BK125) hb)
     have n1_ := YI (below_step (upB HB) hb)
     clear BK125; clear HB; have BK125 := n0_; have HB := n1_; clear n0_ n1_; (try clear hb); (try clear hb2); (try clear hk); (try clear hi)
     refine hK.out _ _ ⟨(YG BK125.out 0).trans rfl, (YG BK125.out 1).trans rfl, (YG BK125.out 2).trans rfl, (YG BK125.out 3).trans rfl, (YG BK125.out 4).trans rfl, (YG BK125.out 5).trans rfl⟩ (fun hHeld => ?_)
     clear hK K
     refine normA (N := 19) ?_
     refine pure_ (i := 6) (N := some 20) (v := ?_) (a' := ?_) #[true, true, true, true, true, true, true, false, false] rfl rfl (any_of HT_.out (by kernel_rfl)) (fun _ _ _ h => h) (Or.inl ⟨by rfl, ?_⟩) ?_ ?_
     rotate_left
     ·intro w'
      go_simp; with_reducible rfl
     rotate_left
     ·simp only [Act.put, YJ, YK, YL, i64_w, i32_w]
      rfl
     refine pure_ (i := 7) (N := some 21) (v := ?_) (a' := ?_) #[true, true, true, true, true, true, true, true, false] rfl rfl (any_of HT_.out (by kernel_rfl)) (fun _ _ _ h => h) (Or.inl ⟨by rfl, ?_⟩) ?_ ?_
     rotate_left
     ·intro w'
      go_simp; with_reducible rfl
     rotate_left
     ·simp only [Act.put, YJ, YK, YL, i64_w, i32_w]
      rfl
     refine pure_ (i := 8) (N := some 3) (v := ?_) (a' := ?_) #[true, true, true, true, true, true, true, true, true] rfl rfl (any_of HT_.out (by kernel_rfl)) (fun _ _ _ h => h) (Or.inl ⟨by rfl, ?_⟩) ?_ ?_
     rotate_left
     ·intro w'
      go_simp; with_reducible rfl
     rotate_left
     ·simp only [Act.put, YJ, YK, YL, i64_w, i32_w]
      rfl
     refine done_ (done_of HT_.out (by kernel_rfl)) ?_
     try go_wp2
     go_ret
     exact ⟨by first | rfl | (simp [errW_none, errW_some] <;> rfl) | (simp [*, errW_none, errW_some] <;> rfl), by repeat (first | (with_reducible first | exact HB.out | apply YA | apply YB | apply YC | refine below_set ?_ GE125.out) | exact HB.out)⟩
    replace c8 := Bool.eq_false_iff.mpr c8
    subst c8
    have H1 : (some 1) = some r := by rw [if_neg (show ¬ (false = true) by decide)] at H; exact H
    clear H
    have H := H1
    clear H1
    obtain rfl := Option.some.inj H
    obtain ⟨q17_0, q17_1, q17_2, q17_3, q17_4, q17_5⟩ := cA6 BK125.out
    obtain ⟨f17_0, f17_1, f17_2, f17_3, f17_4, f17_5⟩ := fA6 BK125.out
    try go_wp2
    have n0_ := YI (YE BK125.out)
    have n1_ := YI (YC HB.out)
    clear BK125; clear HB; have BK125 := n0_; have HB := n1_; clear n0_ n1_
    refine start_ (n := 9) (S := fun w' => True) (ds := []) #[false, false, false, false, false, false, false, false, false] (by kernel_rfl) rfl rfl trivial (fun hHeld => ?_); refine with_tabW height_Check.tab3 height_Check.bits3 (fun HT_ HW_ => ?_)
    generalize wc.drew = w18 at BK125 HB hHeld ⊢
    refine pure_ (i := 0) (N := some 14) (v := ?_) (a' := ?_) #[true, false, false, false, false, false, false, false, false] rfl rfl (any_of HT_.out (by kernel_rfl)) (fun _ _ _ h => h) (Or.inl ⟨by rfl, ?_⟩) ?_ ?_
    rotate_left
    ·intro w'
     go_simp; with_reducible rfl
    rotate_left
    ·simp only [Act.put, YJ, YK, YL, i64_w, i32_w]
     rfl
    refine pure_ (i := 1) (N := some 15) (v := ?_) (a' := ?_) #[true, true, false, false, false, false, false, false, false] rfl rfl (any_of HT_.out (by kernel_rfl)) (fun _ _ _ h => h) (Or.inl ⟨by rfl, ?_⟩) ?_ ?_
    rotate_left
    ·intro w'
     go_simp; with_reducible rfl
    rotate_left
    ·simp only [Act.put, YJ, YK, YL, i64_w, i32_w]
     rfl
    refine pureN (i := 2) (N := some 16) HT_ ?_
    refine pureN (i := 3) (N := some 17) HT_ ?_
    refine pureN (i := 4) (N := some 18) HT_ ?_
    refine pureN (i := 5) (N := some 19) HT_ ?_
    refine pureN (i := 6) (N := some 20) HT_ ?_
    refine pure_ (i := 7) (N := some 21) (v := ?_) (a' := ?_) #[true, true, true, true, true, true, true, true, false] rfl rfl (any_of HT_.out (by kernel_rfl)) (fun _ _ _ h => h) (Or.inl ⟨by rfl, ?_⟩) ?_ ?_
    rotate_left
    ·intro w'
     go_simp; with_reducible rfl
    rotate_left
    ·simp only [Act.put, YJ, YK, YL, i64_w, i32_w]
     rfl
    refine pure_ (i := 8) (N := some 3) (v := ?_) (a' := ?_) #[true, true, true, true, true, true, true, true, true] rfl rfl (any_of HT_.out (by kernel_rfl)) (fun _ _ _ h => h) (Or.inl ⟨by rfl, ?_⟩) ?_ ?_
    rotate_left
    ·intro w'
     go_simp; with_reducible rfl
    rotate_left
    ·simp only [Act.put, YJ, YK, YL, i64_w, i32_w]
     rfl
    refine done_ (done_of HT_.out (by kernel_rfl)) ?_
    try go_wp2
    go_ret
    exact ⟨by first | rfl | (simp [errW_none, errW_some] <;> rfl) | (simp [*, errW_none, errW_some] <;> rfl), by repeat (first | (with_reducible first | exact HB.out | apply YA | apply YB | apply YC | refine below_set ?_ GE125.out) | exact HB.out)⟩
   replace c7 := Bool.eq_false_iff.mpr c7
   subst c7
   have H1 : (if x3_1 = true then (if a0_1 ≥ 0 then (if a0_1 ≤ 4611686018427387903 then (if a0_2 ≥ 0 then (if a0_2 < 64 then (if (a0_3 / 2) = 0 then (if a0_4 ≥ (-1099511627776) then (if a0_4 ≤ 1099511627776 then (some 0) else (some 1)) else (some 1)) else (some 1)) else (some 1)) else (some 1)) else (some 1)) else (some 1)) else (some 1)) = some r := by rw [if_neg (show ¬ (false = true) by decide)] at H; exact H
   clear H
   have H := H1
   clear H1
   by_cases c19 : x3_1 = true
   ·subst c19
    have H1 : (if a0_1 ≥ 0 then (if a0_1 ≤ 4611686018427387903 then (if a0_2 ≥ 0 then (if a0_2 < 64 then (if (a0_3 / 2) = 0 then (if a0_4 ≥ (-1099511627776) then (if a0_4 ≤ 1099511627776 then (some 0) else (some 1)) else (some 1)) else (some 1)) else (some 1)) else (some 1)) else (some 1)) else (some 1)) = some r := by rw [if_pos rfl] at H; exact H
    clear H
    have H := H1
    clear H1
    by_cases c20 : a0_1 ≥ 0
    ·rw [if_pos c20] at H
     have c20b0 : decide (0 ≤ a0_1) = true := decide_eq_true c20; clear c20
     by_cases c21 : a0_1 ≤ 4611686018427387903
     ·rw [if_pos c21] at H
      have c21b0 : decide (a0_1 ≤ 4611686018427387903) = true := decide_eq_true c21; clear c21
      by_cases c22 : a0_2 ≥ 0
      ·rw [if_pos c22] at H
       have c22b0 : decide (0 ≤ a0_2) = true := decide_eq_true c22; clear c22
       by_cases c23 : a0_2 < 64
       ·rw [if_pos c23] at H
        have c23b0 : decide (a0_2 < 64) = true := decide_eq_true c23; clear c23
        by_cases c24 : (a0_3 / 2) = 0
        ·rw [if_pos c24] at H
         have c24b0 : ((a0_3 / 2) == 0) = true := beq_iff_eq.mpr c24
         have c24b1 : ((a0_3 / 2) != 0) = false := bne_eq_false_iff_eq.mpr c24
         clear c24
         by_cases c25 : a0_4 ≥ (-1099511627776)
         ·rw [if_pos c25] at H
          have c25b0 : decide ((-1099511627776) ≤ a0_4) = true := decide_eq_true c25; clear c25
          by_cases c26 : a0_4 ≤ 1099511627776
          ·rw [if_pos c26] at H
           have c26b0 : decide (a0_4 ≤ 1099511627776) = true := decide_eq_true c26; clear c26
           obtain rfl := Option.some.inj H
           obtain ⟨q27_0, q27_1, q27_2, q27_3, q27_4, q27_5⟩ := cA6 BK125.out
           obtain ⟨f27_0, f27_1, f27_2, f27_3, f27_4, f27_5⟩ := fA6 BK125.out
           go_wp2
           go_ret
           exact ⟨by first | rfl | (simp [errW_none, errW_some] <;> rfl) | (simp [*, errW_none, errW_some] <;> rfl), by repeat (first | (with_reducible first | exact HB.out | apply YA | apply YB | apply YC | refine below_set ?_ GE125.out) | exact HB.out)⟩
          rw [if_neg c26] at H; have c26b0 : decide (a0_4 ≤ 1099511627776) = false := decide_eq_false c26; clear c26
          obtain rfl := Option.some.inj H
          obtain ⟨q28_0, q28_1, q28_2, q28_3, q28_4, q28_5⟩ := cA6 BK125.out
          obtain ⟨f28_0, f28_1, f28_2, f28_3, f28_4, f28_5⟩ := fA6 BK125.out
          go_wp2
          go_ret
          exact ⟨by first | rfl | (simp [errW_none, errW_some] <;> rfl) | (simp [*, errW_none, errW_some] <;> rfl), by repeat (first | (with_reducible first | exact HB.out | apply YA | apply YB | apply YC | refine below_set ?_ GE125.out) | exact HB.out)⟩
         rw [if_neg c25] at H; have c25b0 : decide ((-1099511627776) ≤ a0_4) = false := decide_eq_false c25; clear c25
         obtain rfl := Option.some.inj H
         obtain ⟨q29_0, q29_1, q29_2, q29_3, q29_4, q29_5⟩ := cA6 BK125.out
         obtain ⟨f29_0, f29_1, f29_2, f29_3, f29_4, f29_5⟩ := fA6 BK125.out
         go_wp2
         go_ret
         exact ⟨by first | rfl | (simp [errW_none, errW_some] <;> rfl) | (simp [*, errW_none, errW_some] <;> rfl), by repeat (first | (with_reducible first | exact HB.out | apply YA | apply YB | apply YC | refine below_set ?_ GE125.out) | exact HB.out)⟩
        rw [if_neg c24] at H
        have c24b0 : ((a0_3 / 2) == 0) = false := beq_eq_false_iff_ne.mpr c24
        have c24b1 : ((a0_3 / 2) != 0) = true := bne_iff_ne.mpr c24
        obtain rfl := Option.some.inj H
        obtain ⟨q30_0, q30_1, q30_2, q30_3, q30_4, q30_5⟩ := cA6 BK125.out
        obtain ⟨f30_0, f30_1, f30_2, f30_3, f30_4, f30_5⟩ := fA6 BK125.out
        go_wp2
        go_ret
        exact ⟨by first | rfl | (simp [errW_none, errW_some] <;> rfl) | (simp [*, errW_none, errW_some] <;> rfl), by repeat (first | (with_reducible first | exact HB.out | apply YA | apply YB | apply YC | refine below_set ?_ GE125.out) | exact HB.out)⟩
       rw [if_neg c23] at H; have c23b0 : decide (a0_2 < 64) = false := decide_eq_false c23; clear c23
       obtain rfl := Option.some.inj H
       obtain ⟨q31_0, q31_1, q31_2, q31_3, q31_4, q31_5⟩ := cA6 BK125.out
       obtain ⟨f31_0, f31_1, f31_2, f31_3, f31_4, f31_5⟩ := fA6 BK125.out
       go_wp2
       go_ret
       exact ⟨by first | rfl | (simp [errW_none, errW_some] <;> rfl) | (simp [*, errW_none, errW_some] <;> rfl), by repeat (first | (with_reducible first | exact HB.out | apply YA | apply YB | apply YC | refine below_set ?_ GE125.out) | exact HB.out)⟩
      rw [if_neg c22] at H; have c22b0 : decide (0 ≤ a0_2) = false := decide_eq_false c22; clear c22
      obtain rfl := Option.some.inj H
      obtain ⟨q32_0, q32_1, q32_2, q32_3, q32_4, q32_5⟩ := cA6 BK125.out
      obtain ⟨f32_0, f32_1, f32_2, f32_3, f32_4, f32_5⟩ := fA6 BK125.out
      go_wp2
      go_ret
      exact ⟨by first | rfl | (simp [errW_none, errW_some] <;> rfl) | (simp [*, errW_none, errW_some] <;> rfl), by repeat (first | (with_reducible first | exact HB.out | apply YA | apply YB | apply YC | refine below_set ?_ GE125.out) | exact HB.out)⟩
     rw [if_neg c21] at H; have c21b0 : decide (a0_1 ≤ 4611686018427387903) = false := decide_eq_false c21; clear c21
     obtain rfl := Option.some.inj H
     obtain ⟨q33_0, q33_1, q33_2, q33_3, q33_4, q33_5⟩ := cA6 BK125.out
     obtain ⟨f33_0, f33_1, f33_2, f33_3, f33_4, f33_5⟩ := fA6 BK125.out
     go_wp2
     go_ret
     exact ⟨by first | rfl | (simp [errW_none, errW_some] <;> rfl) | (simp [*, errW_none, errW_some] <;> rfl), by repeat (first | (with_reducible first | exact HB.out | apply YA | apply YB | apply YC | refine below_set ?_ GE125.out) | exact HB.out)⟩
    rw [if_neg c20] at H; have c20b0 : decide (0 ≤ a0_1) = false := decide_eq_false c20; clear c20
    obtain rfl := Option.some.inj H
    obtain ⟨q34_0, q34_1, q34_2, q34_3, q34_4, q34_5⟩ := cA6 BK125.out
    obtain ⟨f34_0, f34_1, f34_2, f34_3, f34_4, f34_5⟩ := fA6 BK125.out
    go_wp2
    go_ret
    exact ⟨by first | rfl | (simp [errW_none, errW_some] <;> rfl) | (simp [*, errW_none, errW_some] <;> rfl), by repeat (first | (with_reducible first | exact HB.out | apply YA | apply YB | apply YC | refine below_set ?_ GE125.out) | exact HB.out)⟩
   replace c19 := Bool.eq_false_iff.mpr c19
   subst c19
   have H1 : (some 1) = some r := by rw [if_neg (show ¬ (false = true) by decide)] at H; exact H
   clear H
   have H := H1
   clear H1
   obtain rfl := Option.some.inj H
   obtain ⟨q35_0, q35_1, q35_2, q35_3, q35_4, q35_5⟩ := cA6 BK125.out
   obtain ⟨f35_0, f35_1, f35_2, f35_3, f35_4, f35_5⟩ := fA6 BK125.out
   go_wp2
   go_ret
   exact ⟨by first | rfl | (simp [errW_none, errW_some] <;> rfl) | (simp [*, errW_none, errW_some] <;> rfl), by repeat (first | (with_reducible first | exact HB.out | apply YA | apply YB | apply YC | refine below_set ?_ GE125.out) | exact HB.out)⟩
end Go.Proofs.Ytclbempnhelmoaa.P
namespace Go.Proofs.Ytclbempnhelmoaa.P
open Go.RowKit YtclbempnhelmoaaW.PrintWords YtclbempnhelmoaaW.PrintLast YtclbempnhelmoaaW.PrintMore
open YtclbempnhelmoaaW.PrintWords renaming below_alloc → YA, pw_below_drewN → YB, below_drew1 → YC, below_step → YD, below_size → YE, blk_drewN → YF, blk_drew → YG, blk_alloc → YH, blk_cell → YI, blk_frozen → YJ, blk_below → YK
open YtclbempnhelmoaaW.PrintWords.Aside0 renaming mk → YL
attribute [local go_sem] max2_int min2_int max_two min_two max_three min_three max_four min_four
def height_At.f (k : Nat) (a0_0 : Int) (a0_1 : Int) (a0_2 : Int) (a1 : Int) (a2 : Int) : Option (Bool × Int × Int × Int × Int × Int × Int) := (height_Check.f k false a0_0 a0_1 a0_2 a1 a2).bind fun t135 => (if t135 = 0 then (some (false, a0_0, a0_1, a0_2, a1, a2, 0)) else (some (false, 0, 0, 0, 0, 0, t135)))
theorem height_At.calls (k : Nat) (a0_0 : Int) (a0_1 : Int) (a0_2 : Int) (a1 : Int) (a2 : Int) (r1 : Bool) (r2 : Int) (r3 : Int) (r4 : Int) (r5 : Int) (r6 : Int) (r7 : Int) (w : World) (h : height_At.f k a0_0 a0_1 a0_2 a1 a2 = some (r1, r2, r3, r4, r5, r6, r7)) :
  Calls Try.prog 49 #[.agg #[.int .i64 a0_0, .int .i64 a0_1, .int .i64 a0_2], .int .i64 a1, .int .i64 a2] w fun e w' => e = .returned (.tuple #[.agg #[.bool r1, .int .i64 r2, .int .i64 r3, .int .i64 r4, .int .i64 r5, .int .i64 r6], .int .i64 r7]) ∧ Below w.heap.size w w' := by
 have hu32 := Try.underlying32
 have hu30 := Try.underlying30
 have HB := YL (Below.refl w.heap.size w)
 have H : ((height_Check.f k false a0_0 a0_1 a0_2 a1 a2).bind fun t135 => (if t135 = 0 then (some (false, a0_0, a0_1, a0_2, a1, a2, 0)) else (some (false, 0, 0, 0, 0, 0, t135)))) = some (r1, r2, r3, r4, r5, r6, r7) := h
 clear h; replace H := Option.bind_eq_some_iff.mp H; obtain ⟨t135, A40, H⟩ := H
 replace H : (if t135 = 0 then (some (false, a0_0, a0_1, a0_2, a1, a2, 0)) else (some (false, 0, 0, 0, 0, 0, t135))) = some (r1, r2, r3, r4, r5, r6, r7) := H
 have A4 := YL A40; clear A40
 by_cases c5 : t135 = 0
 ·rw [if_pos c5] at H
  have c5b0 : (t135 == 0) = true := beq_iff_eq.mpr c5
  have c5b1 : (t135 != 0) = false := bne_eq_false_iff_eq.mpr c5
  clear c5
  simp only [Option.some.injEq, Prod.mk.injEq] at H
  obtain ⟨rfl, rfl, rfl, rfl, rfl, rfl, rfl⟩ := H
  go_enter Try.func49, Try.ntmps49
  go_wp2_with (first | ((with_reducible refine gate_dst (N := 3) rfl ?_); refine box_event ?hg (N := 3) ?hd (cs := #[.int .i64 a0_0, .int .i64 a0_1, .int .i64 a0_2]) (t := 32) ?hr ?_; (case hd => rfl); (case hg => rfl); (case hr => first | (go_simp; done) | (go_simp; rfl)); intro gb132 hg w6 hbox hb; have n0_ := YL (YD (upB HB) hb); have n1_ := YL (hbox); have n2_ := YL ((by rw [hg]; exact (YE (upB HB)) : w.heap.size ≤ gb132)); have n3_ := YL ((by rw [hg]; exact (YE (upB HB)) : w.heap.size ≤ gb132)); clear HB; have HB := n0_; have BK132 := n1_; have GW132 := n2_; have GE132 := n3_; clear n0_ n1_ n2_ n3_; clear hb hbox hg) | ((with_reducible refine gate_dst (N := 6) rfl ?_); refine box_event ?hg (N := 6) ?hd (cs := #[.bool false, .int .i64 0, .int .i64 0, .int .i64 0, .int .i64 0, .int .i64 0]) (t := 30) ?hr ?_; (case hd => rfl); (case hg => rfl); (case hr => first | (go_simp; done) | (go_simp; rfl)); intro gb133 hg w7 hbox hb; have n0_ := YL (YK (g := gb132) (o := .cells #[.int .i64 a0_0, .int .i64 a0_1, .int .i64 a0_2] 32 (0, 0)) (upK BK132) hb); have n1_ := YL (YD (upB HB) hb); have n2_ := YL (hbox); have n3_ := YL ((by rw [hg]; exact (YE (upB HB)) : w.heap.size ≤ gb133)); have n4_ := YL ((by rw [hg]; exact (YE (upB HB)) : w.heap.size ≤ gb133)); have n5_ := YL ((by rw [hg]; exact Nat.ne_of_lt (blk_lt (g := gb132) (o := .cells #[.int .i64 a0_0, .int .i64 a0_1, .int .i64 a0_2] 32 (0, 0)) (upK BK132)) : gb132 ≠ gb133)); have n6_ := YL ((by rw [hg]; exact Nat.ne_of_gt (blk_lt (g := gb132) (o := .cells #[.int .i64 a0_0, .int .i64 a0_1, .int .i64 a0_2] 32 (0, 0)) (upK BK132)) : gb133 ≠ gb132)); clear BK132; clear HB; have BK132 := n0_; have HB := n1_; have BK133 := n2_; have GW133 := n3_; have GE133 := n4_; have NB132_133 := n5_; have NB133_132 := n6_; clear n0_ n1_ n2_ n3_ n4_ n5_ n6_; clear hb hbox hg; have hnb8 := NB132_133.out; have hnc8 := NB133_132.out; obtain ⟨q9_0, q9_1, q9_2⟩ := cA3 BK132.out; obtain ⟨f9_0, f9_1, f9_2⟩ := fA3 BK132.out) | ((with_reducible refine gate_dst (N := 8) rfl ?_); refine box_event ?hg (N := 8) ?hd (cs := #[.bool false, .int .i64 0, .int .i64 0, .int .i64 0, .int .i64 0, .int .i64 0]) (t := 30) ?hr ?_; (case hd => rfl); (case hg => rfl); (case hr => first | (go_simp; done) | (go_simp; rfl)); intro gb134 hg w10 hbox hb; have n0_ := YL (YK (g := gb132) (o := .cells #[.int .i64 a0_0, .int .i64 a0_1, .int .i64 a0_2] 32 (0, 0)) (upK BK132) hb); have n1_ := YL (YK (g := gb133) (o := .cells #[.bool false, .int .i64 0, .int .i64 0, .int .i64 0, .int .i64 0, .int .i64 0] 30 (0, 0)) (upK BK133) hb); have n2_ := YL (YD (upB HB) hb); have n3_ := YL (hbox); have n4_ := YL ((by rw [hg]; exact (YE (upB HB)) : w.heap.size ≤ gb134)); have n5_ := YL ((by rw [hg]; exact (YE (upB HB)) : w.heap.size ≤ gb134)); have n6_ := YL ((by rw [hg]; exact Nat.ne_of_lt (blk_lt (g := gb132) (o := .cells #[.int .i64 a0_0, .int .i64 a0_1, .int .i64 a0_2] 32 (0, 0)) (upK BK132)) : gb132 ≠ gb134)); have n7_ := YL ((by rw [hg]; exact Nat.ne_of_gt (blk_lt (g := gb132) (o := .cells #[.int .i64 a0_0, .int .i64 a0_1, .int .i64 a0_2] 32 (0, 0)) (upK BK132)) : gb134 ≠ gb132)); have n8_ := YL ((by rw [hg]; exact Nat.ne_of_lt (blk_lt (g := gb133) (o := .cells #[.bool false, .int .i64 0, .int .i64 0, .int .i64 0, .int .i64 0, .int .i64 0] 30 (0, 0)) (upK BK133)) : gb133 ≠ gb134)); have n9_ := YL ((by rw [hg]; exact Nat.ne_of_gt (blk_lt (g := gb133) (o := .cells #[.bool false, .int .i64 0, .int .i64 0, .int .i64 0, .int .i64 0, .int .i64 0] 30 (0, 0)) (upK BK133)) : gb134 ≠ gb133)); clear BK132; clear BK133; clear HB; have BK132 := n0_; have BK133 := n1_; have HB := n2_; have BK134 := n3_; have GW134 := n4_; have GE134 := n5_; have NB132_134 := n6_; have NB134_132 := n7_; have NB133_134 := n8_; have NB134_133 := n9_; clear n0_ n1_ n2_ n3_ n4_ n5_ n6_ n7_ n8_ n9_; clear hb hbox hg; have hnb11 := NB134_132.out; have hnc11 := NB132_134.out; have hnb12 := NB134_133.out; have hnc12 := NB133_134.out; obtain ⟨q13_0, q13_1, q13_2, q13_3, q13_4, q13_5⟩ := cA6 BK134.out; obtain ⟨f13_0, f13_1, f13_2, f13_3, f13_4, f13_5⟩ := fA6 BK134.out) | ((with_reducible refine gate_callee (f := 48) rfl ?_); refine goesA (some 20) Try.func48 #[.agg #[.bool false, .int .i64 a0_0, .int .i64 a0_1, .int .i64 a0_2, .int .i64 a1, .int .i64 a2]] ?_; (with_reducible refine (height_Check.calls k false a0_0 a0_1 a0_2 a1 a2 t135 _ A4.out).mono ?_); rintro e w14 ⟨rfl, hb⟩; refine ⟨_, rfl, ?_⟩; have n0_ := YL (YK (g := gb132) (o := .cells #[.int .i64 a0_0, .int .i64 a0_1, .int .i64 a0_2] 32 (0, 0)) (by (with_reducible repeat (first | refine YF ?_ _ | refine YG ?_ | refine YH ?_ _)); refine blk_far ?_ NB132_134.out _; (with_reducible repeat (first | refine YF ?_ _ | refine YG ?_ | refine YH ?_ _)); refine blk_far ?_ NB132_134.out _; (with_reducible repeat (first | refine YF ?_ _ | refine YG ?_ | refine YH ?_ _)); refine blk_far ?_ NB132_134.out _; (with_reducible repeat (first | refine YF ?_ _ | refine YG ?_ | refine YH ?_ _)); refine blk_far ?_ NB132_134.out _; (with_reducible repeat (first | refine YF ?_ _ | refine YG ?_ | refine YH ?_ _)); refine blk_far ?_ NB132_134.out _; (with_reducible repeat (first | refine YF ?_ _ | refine YG ?_ | refine YH ?_ _)); refine blk_far ?_ NB132_134.out _; (with_reducible repeat (first | refine YF ?_ _ | refine YG ?_ | refine YH ?_ _)); exact BK132.out) hb); have n1_ := YL (YK (g := gb133) (o := .cells #[.bool false, .int .i64 0, .int .i64 0, .int .i64 0, .int .i64 0, .int .i64 0] 30 (0, 0)) (by (with_reducible repeat (first | refine YF ?_ _ | refine YG ?_ | refine YH ?_ _)); refine blk_far ?_ NB133_134.out _; (with_reducible repeat (first | refine YF ?_ _ | refine YG ?_ | refine YH ?_ _)); refine blk_far ?_ NB133_134.out _; (with_reducible repeat (first | refine YF ?_ _ | refine YG ?_ | refine YH ?_ _)); refine blk_far ?_ NB133_134.out _; (with_reducible repeat (first | refine YF ?_ _ | refine YG ?_ | refine YH ?_ _)); refine blk_far ?_ NB133_134.out _; (with_reducible repeat (first | refine YF ?_ _ | refine YG ?_ | refine YH ?_ _)); refine blk_far ?_ NB133_134.out _; (with_reducible repeat (first | refine YF ?_ _ | refine YG ?_ | refine YH ?_ _)); refine blk_far ?_ NB133_134.out _; (with_reducible repeat (first | refine YF ?_ _ | refine YG ?_ | refine YH ?_ _)); exact BK133.out) hb); have n2_ := YL (YK (g := gb134) (o := .cells #[.bool false, .int .i64 a0_0, .int .i64 a0_1, .int .i64 a0_2, .int .i64 a1, .int .i64 a2] 30 (0, 0)) (by (with_reducible repeat (first | refine YF ?_ _ | refine YG ?_ | refine YH ?_ _)); refine blk_put (cs := #[.bool false, .int .i64 a0_0, .int .i64 a0_1, .int .i64 a0_2, .int .i64 a1, .int .i64 0]) ?_ 5 _ rfl; (with_reducible repeat (first | refine YF ?_ _ | refine YG ?_ | refine YH ?_ _)); refine blk_put (cs := #[.bool false, .int .i64 a0_0, .int .i64 a0_1, .int .i64 a0_2, .int .i64 0, .int .i64 0]) ?_ 4 _ rfl; (with_reducible repeat (first | refine YF ?_ _ | refine YG ?_ | refine YH ?_ _)); refine blk_put (cs := #[.bool false, .int .i64 a0_0, .int .i64 a0_1, .int .i64 0, .int .i64 0, .int .i64 0]) ?_ 3 _ rfl; (with_reducible repeat (first | refine YF ?_ _ | refine YG ?_ | refine YH ?_ _)); refine blk_put (cs := #[.bool false, .int .i64 a0_0, .int .i64 0, .int .i64 0, .int .i64 0, .int .i64 0]) ?_ 2 _ rfl; (with_reducible repeat (first | refine YF ?_ _ | refine YG ?_ | refine YH ?_ _)); refine blk_put (cs := #[.bool false, .int .i64 0, .int .i64 0, .int .i64 0, .int .i64 0, .int .i64 0]) ?_ 1 _ rfl; (with_reducible repeat (first | refine YF ?_ _ | refine YG ?_ | refine YH ?_ _)); refine blk_put (cs := #[.bool false, .int .i64 0, .int .i64 0, .int .i64 0, .int .i64 0, .int .i64 0]) ?_ 0 _ rfl; (with_reducible repeat (first | refine YF ?_ _ | refine YG ?_ | refine YH ?_ _)); exact BK134.out) hb); have n3_ := YL (YD (upB HB) hb); clear BK132; clear BK133; clear BK134; clear HB; have BK132 := n0_; have BK133 := n1_; have BK134 := n2_; have HB := n3_; clear n0_ n1_ n2_ n3_; (try clear hb); (try clear hb2); (try clear hk); (try clear hi); obtain ⟨q15_0, q15_1, q15_2, q15_3, q15_4, q15_5⟩ := cA6 BK134.out; obtain ⟨f15_0, f15_1, f15_2, f15_3, f15_4, f15_5⟩ := fA6 BK134.out; obtain ⟨q16_0, q16_1, q16_2, q16_3, q16_4, q16_5⟩ := cA6 BK133.out; obtain ⟨f16_0, f16_1, f16_2, f16_3, f16_4, f16_5⟩ := fA6 BK133.out))
  refine bodyPost_ret (results_ct rfl _ _ gb133 30 #[.bool false, .int .i64 a0_0, .int .i64 a0_1, .int .i64 a0_2, .int .i64 a1, .int .i64 a2] (0, 0) _ rfl (by (with_reducible repeat (first | refine YF ?_ _ | refine YG ?_ | refine YH ?_ _)); refine blk_put (cs := #[.bool false, .int .i64 a0_0, .int .i64 a0_1, .int .i64 a0_2, .int .i64 a1, .int .i64 0]) ?_ 5 _ rfl; (with_reducible repeat (first | refine YF ?_ _ | refine YG ?_ | refine YH ?_ _)); refine blk_put (cs := #[.bool false, .int .i64 a0_0, .int .i64 a0_1, .int .i64 a0_2, .int .i64 0, .int .i64 0]) ?_ 4 _ rfl; (with_reducible repeat (first | refine YF ?_ _ | refine YG ?_ | refine YH ?_ _)); refine blk_put (cs := #[.bool false, .int .i64 a0_0, .int .i64 a0_1, .int .i64 0, .int .i64 0, .int .i64 0]) ?_ 3 _ rfl; (with_reducible repeat (first | refine YF ?_ _ | refine YG ?_ | refine YH ?_ _)); refine blk_put (cs := #[.bool false, .int .i64 a0_0, .int .i64 0, .int .i64 0, .int .i64 0, .int .i64 0]) ?_ 2 _ rfl; (with_reducible repeat (first | refine YF ?_ _ | refine YG ?_ | refine YH ?_ _)); refine blk_put (cs := #[.bool false, .int .i64 0, .int .i64 0, .int .i64 0, .int .i64 0, .int .i64 0]) ?_ 1 _ rfl; (with_reducible repeat (first | refine YF ?_ _ | refine YG ?_ | refine YH ?_ _)); refine blk_put (cs := #[.bool false, .int .i64 0, .int .i64 0, .int .i64 0, .int .i64 0, .int .i64 0]) ?_ 0 _ rfl; (with_reducible repeat (first | refine YF ?_ _ | refine YG ?_ | refine YH ?_ _)); exact BK133.out) Try.underlying30 rfl (by kernel_rfl)) rfl ?_
  exact ⟨by first | rfl | (simp [errW_none, errW_some] <;> rfl) | (simp [*, errW_none, errW_some] <;> rfl), by repeat (first | (with_reducible first | exact HB.out | apply YA | apply YB | apply YC | refine below_set ?_ GE132.out | refine below_set ?_ GE133.out | refine below_set ?_ GE134.out) | exact HB.out)⟩
 rw [if_neg c5] at H
 have c5b0 : (t135 == 0) = false := beq_eq_false_iff_ne.mpr c5
 have c5b1 : (t135 != 0) = true := bne_iff_ne.mpr c5
 simp only [Option.some.injEq, Prod.mk.injEq] at H
 obtain ⟨rfl, rfl, rfl, rfl, rfl, rfl, rfl⟩ := H
 go_enter Try.func49, Try.ntmps49
 go_wp2_with (first | ((with_reducible refine gate_dst (N := 3) rfl ?_); refine box_event ?hg (N := 3) ?hd (cs := #[.int .i64 a0_0, .int .i64 a0_1, .int .i64 a0_2]) (t := 32) ?hr ?_; (case hd => rfl); (case hg => rfl); (case hr => first | (go_simp; done) | (go_simp; rfl)); intro gb132 hg w17 hbox hb; have n0_ := YL (YD (upB HB) hb); have n1_ := YL (hbox); have n2_ := YL ((by rw [hg]; exact (YE (upB HB)) : w.heap.size ≤ gb132)); have n3_ := YL ((by rw [hg]; exact (YE (upB HB)) : w.heap.size ≤ gb132)); clear HB; have HB := n0_; have BK132 := n1_; have GW132 := n2_; have GE132 := n3_; clear n0_ n1_ n2_ n3_; clear hb hbox hg) | ((with_reducible refine gate_dst (N := 6) rfl ?_); refine box_event ?hg (N := 6) ?hd (cs := #[.bool false, .int .i64 0, .int .i64 0, .int .i64 0, .int .i64 0, .int .i64 0]) (t := 30) ?hr ?_; (case hd => rfl); (case hg => rfl); (case hr => first | (go_simp; done) | (go_simp; rfl)); intro gb133 hg w18 hbox hb; have n0_ := YL (YK (g := gb132) (o := .cells #[.int .i64 a0_0, .int .i64 a0_1, .int .i64 a0_2] 32 (0, 0)) (upK BK132) hb); have n1_ := YL (YD (upB HB) hb); have n2_ := YL (hbox); have n3_ := YL ((by rw [hg]; exact (YE (upB HB)) : w.heap.size ≤ gb133)); have n4_ := YL ((by rw [hg]; exact (YE (upB HB)) : w.heap.size ≤ gb133)); have n5_ := YL ((by rw [hg]; exact Nat.ne_of_lt (blk_lt (g := gb132) (o := .cells #[.int .i64 a0_0, .int .i64 a0_1, .int .i64 a0_2] 32 (0, 0)) (upK BK132)) : gb132 ≠ gb133)); have n6_ := YL ((by rw [hg]; exact Nat.ne_of_gt (blk_lt (g := gb132) (o := .cells #[.int .i64 a0_0, .int .i64 a0_1, .int .i64 a0_2] 32 (0, 0)) (upK BK132)) : gb133 ≠ gb132)); clear BK132; clear HB; have BK132 := n0_; have HB := n1_; have BK133 := n2_; have GW133 := n3_; have GE133 := n4_; have NB132_133 := n5_; have NB133_132 := n6_; clear n0_ n1_ n2_ n3_ n4_ n5_ n6_; clear hb hbox hg; have hnb19 := NB132_133.out; have hnc19 := NB133_132.out; obtain ⟨q20_0, q20_1, q20_2⟩ := cA3 BK132.out; obtain ⟨f20_0, f20_1, f20_2⟩ := fA3 BK132.out) | ((with_reducible refine gate_dst (N := 8) rfl ?_); refine box_event ?hg (N := 8) ?hd (cs := #[.bool false, .int .i64 0, .int .i64 0, .int .i64 0, .int .i64 0, .int .i64 0]) (t := 30) ?hr ?_; (case hd => rfl); (case hg => rfl); (case hr => first | (go_simp; done) | (go_simp; rfl)); intro gb134 hg w21 hbox hb; have n0_ := YL (YK (g := gb132) (o := .cells #[.int .i64 a0_0, .int .i64 a0_1, .int .i64 a0_2] 32 (0, 0)) (upK BK132) hb); have n1_ := YL (YK (g := gb133) (o := .cells #[.bool false, .int .i64 0, .int .i64 0, .int .i64 0, .int .i64 0, .int .i64 0] 30 (0, 0)) (upK BK133) hb); have n2_ := YL (YD (upB HB) hb); have n3_ := YL (hbox); have n4_ := YL ((by rw [hg]; exact (YE (upB HB)) : w.heap.size ≤ gb134)); have n5_ := YL ((by rw [hg]; exact (YE (upB HB)) : w.heap.size ≤ gb134)); have n6_ := YL ((by rw [hg]; exact Nat.ne_of_lt (blk_lt (g := gb132) (o := .cells #[.int .i64 a0_0, .int .i64 a0_1, .int .i64 a0_2] 32 (0, 0)) (upK BK132)) : gb132 ≠ gb134)); have n7_ := YL ((by rw [hg]; exact Nat.ne_of_gt (blk_lt (g := gb132) (o := .cells #[.int .i64 a0_0, .int .i64 a0_1, .int .i64 a0_2] 32 (0, 0)) (upK BK132)) : gb134 ≠ gb132)); have n8_ := YL ((by rw [hg]; exact Nat.ne_of_lt (blk_lt (g := gb133) (o := .cells #[.bool false, .int .i64 0, .int .i64 0, .int .i64 0, .int .i64 0, .int .i64 0] 30 (0, 0)) (upK BK133)) : gb133 ≠ gb134)); have n9_ := YL ((by rw [hg]; exact Nat.ne_of_gt (blk_lt (g := gb133) (o := .cells #[.bool false, .int .i64 0, .int .i64 0, .int .i64 0, .int .i64 0, .int .i64 0] 30 (0, 0)) (upK BK133)) : gb134 ≠ gb133)); clear BK132; clear BK133; clear HB; have BK132 := n0_; have BK133 := n1_; have HB := n2_; have BK134 := n3_; have GW134 := n4_; have GE134 := n5_; have NB132_134 := n6_; have NB134_132 := n7_; have NB133_134 := n8_; have NB134_133 := n9_; clear n0_ n1_ n2_ n3_ n4_ n5_ n6_ n7_ n8_ n9_; clear hb hbox hg; have hnb22 := NB134_132.out; have hnc22 := NB132_134.out; have hnb23 := NB134_133.out; have hnc23 := NB133_134.out; obtain ⟨q24_0, q24_1, q24_2, q24_3, q24_4, q24_5⟩ := cA6 BK134.out; obtain ⟨f24_0, f24_1, f24_2, f24_3, f24_4, f24_5⟩ := fA6 BK134.out) | ((with_reducible refine gate_callee (f := 48) rfl ?_); refine goesA (some 20) Try.func48 #[.agg #[.bool false, .int .i64 a0_0, .int .i64 a0_1, .int .i64 a0_2, .int .i64 a1, .int .i64 a2]] ?_; (with_reducible refine (height_Check.calls k false a0_0 a0_1 a0_2 a1 a2 t135 _ A4.out).mono ?_); rintro e w25 ⟨rfl, hb⟩; refine ⟨_, rfl, ?_⟩; have n0_ := YL (YK (g := gb132) (o := .cells #[.int .i64 a0_0, .int .i64 a0_1, .int .i64 a0_2] 32 (0, 0)) (by (with_reducible repeat (first | refine YF ?_ _ | refine YG ?_ | refine YH ?_ _)); refine blk_far ?_ NB132_134.out _; (with_reducible repeat (first | refine YF ?_ _ | refine YG ?_ | refine YH ?_ _)); refine blk_far ?_ NB132_134.out _; (with_reducible repeat (first | refine YF ?_ _ | refine YG ?_ | refine YH ?_ _)); refine blk_far ?_ NB132_134.out _; (with_reducible repeat (first | refine YF ?_ _ | refine YG ?_ | refine YH ?_ _)); refine blk_far ?_ NB132_134.out _; (with_reducible repeat (first | refine YF ?_ _ | refine YG ?_ | refine YH ?_ _)); refine blk_far ?_ NB132_134.out _; (with_reducible repeat (first | refine YF ?_ _ | refine YG ?_ | refine YH ?_ _)); refine blk_far ?_ NB132_134.out _; (with_reducible repeat (first | refine YF ?_ _ | refine YG ?_ | refine YH ?_ _)); exact BK132.out) hb); have n1_ := YL (YK (g := gb133) (o := .cells #[.bool false, .int .i64 0, .int .i64 0, .int .i64 0, .int .i64 0, .int .i64 0] 30 (0, 0)) (by (with_reducible repeat (first | refine YF ?_ _ | refine YG ?_ | refine YH ?_ _)); refine blk_far ?_ NB133_134.out _; (with_reducible repeat (first | refine YF ?_ _ | refine YG ?_ | refine YH ?_ _)); refine blk_far ?_ NB133_134.out _; (with_reducible repeat (first | refine YF ?_ _ | refine YG ?_ | refine YH ?_ _)); refine blk_far ?_ NB133_134.out _; (with_reducible repeat (first | refine YF ?_ _ | refine YG ?_ | refine YH ?_ _)); refine blk_far ?_ NB133_134.out _; (with_reducible repeat (first | refine YF ?_ _ | refine YG ?_ | refine YH ?_ _)); refine blk_far ?_ NB133_134.out _; (with_reducible repeat (first | refine YF ?_ _ | refine YG ?_ | refine YH ?_ _)); refine blk_far ?_ NB133_134.out _; (with_reducible repeat (first | refine YF ?_ _ | refine YG ?_ | refine YH ?_ _)); exact BK133.out) hb); have n2_ := YL (YK (g := gb134) (o := .cells #[.bool false, .int .i64 a0_0, .int .i64 a0_1, .int .i64 a0_2, .int .i64 a1, .int .i64 a2] 30 (0, 0)) (by (with_reducible repeat (first | refine YF ?_ _ | refine YG ?_ | refine YH ?_ _)); refine blk_put (cs := #[.bool false, .int .i64 a0_0, .int .i64 a0_1, .int .i64 a0_2, .int .i64 a1, .int .i64 0]) ?_ 5 _ rfl; (with_reducible repeat (first | refine YF ?_ _ | refine YG ?_ | refine YH ?_ _)); refine blk_put (cs := #[.bool false, .int .i64 a0_0, .int .i64 a0_1, .int .i64 a0_2, .int .i64 0, .int .i64 0]) ?_ 4 _ rfl; (with_reducible repeat (first | refine YF ?_ _ | refine YG ?_ | refine YH ?_ _)); refine blk_put (cs := #[.bool false, .int .i64 a0_0, .int .i64 a0_1, .int .i64 0, .int .i64 0, .int .i64 0]) ?_ 3 _ rfl; (with_reducible repeat (first | refine YF ?_ _ | refine YG ?_ | refine YH ?_ _)); refine blk_put (cs := #[.bool false, .int .i64 a0_0, .int .i64 0, .int .i64 0, .int .i64 0, .int .i64 0]) ?_ 2 _ rfl; (with_reducible repeat (first | refine YF ?_ _ | refine YG ?_ | refine YH ?_ _)); refine blk_put (cs := #[.bool false, .int .i64 0, .int .i64 0, .int .i64 0, .int .i64 0, .int .i64 0]) ?_ 1 _ rfl; (with_reducible repeat (first | refine YF ?_ _ | refine YG ?_ | refine YH ?_ _)); refine blk_put (cs := #[.bool false, .int .i64 0, .int .i64 0, .int .i64 0, .int .i64 0, .int .i64 0]) ?_ 0 _ rfl; (with_reducible repeat (first | refine YF ?_ _ | refine YG ?_ | refine YH ?_ _)); exact BK134.out) hb); have n3_ := YL (YD (upB HB) hb); clear BK132; clear BK133; clear BK134; clear HB; have BK132 := n0_; have BK133 := n1_; have BK134 := n2_; have HB := n3_; clear n0_ n1_ n2_ n3_; (try clear hb); (try clear hb2); (try clear hk); (try clear hi); obtain ⟨q26_0, q26_1, q26_2, q26_3, q26_4, q26_5⟩ := cA6 BK133.out; obtain ⟨f26_0, f26_1, f26_2, f26_3, f26_4, f26_5⟩ := fA6 BK133.out))
 refine bodyPost_ret (results_ct rfl _ _ gb133 30 #[.bool false, .int .i64 0, .int .i64 0, .int .i64 0, .int .i64 0, .int .i64 0] (0, 0) _ rfl (by (with_reducible repeat (first | refine YF ?_ _ | refine YG ?_ | refine YH ?_ _)); refine blk_put (cs := #[.bool false, .int .i64 0, .int .i64 0, .int .i64 0, .int .i64 0, .int .i64 0]) ?_ 5 _ rfl; (with_reducible repeat (first | refine YF ?_ _ | refine YG ?_ | refine YH ?_ _)); refine blk_put (cs := #[.bool false, .int .i64 0, .int .i64 0, .int .i64 0, .int .i64 0, .int .i64 0]) ?_ 4 _ rfl; (with_reducible repeat (first | refine YF ?_ _ | refine YG ?_ | refine YH ?_ _)); refine blk_put (cs := #[.bool false, .int .i64 0, .int .i64 0, .int .i64 0, .int .i64 0, .int .i64 0]) ?_ 3 _ rfl; (with_reducible repeat (first | refine YF ?_ _ | refine YG ?_ | refine YH ?_ _)); refine blk_put (cs := #[.bool false, .int .i64 0, .int .i64 0, .int .i64 0, .int .i64 0, .int .i64 0]) ?_ 2 _ rfl; (with_reducible repeat (first | refine YF ?_ _ | refine YG ?_ | refine YH ?_ _)); refine blk_put (cs := #[.bool false, .int .i64 0, .int .i64 0, .int .i64 0, .int .i64 0, .int .i64 0]) ?_ 1 _ rfl; (with_reducible repeat (first | refine YF ?_ _ | refine YG ?_ | refine YH ?_ _)); refine blk_put (cs := #[.bool false, .int .i64 0, .int .i64 0, .int .i64 0, .int .i64 0, .int .i64 0]) ?_ 0 _ rfl; (with_reducible repeat (first | refine YF ?_ _ | refine YG ?_ | refine YH ?_ _)); exact BK133.out) Try.underlying30 rfl (by kernel_rfl)) rfl ?_
 exact ⟨by first | rfl | (simp [errW_none, errW_some] <;> rfl) | (simp [*, errW_none, errW_some] <;> rfl), by repeat (first | (with_reducible first | exact HB.out | apply YA | apply YB | apply YC | refine below_set ?_ GE132.out | refine below_set ?_ GE133.out | refine below_set ?_ GE134.out) | exact HB.out)⟩
end Go.Proofs.Ytclbempnhelmoaa.P
namespace Go.Proofs.Ytclbempnhelmoaa.P
open Go.RowKit YtclbempnhelmoaaW.PrintWords YtclbempnhelmoaaW.PrintLast YtclbempnhelmoaaW.PrintMore
open YtclbempnhelmoaaW.PrintWords renaming below_alloc → YA, pw_below_drewN → YB, below_drew1 → YC, below_step → YD, below_size → YE, blk_drewN → YF, blk_drew → YG, blk_alloc → YH, blk_cell → YI, blk_frozen → YJ, blk_below → YK
open YtclbempnhelmoaaW.PrintWords.Aside0 renaming mk → YL
open List renaming map_toArray → YM, length_take → YN, length_drop → YO
attribute [local go_sem] max2_int min2_int max_two min_two max_three min_three max_four min_four
attribute [local go_sem high] eqA34
mutual
def object_Check.j0 : Nat → Bool → Int → Int → Bool → Int → Int → Int → Int → Int → Int → Int → Int → Int → Int → Int → Bool → Int → Int → Int → Int → Int → Int → Int → Int → Int → Option (Int)
 | 0, _, _, _, _, _, _, _, _, _, _, _, _, _, _, _, _, _, _, _, _, _, _, _, _, _ => none
 | k + 1, x4, x137000, x137001, x137002, x137003, x137004, x137005, x137006, x137007, x137008, x137009, x137010, x137011, x138000, x138001, x138002, x138003, x138004, x138005, x138006, x138007, x138008, x138009, x138010, x138011 => if x137000 = 1 then (if x4 = true then (if (!(x138000 == 0) || (!(x138001 == 0) || ((x138002 || (!(x138003 == 0) || (!(x138004 == 0) || (!(x138005 == 0) || (!(x138006 == 0) || (!(x138007 == 0))))))) || ((!(x138008 == 0) || (!(x138009 == 0) || (!(x138010 == 0)))) || (!(x138011 == 0)))))) = true then (some 1) else (some 0)) else (some 1)) else (if x137000 = 4 then (if x4 = true then (if x137002 = true then (object_Check.j1 k false x137000 x137001 true x137003 x137004 x137005 x137006 x137007 x137008 x137009 x137010 x137011 x138000 x138001 x138002 x138003 x138004 x138005 x138006 x138007 x138008 x138009 x138010 0) else (if x137011 ≥ 0 then (object_Check.j1 k (decide (x137011 ≤ 65535)) x137000 x137001 false x137003 x137004 x137005 x137006 x137007 x137008 x137009 x137010 x137011 x138000 x138001 x138002 x138003 x138004 x138005 x138006 x138007 x138008 x138009 x138010 0) else (object_Check.j1 k false x137000 x137001 false x137003 x137004 x137005 x137006 x137007 x137008 x137009 x137010 x137011 x138000 x138001 x138002 x138003 x138004 x138005 x138006 x138007 x138008 x138009 x138010 0))) else (object_Check.j1 k false x137000 x137001 x137002 x137003 x137004 x137005 x137006 x137007 x137008 x137009 x137010 x137011 x138000 x138001 x138002 x138003 x138004 x138005 x138006 x138007 x138008 x138009 x138010 0)) else (if x137000 = 2 then (object_Check.j1 k x4 x137000 x137001 x137002 x137003 x137004 x137005 x137006 x137007 x137008 x137009 x137010 x137011 x138000 x138001 x138002 x138003 x138004 x138005 x138006 x138007 x138008 x138009 x138010 x138011) else (if x137000 = 3 then ((height_At.f k x137008 x137009 x137010 0 0).bind fun bt138 => (if x4 = true then (if bt138.2.2.2.2.2.2 = 0 then (if (!(x138000 == 0) || (!(x138001 == 0) || ((x138002 || (!(x138003 == 0) || (!(x138004 == 0) || (!(x138005 == 0) || (!(x138006 == 0) || (!(x138007 == 0))))))) || (!(x138011 == 0))))) = true then (some 1) else (some 0)) else (some 1)) else (some 1))) else (some 1))))
def object_Check.j1 : Nat → Bool → Int → Int → Bool → Int → Int → Int → Int → Int → Int → Int → Int → Int → Int → Int → Bool → Int → Int → Int → Int → Int → Int → Int → Int → Int → Option (Int)
 | 0, _, _, _, _, _, _, _, _, _, _, _, _, _, _, _, _, _, _, _, _, _, _, _, _, _ => none
 | k + 1, x4, x137000, x137001, x137002, x137003, x137004, x137005, x137006, x137007, x137008, x137009, x137010, x137011, x138000, x138001, x138002, x138003, x138004, x138005, x138006, x138007, x138008, x138009, x138010, x138011 => if x4 = true then ((height_Check.f k x137002 x137003 x137004 x137005 x137006 x137007).bind fun t146 => (if t146 = 0 then (if (!(x138000 == 0) || (!(x138001 == 0) || ((!(x138008 == 0) || (!(x138009 == 0) || (!(x138010 == 0)))) || (!(x138011 == 0))))) = true then (some 1) else (some 0)) else (some 1))) else (some 1)
end
def object_Check.f (k : Nat) (a0_0 : Int) (a0_1 : Int) (a0_2 : Bool) (a0_3 : Int) (a0_4 : Int) (a0_5 : Int) (a0_6 : Int) (a0_7 : Int) (a0_8 : Int) (a0_9 : Int) (a0_10 : Int) (a0_11 : Int) : Option (Int) := if a0_1 ≥ 0 then (object_Check.j0 k (decide (a0_1 < 64)) a0_0 a0_1 a0_2 a0_3 a0_4 a0_5 a0_6 a0_7 a0_8 a0_9 a0_10 a0_11 0 0 a0_2 a0_3 a0_4 a0_5 a0_6 a0_7 a0_8 a0_9 a0_10 a0_11) else (object_Check.j0 k false a0_0 a0_1 a0_2 a0_3 a0_4 a0_5 a0_6 a0_7 a0_8 a0_9 a0_10 a0_11 0 0 a0_2 a0_3 a0_4 a0_5 a0_6 a0_7 a0_8 a0_9 a0_10 a0_11)
theorem object_Check.calls (k : Nat) (a0_0 : Int) (a0_1 : Int) (a0_2 : Bool) (a0_3 : Int) (a0_4 : Int) (a0_5 : Int) (a0_6 : Int) (a0_7 : Int) (a0_8 : Int) (a0_9 : Int) (a0_10 : Int) (a0_11 : Int) (r : Int) (w : World) (h : object_Check.f k a0_0 a0_1 a0_2 a0_3 a0_4 a0_5 a0_6 a0_7 a0_8 a0_9 a0_10 a0_11 = some r) :
  Calls Try.prog 26 #[.agg #[.int .i64 a0_0, .int .i64 a0_1, .bool a0_2, .int .i64 a0_3, .int .i64 a0_4, .int .i64 a0_5, .int .i64 a0_6, .int .i64 a0_7, .int .i64 a0_8, .int .i64 a0_9, .int .i64 a0_10, .int .i64 a0_11]] w fun e w' => e = .returned (.int .i64 r) ∧ Below w.heap.size w w' := by
 have hu34 := Try.underlying34
 have hu30 := Try.underlying30
 have hu32 := Try.underlying32
 have HB := YL (Below.refl w.heap.size w)
 have H : (if a0_1 ≥ 0 then (object_Check.j0 k (decide (a0_1 < 64)) a0_0 a0_1 a0_2 a0_3 a0_4 a0_5 a0_6 a0_7 a0_8 a0_9 a0_10 a0_11 0 0 a0_2 a0_3 a0_4 a0_5 a0_6 a0_7 a0_8 a0_9 a0_10 a0_11) else (object_Check.j0 k false a0_0 a0_1 a0_2 a0_3 a0_4 a0_5 a0_6 a0_7 a0_8 a0_9 a0_10 a0_11 0 0 a0_2 a0_3 a0_4 a0_5 a0_6 a0_7 a0_8 a0_9 a0_10 a0_11)) = some r := h
 clear h; have HC2 := YL H; clear H
 go_enter Try.func26, Try.ntmps26
 go_upto_region 3 with (first | ((with_reducible refine gate_dst (N := 1) rfl ?_); refine box_event ?hg (N := 1) ?hd (cs := #[.int .i64 a0_0, .int .i64 a0_1, .bool a0_2, .int .i64 a0_3, .int .i64 a0_4, .int .i64 a0_5, .int .i64 a0_6, .int .i64 a0_7, .int .i64 a0_8, .int .i64 a0_9, .int .i64 a0_10, .int .i64 a0_11]) (t := 34) ?hr ?_; (case hd => rfl); (case hg => rfl); (case hr => first | (go_simp; done) | (go_simp; rfl)); intro gb136 hg w3 hbox hb; have n0_ := YL (YD (upB HB) hb); have n1_ := YL (hbox); have n2_ := YL ((by rw [hg]; exact (YE (upB HB)) : w.heap.size ≤ gb136)); have n3_ := YL ((by rw [hg]; exact (YE (upB HB)) : w.heap.size ≤ gb136)); clear HB; have HB := n0_; have BK136 := n1_; have GW136 := n2_; have GE136 := n3_; clear n0_ n1_ n2_ n3_; clear hb hbox hg; obtain ⟨q4_0, q4_1, q4_2, q4_3, q4_4, q4_5, q4_6, q4_7, q4_8, q4_9, q4_10, q4_11⟩ := cA12 BK136.out; obtain ⟨f4_0, f4_1, f4_2, f4_3, f4_4, f4_5, f4_6, f4_7, f4_8, f4_9, f4_10, f4_11⟩ := fA12 BK136.out) | ((with_reducible refine gate_dst (N := 3) rfl ?_); refine box_event ?hg (N := 3) ?hd (cs := #[.int .i64 0, .int .i64 0, .bool false, .int .i64 0, .int .i64 0, .int .i64 0, .int .i64 0, .int .i64 0, .int .i64 0, .int .i64 0, .int .i64 0, .int .i64 0]) (t := 34) ?hr ?_; (case hd => rfl); (case hg => rfl); (case hr => first | (go_simp; done) | (go_simp; rfl)); intro gb137 hg w5 hbox hb; have n0_ := YL (YK (g := gb136) (o := .cells #[.int .i64 a0_0, .int .i64 a0_1, .bool a0_2, .int .i64 a0_3, .int .i64 a0_4, .int .i64 a0_5, .int .i64 a0_6, .int .i64 a0_7, .int .i64 a0_8, .int .i64 a0_9, .int .i64 a0_10, .int .i64 a0_11] 34 (0, 0)) (upK BK136) hb); have n1_ := YL (YD (upB HB) hb); have n2_ := YL (hbox); have n3_ := YL ((by rw [hg]; exact (YE (upB HB)) : w.heap.size ≤ gb137)); have n4_ := YL ((by rw [hg]; exact (YE (upB HB)) : w.heap.size ≤ gb137)); have n5_ := YL ((by rw [hg]; exact Nat.ne_of_lt (blk_lt (g := gb136) (o := .cells #[.int .i64 a0_0, .int .i64 a0_1, .bool a0_2, .int .i64 a0_3, .int .i64 a0_4, .int .i64 a0_5, .int .i64 a0_6, .int .i64 a0_7, .int .i64 a0_8, .int .i64 a0_9, .int .i64 a0_10, .int .i64 a0_11] 34 (0, 0)) (upK BK136)) : gb136 ≠ gb137)); have n6_ := YL ((by rw [hg]; exact Nat.ne_of_gt (blk_lt (g := gb136) (o := .cells #[.int .i64 a0_0, .int .i64 a0_1, .bool a0_2, .int .i64 a0_3, .int .i64 a0_4, .int .i64 a0_5, .int .i64 a0_6, .int .i64 a0_7, .int .i64 a0_8, .int .i64 a0_9, .int .i64 a0_10, .int .i64 a0_11] 34 (0, 0)) (upK BK136)) : gb137 ≠ gb136)); clear BK136; clear HB; have BK136 := n0_; have HB := n1_; have BK137 := n2_; have GW137 := n3_; have GE137 := n4_; have NB136_137 := n5_; have NB137_136 := n6_; clear n0_ n1_ n2_ n3_ n4_ n5_ n6_; clear hb hbox hg; have hnb6 := NB137_136.out; have hnc6 := NB136_137.out; obtain ⟨q7_0, q7_1, q7_2, q7_3, q7_4, q7_5, q7_6, q7_7, q7_8, q7_9, q7_10, q7_11⟩ := cA12 BK137.out; obtain ⟨f7_0, f7_1, f7_2, f7_3, f7_4, f7_5, f7_6, f7_7, f7_8, f7_9, f7_10, f7_11⟩ := fA12 BK137.out))
 (try simp only [Act.put, List.setIfInBounds_toArray, List.set_cons_zero, List.set_cons_succ])
 go_cut [4] (fun v4 wc => ∃ (kq : Nat) (x4_1 : Bool), v4 = .bool x4_1 ∧ Aside0 (object_Check.j0 kq x4_1 a0_0 a0_1 a0_2 a0_3 a0_4 a0_5 a0_6 a0_7 a0_8 a0_9 a0_10 a0_11 0 0 a0_2 a0_3 a0_4 a0_5 a0_6 a0_7 a0_8 a0_9 a0_10 a0_11 = some r) ∧ Aside0 (kq ≤ k) ∧ Aside0 (wc.heap[gb136]? = some (.cells #[.int .i64 a0_0, .int .i64 a0_1, .bool a0_2, .int .i64 a0_3, .int .i64 a0_4, .int .i64 a0_5, .int .i64 a0_6, .int .i64 a0_7, .int .i64 a0_8, .int .i64 a0_9, .int .i64 a0_10, .int .i64 a0_11] 34 (0, 0))) ∧ Aside0 (wc.heap[gb137]? = some (.cells #[.int .i64 0, .int .i64 0, .bool a0_2, .int .i64 a0_3, .int .i64 a0_4, .int .i64 a0_5, .int .i64 a0_6, .int .i64 a0_7, .int .i64 a0_8, .int .i64 a0_9, .int .i64 a0_10, .int .i64 a0_11] 34 (0, 0))) ∧ Aside0 (Below w.heap.size w wc))
 case first =>
  have H := HC2.out
  clear HC2
  by_cases c8 : a0_1 ≥ 0
  ·rw [if_pos c8] at H
   have c8b0 : decide (0 ≤ a0_1) = true := decide_eq_true c8; clear c8
   (first | rw [c8b0] | (simp only [i64_w, i32_w]; rw [c8b0]) | rw [c8b1] | skip)
   have H' := YL H
   clear H
   have hnb9 := NB136_137.out
   have hnc9 := NB137_136.out
   obtain ⟨q10_0, q10_1, q10_2, q10_3, q10_4, q10_5, q10_6, q10_7, q10_8, q10_9, q10_10, q10_11⟩ := cA12 BK136.out
   obtain ⟨f10_0, f10_1, f10_2, f10_3, f10_4, f10_5, f10_6, f10_7, f10_8, f10_9, f10_10, f10_11⟩ := fA12 BK136.out
   go_wp2
   go_meet
   case rel => exact ⟨_, (decide (a0_1 < 64)), (by first | rfl | (simp; done) | (simp [*]; done)), H', ⟨by first | omega | exact Nat.le_refl _⟩, ⟨by (with_reducible repeat (first | refine YF ?_ _ | refine YG ?_ | refine YH ?_ _)); refine blk_far ?_ NB136_137.out _; (with_reducible repeat (first | refine YF ?_ _ | refine YG ?_ | refine YH ?_ _)); refine blk_far ?_ NB136_137.out _; (with_reducible repeat (first | refine YF ?_ _ | refine YG ?_ | refine YH ?_ _)); refine blk_far ?_ NB136_137.out _; (with_reducible repeat (first | refine YF ?_ _ | refine YG ?_ | refine YH ?_ _)); refine blk_far ?_ NB136_137.out _; (with_reducible repeat (first | refine YF ?_ _ | refine YG ?_ | refine YH ?_ _)); refine blk_far ?_ NB136_137.out _; (with_reducible repeat (first | refine YF ?_ _ | refine YG ?_ | refine YH ?_ _)); refine blk_far ?_ NB136_137.out _; (with_reducible repeat (first | refine YF ?_ _ | refine YG ?_ | refine YH ?_ _)); refine blk_far ?_ NB136_137.out _; (with_reducible repeat (first | refine YF ?_ _ | refine YG ?_ | refine YH ?_ _)); refine blk_far ?_ NB136_137.out _; (with_reducible repeat (first | refine YF ?_ _ | refine YG ?_ | refine YH ?_ _)); refine blk_far ?_ NB136_137.out _; (with_reducible repeat (first | refine YF ?_ _ | refine YG ?_ | refine YH ?_ _)); refine blk_far ?_ NB136_137.out _; (with_reducible repeat (first | refine YF ?_ _ | refine YG ?_ | refine YH ?_ _)); refine blk_far ?_ NB136_137.out _; (with_reducible repeat (first | refine YF ?_ _ | refine YG ?_ | refine YH ?_ _)); refine blk_far ?_ NB136_137.out _; (with_reducible repeat (first | refine YF ?_ _ | refine YG ?_ | refine YH ?_ _)); refine blk_far ?_ NB136_137.out _; (with_reducible repeat (first | refine YF ?_ _ | refine YG ?_ | refine YH ?_ _)); refine blk_far ?_ NB136_137.out _; (with_reducible repeat (first | refine YF ?_ _ | refine YG ?_ | refine YH ?_ _)); exact BK136.out⟩, ⟨by (with_reducible repeat (first | refine YF ?_ _ | refine YG ?_ | refine YH ?_ _)); refine blk_put (cs := #[.int .i64 0, .int .i64 a0_1, .bool a0_2, .int .i64 a0_3, .int .i64 a0_4, .int .i64 a0_5, .int .i64 a0_6, .int .i64 a0_7, .int .i64 a0_8, .int .i64 a0_9, .int .i64 a0_10, .int .i64 a0_11]) ?_ 1 _ rfl; (with_reducible repeat (first | refine YF ?_ _ | refine YG ?_ | refine YH ?_ _)); refine blk_put (cs := #[.int .i64 a0_0, .int .i64 a0_1, .bool a0_2, .int .i64 a0_3, .int .i64 a0_4, .int .i64 a0_5, .int .i64 a0_6, .int .i64 a0_7, .int .i64 a0_8, .int .i64 a0_9, .int .i64 a0_10, .int .i64 a0_11]) ?_ 0 _ rfl; (with_reducible repeat (first | refine YF ?_ _ | refine YG ?_ | refine YH ?_ _)); refine blk_put (cs := #[.int .i64 a0_0, .int .i64 a0_1, .bool a0_2, .int .i64 a0_3, .int .i64 a0_4, .int .i64 a0_5, .int .i64 a0_6, .int .i64 a0_7, .int .i64 a0_8, .int .i64 a0_9, .int .i64 a0_10, .int .i64 0]) ?_ 11 _ rfl; (with_reducible repeat (first | refine YF ?_ _ | refine YG ?_ | refine YH ?_ _)); refine blk_put (cs := #[.int .i64 a0_0, .int .i64 a0_1, .bool a0_2, .int .i64 a0_3, .int .i64 a0_4, .int .i64 a0_5, .int .i64 a0_6, .int .i64 a0_7, .int .i64 a0_8, .int .i64 a0_9, .int .i64 0, .int .i64 0]) ?_ 10 _ rfl; (with_reducible repeat (first | refine YF ?_ _ | refine YG ?_ | refine YH ?_ _)); refine blk_put (cs := #[.int .i64 a0_0, .int .i64 a0_1, .bool a0_2, .int .i64 a0_3, .int .i64 a0_4, .int .i64 a0_5, .int .i64 a0_6, .int .i64 a0_7, .int .i64 a0_8, .int .i64 0, .int .i64 0, .int .i64 0]) ?_ 9 _ rfl; (with_reducible repeat (first | refine YF ?_ _ | refine YG ?_ | refine YH ?_ _)); refine blk_put (cs := #[.int .i64 a0_0, .int .i64 a0_1, .bool a0_2, .int .i64 a0_3, .int .i64 a0_4, .int .i64 a0_5, .int .i64 a0_6, .int .i64 a0_7, .int .i64 0, .int .i64 0, .int .i64 0, .int .i64 0]) ?_ 8 _ rfl; (with_reducible repeat (first | refine YF ?_ _ | refine YG ?_ | refine YH ?_ _)); refine blk_put (cs := #[.int .i64 a0_0, .int .i64 a0_1, .bool a0_2, .int .i64 a0_3, .int .i64 a0_4, .int .i64 a0_5, .int .i64 a0_6, .int .i64 0, .int .i64 0, .int .i64 0, .int .i64 0, .int .i64 0]) ?_ 7 _ rfl; (with_reducible repeat (first | refine YF ?_ _ | refine YG ?_ | refine YH ?_ _)); refine blk_put (cs := #[.int .i64 a0_0, .int .i64 a0_1, .bool a0_2, .int .i64 a0_3, .int .i64 a0_4, .int .i64 a0_5, .int .i64 0, .int .i64 0, .int .i64 0, .int .i64 0, .int .i64 0, .int .i64 0]) ?_ 6 _ rfl; (with_reducible repeat (first | refine YF ?_ _ | refine YG ?_ | refine YH ?_ _)); refine blk_put (cs := #[.int .i64 a0_0, .int .i64 a0_1, .bool a0_2, .int .i64 a0_3, .int .i64 a0_4, .int .i64 0, .int .i64 0, .int .i64 0, .int .i64 0, .int .i64 0, .int .i64 0, .int .i64 0]) ?_ 5 _ rfl; (with_reducible repeat (first | refine YF ?_ _ | refine YG ?_ | refine YH ?_ _)); refine blk_put (cs := #[.int .i64 a0_0, .int .i64 a0_1, .bool a0_2, .int .i64 a0_3, .int .i64 0, .int .i64 0, .int .i64 0, .int .i64 0, .int .i64 0, .int .i64 0, .int .i64 0, .int .i64 0]) ?_ 4 _ rfl; (with_reducible repeat (first | refine YF ?_ _ | refine YG ?_ | refine YH ?_ _)); refine blk_put (cs := #[.int .i64 a0_0, .int .i64 a0_1, .bool a0_2, .int .i64 0, .int .i64 0, .int .i64 0, .int .i64 0, .int .i64 0, .int .i64 0, .int .i64 0, .int .i64 0, .int .i64 0]) ?_ 3 _ rfl; (with_reducible repeat (first | refine YF ?_ _ | refine YG ?_ | refine YH ?_ _)); refine blk_put (cs := #[.int .i64 a0_0, .int .i64 a0_1, .bool false, .int .i64 0, .int .i64 0, .int .i64 0, .int .i64 0, .int .i64 0, .int .i64 0, .int .i64 0, .int .i64 0, .int .i64 0]) ?_ 2 _ rfl; (with_reducible repeat (first | refine YF ?_ _ | refine YG ?_ | refine YH ?_ _)); refine blk_put (cs := #[.int .i64 a0_0, .int .i64 0, .bool false, .int .i64 0, .int .i64 0, .int .i64 0, .int .i64 0, .int .i64 0, .int .i64 0, .int .i64 0, .int .i64 0, .int .i64 0]) ?_ 1 _ rfl; (with_reducible repeat (first | refine YF ?_ _ | refine YG ?_ | refine YH ?_ _)); refine blk_put (cs := #[.int .i64 0, .int .i64 0, .bool false, .int .i64 0, .int .i64 0, .int .i64 0, .int .i64 0, .int .i64 0, .int .i64 0, .int .i64 0, .int .i64 0, .int .i64 0]) ?_ 0 _ rfl; (with_reducible repeat (first | refine YF ?_ _ | refine YG ?_ | refine YH ?_ _)); exact BK137.out⟩, ⟨by repeat (first | (with_reducible first | exact HB.out | apply YA | apply YB | apply YC | refine below_set ?_ GE136.out | refine below_set ?_ GE137.out) | exact HB.out)⟩⟩
  rw [if_neg c8] at H; have c8b0 : decide (0 ≤ a0_1) = false := decide_eq_false c8; clear c8
  (first | rw [c8b0] | (simp only [i64_w, i32_w]; rw [c8b0]) | rw [c8b1] | skip)
  have H' := YL H
  clear H
  have hnb11 := NB136_137.out
  have hnc11 := NB137_136.out
  obtain ⟨q12_0, q12_1, q12_2, q12_3, q12_4, q12_5, q12_6, q12_7, q12_8, q12_9, q12_10, q12_11⟩ := cA12 BK136.out
  obtain ⟨f12_0, f12_1, f12_2, f12_3, f12_4, f12_5, f12_6, f12_7, f12_8, f12_9, f12_10, f12_11⟩ := fA12 BK136.out
  go_wp2
  go_meet
  case rel => exact ⟨_, (false), (by first | rfl | (simp; done) | (simp [*]; done)), H', ⟨by first | omega | exact Nat.le_refl _⟩, ⟨by (with_reducible repeat (first | refine YF ?_ _ | refine YG ?_ | refine YH ?_ _)); refine blk_far ?_ NB136_137.out _; (with_reducible repeat (first | refine YF ?_ _ | refine YG ?_ | refine YH ?_ _)); refine blk_far ?_ NB136_137.out _; (with_reducible repeat (first | refine YF ?_ _ | refine YG ?_ | refine YH ?_ _)); refine blk_far ?_ NB136_137.out _; (with_reducible repeat (first | refine YF ?_ _ | refine YG ?_ | refine YH ?_ _)); refine blk_far ?_ NB136_137.out _; (with_reducible repeat (first | refine YF ?_ _ | refine YG ?_ | refine YH ?_ _)); refine blk_far ?_ NB136_137.out _; (with_reducible repeat (first | refine YF ?_ _ | refine YG ?_ | refine YH ?_ _)); refine blk_far ?_ NB136_137.out _; (with_reducible repeat (first | refine YF ?_ _ | refine YG ?_ | refine YH ?_ _)); refine blk_far ?_ NB136_137.out _; (with_reducible repeat (first | refine YF ?_ _ | refine YG ?_ | refine YH ?_ _)); refine blk_far ?_ NB136_137.out _; (with_reducible repeat (first | refine YF ?_ _ | refine YG ?_ | refine YH ?_ _)); refine blk_far ?_ NB136_137.out _; (with_reducible repeat (first | refine YF ?_ _ | refine YG ?_ | refine YH ?_ _)); refine blk_far ?_ NB136_137.out _; (with_reducible repeat (first | refine YF ?_ _ | refine YG ?_ | refine YH ?_ _)); refine blk_far ?_ NB136_137.out _; (with_reducible repeat (first | refine YF ?_ _ | refine YG ?_ | refine YH ?_ _)); refine blk_far ?_ NB136_137.out _; (with_reducible repeat (first | refine YF ?_ _ | refine YG ?_ | refine YH ?_ _)); refine blk_far ?_ NB136_137.out _; (with_reducible repeat (first | refine YF ?_ _ | refine YG ?_ | refine YH ?_ _)); refine blk_far ?_ NB136_137.out _; (with_reducible repeat (first | refine YF ?_ _ | refine YG ?_ | refine YH ?_ _)); exact BK136.out⟩, ⟨by (with_reducible repeat (first | refine YF ?_ _ | refine YG ?_ | refine YH ?_ _)); refine blk_put (cs := #[.int .i64 0, .int .i64 a0_1, .bool a0_2, .int .i64 a0_3, .int .i64 a0_4, .int .i64 a0_5, .int .i64 a0_6, .int .i64 a0_7, .int .i64 a0_8, .int .i64 a0_9, .int .i64 a0_10, .int .i64 a0_11]) ?_ 1 _ rfl; (with_reducible repeat (first | refine YF ?_ _ | refine YG ?_ | refine YH ?_ _)); refine blk_put (cs := #[.int .i64 a0_0, .int .i64 a0_1, .bool a0_2, .int .i64 a0_3, .int .i64 a0_4, .int .i64 a0_5, .int .i64 a0_6, .int .i64 a0_7, .int .i64 a0_8, .int .i64 a0_9, .int .i64 a0_10, .int .i64 a0_11]) ?_ 0 _ rfl; (with_reducible repeat (first | refine YF ?_ _ | refine YG ?_ | refine YH ?_ _)); refine blk_put (cs := #[.int .i64 a0_0, .int .i64 a0_1, .bool a0_2, .int .i64 a0_3, .int .i64 a0_4, .int .i64 a0_5, .int .i64 a0_6, .int .i64 a0_7, .int .i64 a0_8, .int .i64 a0_9, .int .i64 a0_10, .int .i64 0]) ?_ 11 _ rfl; (with_reducible repeat (first | refine YF ?_ _ | refine YG ?_ | refine YH ?_ _)); refine blk_put (cs := #[.int .i64 a0_0, .int .i64 a0_1, .bool a0_2, .int .i64 a0_3, .int .i64 a0_4, .int .i64 a0_5, .int .i64 a0_6, .int .i64 a0_7, .int .i64 a0_8, .int .i64 a0_9, .int .i64 0, .int .i64 0]) ?_ 10 _ rfl; (with_reducible repeat (first | refine YF ?_ _ | refine YG ?_ | refine YH ?_ _)); refine blk_put (cs := #[.int .i64 a0_0, .int .i64 a0_1, .bool a0_2, .int .i64 a0_3, .int .i64 a0_4, .int .i64 a0_5, .int .i64 a0_6, .int .i64 a0_7, .int .i64 a0_8, .int .i64 0, .int .i64 0, .int .i64 0]) ?_ 9 _ rfl; (with_reducible repeat (first | refine YF ?_ _ | refine YG ?_ | refine YH ?_ _)); refine blk_put (cs := #[.int .i64 a0_0, .int .i64 a0_1, .bool a0_2, .int .i64 a0_3, .int .i64 a0_4, .int .i64 a0_5, .int .i64 a0_6, .int .i64 a0_7, .int .i64 0, .int .i64 0, .int .i64 0, .int .i64 0]) ?_ 8 _ rfl; (with_reducible repeat (first | refine YF ?_ _ | refine YG ?_ | refine YH ?_ _)); refine blk_put (cs := #[.int .i64 a0_0, .int .i64 a0_1, .bool a0_2, .int .i64 a0_3, .int .i64 a0_4, .int .i64 a0_5, .int .i64 a0_6, .int .i64 0, .int .i64 0, .int .i64 0, .int .i64 0, .int .i64 0]) ?_ 7 _ rfl; (with_reducible repeat (first | refine YF ?_ _ | refine YG ?_ | refine YH ?_ _)); refine blk_put (cs := #[.int .i64 a0_0, .int .i64 a0_1, .bool a0_2, .int .i64 a0_3, .int .i64 a0_4, .int .i64 a0_5, .int .i64 0, .int .i64 0, .int .i64 0, .int .i64 0, .int .i64 0, .int .i64 0]) ?_ 6 _ rfl; (with_reducible repeat (first | refine YF ?_ _ | refine YG ?_ | refine YH ?_ _)); refine blk_put (cs := #[.int .i64 a0_0, .int .i64 a0_1, .bool a0_2, .int .i64 a0_3, .int .i64 a0_4, .int .i64 0, .int .i64 0, .int .i64 0, .int .i64 0, .int .i64 0, .int .i64 0, .int .i64 0]) ?_ 5 _ rfl; (with_reducible repeat (first | refine YF ?_ _ | refine YG ?_ | refine YH ?_ _)); refine blk_put (cs := #[.int .i64 a0_0, .int .i64 a0_1, .bool a0_2, .int .i64 a0_3, .int .i64 0, .int .i64 0, .int .i64 0, .int .i64 0, .int .i64 0, .int .i64 0, .int .i64 0, .int .i64 0]) ?_ 4 _ rfl; (with_reducible repeat (first | refine YF ?_ _ | refine YG ?_ | refine YH ?_ _)); refine blk_put (cs := #[.int .i64 a0_0, .int .i64 a0_1, .bool a0_2, .int .i64 0, .int .i64 0, .int .i64 0, .int .i64 0, .int .i64 0, .int .i64 0, .int .i64 0, .int .i64 0, .int .i64 0]) ?_ 3 _ rfl; (with_reducible repeat (first | refine YF ?_ _ | refine YG ?_ | refine YH ?_ _)); refine blk_put (cs := #[.int .i64 a0_0, .int .i64 a0_1, .bool false, .int .i64 0, .int .i64 0, .int .i64 0, .int .i64 0, .int .i64 0, .int .i64 0, .int .i64 0, .int .i64 0, .int .i64 0]) ?_ 2 _ rfl; (with_reducible repeat (first | refine YF ?_ _ | refine YG ?_ | refine YH ?_ _)); refine blk_put (cs := #[.int .i64 a0_0, .int .i64 0, .bool false, .int .i64 0, .int .i64 0, .int .i64 0, .int .i64 0, .int .i64 0, .int .i64 0, .int .i64 0, .int .i64 0, .int .i64 0]) ?_ 1 _ rfl; (with_reducible repeat (first | refine YF ?_ _ | refine YG ?_ | refine YH ?_ _)); refine blk_put (cs := #[.int .i64 0, .int .i64 0, .bool false, .int .i64 0, .int .i64 0, .int .i64 0, .int .i64 0, .int .i64 0, .int .i64 0, .int .i64 0, .int .i64 0, .int .i64 0]) ?_ 0 _ rfl; (with_reducible repeat (first | refine YF ?_ _ | refine YG ?_ | refine YH ?_ _)); exact BK137.out⟩, ⟨by repeat (first | (with_reducible first | exact HB.out | apply YA | apply YB | apply YC | refine below_set ?_ GE136.out | refine below_set ?_ GE137.out) | exact HB.out)⟩⟩
 case rest =>
  clear HC2
  try clear c1; try clear c2
  try clear p2; try clear c6
  try clear c8; try clear c8b0
  try clear c9; try clear c11
  try clear q10_0; try clear q10_1
  try clear q10_10; try clear q10_11
  try clear q10_2; try clear q10_3
  try clear q10_4; try clear q10_5
  try clear q10_6; try clear q10_7
  try clear q10_8; try clear q10_9
  try clear q12_0; try clear q12_1
  try clear q12_10; try clear q12_11
  try clear q12_2; try clear q12_3
  try clear q12_4; try clear q12_5
  try clear q12_6; try clear q12_7
  try clear q12_8; try clear q12_9
  try clear q4_0; try clear q4_1
  try clear q4_10; try clear q4_11
  try clear q4_2; try clear q4_3
  try clear q4_4; try clear q4_5
  try clear q4_6; try clear q4_7
  try clear q4_8; try clear q4_9
  try clear q7_0; try clear q7_1
  try clear q7_10; try clear q7_11
  try clear q7_2; try clear q7_3
  try clear q7_4; try clear q7_5
  try clear q7_6; try clear q7_7
  try clear q7_8; try clear q7_9
  try clear f10_0; try clear f10_1
  try clear f10_10; try clear f10_11
  try clear f10_2; try clear f10_3
  try clear f10_4; try clear f10_5
  try clear f10_6; try clear f10_7
  try clear f10_8; try clear f10_9
  try clear f12_0; try clear f12_1
  try clear f12_10; try clear f12_11
  try clear f12_2; try clear f12_3
  try clear f12_4; try clear f12_5
  try clear f12_6; try clear f12_7
  try clear f12_8; try clear f12_9
  try clear f4_0; try clear f4_1
  try clear f4_10; try clear f4_11
  try clear f4_2; try clear f4_3
  try clear f4_4; try clear f4_5
  try clear f4_6; try clear f4_7
  try clear f4_8; try clear f4_9
  try clear f7_0; try clear f7_1
  try clear f7_10; try clear f7_11
  try clear f7_2; try clear f7_3
  try clear f7_4; try clear f7_5
  try clear f7_6; try clear f7_7
  try clear f7_8; try clear f7_9
  obtain ⟨kq, x4_1, rfl, HA, HJ1, BK136, BK137, HB⟩ := hcut
  cases kq with
  | zero => exact absurd HA.out (by simp [object_Check.j0])
  | succ kj1 =>
   have H := HA.out
   clear HA
   simp only [object_Check.j0] at H
   have HC13 := YL H; clear H
   have hnb14 := NB136_137.out
   have hnc14 := NB137_136.out
   obtain ⟨q15_0, q15_1, q15_2, q15_3, q15_4, q15_5, q15_6, q15_7, q15_8, q15_9, q15_10, q15_11⟩ := cA12 BK136.out
   obtain ⟨f15_0, f15_1, f15_2, f15_3, f15_4, f15_5, f15_6, f15_7, f15_8, f15_9, f15_10, f15_11⟩ := fA12 BK136.out
   go_upto_block 3 with (fail)
   go_cut [4] (fun v4 wc => ∃ (kq : Nat) (x4_12 : Bool) (x138011_12 : Int), v4 = .bool x4_12 ∧ Aside0 (object_Check.j1 kq x4_12 a0_0 a0_1 a0_2 a0_3 a0_4 a0_5 a0_6 a0_7 a0_8 a0_9 a0_10 a0_11 0 0 a0_2 a0_3 a0_4 a0_5 a0_6 a0_7 a0_8 a0_9 a0_10 x138011_12 = some r) ∧ Aside0 (kq ≤ kj1) ∧ Aside0 (wc.heap[gb136]? = some (.cells #[.int .i64 a0_0, .int .i64 a0_1, .bool a0_2, .int .i64 a0_3, .int .i64 a0_4, .int .i64 a0_5, .int .i64 a0_6, .int .i64 a0_7, .int .i64 a0_8, .int .i64 a0_9, .int .i64 a0_10, .int .i64 a0_11] 34 (0, 0))) ∧ Aside0 (wc.heap[gb137]? = some (.cells #[.int .i64 0, .int .i64 0, .bool a0_2, .int .i64 a0_3, .int .i64 a0_4, .int .i64 a0_5, .int .i64 a0_6, .int .i64 a0_7, .int .i64 a0_8, .int .i64 a0_9, .int .i64 a0_10, .int .i64 x138011_12] 34 (0, 0))) ∧ Aside0 (Below w.heap.size w wc))
   case first =>
    have H := HC13.out
    clear HC13
    by_cases c16 : a0_0 = 1
    ·rw [if_pos c16] at H
     have c16b0 : (a0_0 == 1) = true := beq_iff_eq.mpr c16
     have c16b1 : (a0_0 != 1) = false := bne_eq_false_iff_eq.mpr c16
     clear c16
     (first | rw [c16b0] | (simp only [i64_w, i32_w]; rw [c16b0]) | rw [c16b1] | skip)
     by_cases c17 : x4_1 = true
     ·subst c17
      have H1 : (if (!(0 == 0) || (!(0 == 0) || ((a0_2 || (!(a0_3 == 0) || (!(a0_4 == 0) || (!(a0_5 == 0) || (!(a0_6 == 0) || (!(a0_7 == 0))))))) || ((!(a0_8 == 0) || (!(a0_9 == 0) || (!(a0_10 == 0)))) || (!(a0_11 == 0)))))) = true then (some 1) else (some 0)) = some r := by rw [if_pos rfl] at H; exact H
      clear H
      have H := H1
      clear H1
      by_cases c18 : (!(0 == 0) || (!(0 == 0) || ((a0_2 || (!(a0_3 == 0) || (!(a0_4 == 0) || (!(a0_5 == 0) || (!(a0_6 == 0) || (!(a0_7 == 0))))))) || ((!(a0_8 == 0) || (!(a0_9 == 0) || (!(a0_10 == 0)))) || (!(a0_11 == 0)))))) = true
      ·rw [if_pos c18] at H
       have c18b0 : (!(0 == 0) || (!(0 == 0) || ((a0_2 || (!(a0_3 == 0) || (!(a0_4 == 0) || (!(a0_5 == 0) || (!(a0_6 == 0) || (!(a0_7 == 0))))))) || ((!(a0_8 == 0) || (!(a0_9 == 0) || (!(a0_10 == 0)))) || (!(a0_11 == 0)))))) = true := c18
       have c18b9 := c18b0
       (try simp only [beq_self_eq_true, Bool.not_true, Bool.not_false, Bool.false_or, Bool.true_and, Bool.or_false, Bool.and_true] at c18b9)
       clear c18
       obtain rfl := Option.some.inj H
       have hnb19 := NB137_136.out
       have hnc19 := NB136_137.out
       obtain ⟨q20_0, q20_1, q20_2, q20_3, q20_4, q20_5, q20_6, q20_7, q20_8, q20_9, q20_10, q20_11⟩ := cA12 BK137.out
       obtain ⟨f20_0, f20_1, f20_2, f20_3, f20_4, f20_5, f20_6, f20_7, f20_8, f20_9, f20_10, f20_11⟩ := fA12 BK137.out
       go_wp2
       go_ret
       exact ⟨by first | rfl | (simp [errW_none, errW_some] <;> rfl) | (simp [*, errW_none, errW_some] <;> rfl), by repeat (first | (with_reducible first | exact HB.out | apply YA | apply YB | apply YC | refine below_set ?_ GE136.out | refine below_set ?_ GE137.out) | exact HB.out)⟩
      rw [if_neg c18] at H
      have c18b0 : (!(0 == 0) || (!(0 == 0) || ((a0_2 || (!(a0_3 == 0) || (!(a0_4 == 0) || (!(a0_5 == 0) || (!(a0_6 == 0) || (!(a0_7 == 0))))))) || ((!(a0_8 == 0) || (!(a0_9 == 0) || (!(a0_10 == 0)))) || (!(a0_11 == 0)))))) = false := by simpa using c18
      have c18b9 := c18b0
      (try simp only [beq_self_eq_true, Bool.not_true, Bool.not_false, Bool.false_or, Bool.true_and, Bool.or_false, Bool.and_true] at c18b9)
      clear c18
      obtain rfl := Option.some.inj H
      have hnb21 := NB137_136.out
      have hnc21 := NB136_137.out
      obtain ⟨q22_0, q22_1, q22_2, q22_3, q22_4, q22_5, q22_6, q22_7, q22_8, q22_9, q22_10, q22_11⟩ := cA12 BK137.out
      obtain ⟨f22_0, f22_1, f22_2, f22_3, f22_4, f22_5, f22_6, f22_7, f22_8, f22_9, f22_10, f22_11⟩ := fA12 BK137.out
      go_wp2
      go_ret
      exact ⟨by first | rfl | (simp [errW_none, errW_some] <;> rfl) | (simp [*, errW_none, errW_some] <;> rfl), by repeat (first | (with_reducible first | exact HB.out | apply YA | apply YB | apply YC | refine below_set ?_ GE136.out | refine below_set ?_ GE137.out) | exact HB.out)⟩
     replace c17 := Bool.eq_false_iff.mpr c17
     subst c17
     have H1 : (some 1) = some r := by rw [if_neg (show ¬ (false = true) by decide)] at H; exact H
     clear H
     have H := H1
     clear H1
     obtain rfl := Option.some.inj H
     go_wp2
     go_ret
     exact ⟨by first | rfl | (simp [errW_none, errW_some] <;> rfl) | (simp [*, errW_none, errW_some] <;> rfl), by repeat (first | (with_reducible first | exact HB.out | apply YA | apply YB | apply YC | refine below_set ?_ GE136.out | refine below_set ?_ GE137.out) | exact HB.out)⟩
    rw [if_neg c16] at H
    have c16b0 : (a0_0 == 1) = false := beq_eq_false_iff_ne.mpr c16
    have c16b1 : (a0_0 != 1) = true := bne_iff_ne.mpr c16
    (first | rw [c16b0] | (simp only [i64_w, i32_w]; rw [c16b0]) | rw [c16b1] | skip)
    by_cases c23 : a0_0 = 4
    ·rw [if_pos c23] at H
     have c23b0 : (a0_0 == 4) = true := beq_iff_eq.mpr c23
     have c23b1 : (a0_0 != 4) = false := bne_eq_false_iff_eq.mpr c23
     clear c23
     by_cases c24 : x4_1 = true
     ·subst c24
      have H1 : (if a0_2 = true then (object_Check.j1 kj1 false a0_0 a0_1 true a0_3 a0_4 a0_5 a0_6 a0_7 a0_8 a0_9 a0_10 a0_11 0 0 a0_2 a0_3 a0_4 a0_5 a0_6 a0_7 a0_8 a0_9 a0_10 0) else (if a0_11 ≥ 0 then (object_Check.j1 kj1 (decide (a0_11 ≤ 65535)) a0_0 a0_1 false a0_3 a0_4 a0_5 a0_6 a0_7 a0_8 a0_9 a0_10 a0_11 0 0 a0_2 a0_3 a0_4 a0_5 a0_6 a0_7 a0_8 a0_9 a0_10 0) else (object_Check.j1 kj1 false a0_0 a0_1 false a0_3 a0_4 a0_5 a0_6 a0_7 a0_8 a0_9 a0_10 a0_11 0 0 a0_2 a0_3 a0_4 a0_5 a0_6 a0_7 a0_8 a0_9 a0_10 0))) = some r := by rw [if_pos rfl] at H; exact H
      clear H
      have H := H1
      clear H1
      by_cases c25 : a0_2 = true
      ·subst c25
       have H1 : (object_Check.j1 kj1 false a0_0 a0_1 true a0_3 a0_4 a0_5 a0_6 a0_7 a0_8 a0_9 a0_10 a0_11 0 0 true a0_3 a0_4 a0_5 a0_6 a0_7 a0_8 a0_9 a0_10 0) = some r := by rw [if_pos rfl] at H; exact H
       clear H
       have H := H1
       clear H1
       have H' := YL H
       clear H
       have hnb26 := NB136_137.out
       have hnc26 := NB137_136.out
       obtain ⟨q27_0, q27_1, q27_2, q27_3, q27_4, q27_5, q27_6, q27_7, q27_8, q27_9, q27_10, q27_11⟩ := cA12 BK136.out
       obtain ⟨f27_0, f27_1, f27_2, f27_3, f27_4, f27_5, f27_6, f27_7, f27_8, f27_9, f27_10, f27_11⟩ := fA12 BK136.out
       obtain ⟨q28_0, q28_1, q28_2, q28_3, q28_4, q28_5, q28_6, q28_7, q28_8, q28_9, q28_10, q28_11⟩ := cA12 BK137.out
       obtain ⟨f28_0, f28_1, f28_2, f28_3, f28_4, f28_5, f28_6, f28_7, f28_8, f28_9, f28_10, f28_11⟩ := fA12 BK137.out
       go_wp2
       go_meet
       case rel => exact ⟨_, (false), (0), (by first | rfl | (simp; done) | (simp [*]; done)), H', ⟨by have := HJ1.out; first | omega | exact Nat.le_refl _⟩, ⟨by (with_reducible repeat (first | refine YF ?_ _ | refine YG ?_ | refine YH ?_ _)); refine blk_far ?_ NB136_137.out _; (with_reducible repeat (first | refine YF ?_ _ | refine YG ?_ | refine YH ?_ _)); exact BK136.out⟩, ⟨by (with_reducible repeat (first | refine YF ?_ _ | refine YG ?_ | refine YH ?_ _)); refine blk_put (cs := #[.int .i64 0, .int .i64 0, .bool true, .int .i64 a0_3, .int .i64 a0_4, .int .i64 a0_5, .int .i64 a0_6, .int .i64 a0_7, .int .i64 a0_8, .int .i64 a0_9, .int .i64 a0_10, .int .i64 a0_11]) ?_ 11 _ rfl; (with_reducible repeat (first | refine YF ?_ _ | refine YG ?_ | refine YH ?_ _)); exact BK137.out⟩, ⟨by repeat (first | (with_reducible first | exact HB.out | apply YA | apply YB | apply YC | refine below_set ?_ GE136.out | refine below_set ?_ GE137.out) | exact HB.out)⟩⟩
      replace c25 := Bool.eq_false_iff.mpr c25
      subst c25
      have H1 : (if a0_11 ≥ 0 then (object_Check.j1 kj1 (decide (a0_11 ≤ 65535)) a0_0 a0_1 false a0_3 a0_4 a0_5 a0_6 a0_7 a0_8 a0_9 a0_10 a0_11 0 0 false a0_3 a0_4 a0_5 a0_6 a0_7 a0_8 a0_9 a0_10 0) else (object_Check.j1 kj1 false a0_0 a0_1 false a0_3 a0_4 a0_5 a0_6 a0_7 a0_8 a0_9 a0_10 a0_11 0 0 false a0_3 a0_4 a0_5 a0_6 a0_7 a0_8 a0_9 a0_10 0)) = some r := by rw [if_neg (show ¬ (false = true) by decide)] at H; exact H
      clear H
      have H := H1
      clear H1
      by_cases c29 : a0_11 ≥ 0
      ·rw [if_pos c29] at H
       have c29b0 : decide (0 ≤ a0_11) = true := decide_eq_true c29; clear c29
       have H' := YL H
       clear H
       have hnb30 := NB136_137.out
       have hnc30 := NB137_136.out
       obtain ⟨q31_0, q31_1, q31_2, q31_3, q31_4, q31_5, q31_6, q31_7, q31_8, q31_9, q31_10, q31_11⟩ := cA12 BK136.out
       obtain ⟨f31_0, f31_1, f31_2, f31_3, f31_4, f31_5, f31_6, f31_7, f31_8, f31_9, f31_10, f31_11⟩ := fA12 BK136.out
       obtain ⟨q32_0, q32_1, q32_2, q32_3, q32_4, q32_5, q32_6, q32_7, q32_8, q32_9, q32_10, q32_11⟩ := cA12 BK137.out
       obtain ⟨f32_0, f32_1, f32_2, f32_3, f32_4, f32_5, f32_6, f32_7, f32_8, f32_9, f32_10, f32_11⟩ := fA12 BK137.out
       go_wp2
       go_meet
       case rel => exact ⟨_, (decide (a0_11 ≤ 65535)), (0), (by first | rfl | (simp; done) | (simp [*]; done)), H', ⟨by have := HJ1.out; first | omega | exact Nat.le_refl _⟩, ⟨by (with_reducible repeat (first | refine YF ?_ _ | refine YG ?_ | refine YH ?_ _)); refine blk_far ?_ NB136_137.out _; (with_reducible repeat (first | refine YF ?_ _ | refine YG ?_ | refine YH ?_ _)); exact BK136.out⟩, ⟨by (with_reducible repeat (first | refine YF ?_ _ | refine YG ?_ | refine YH ?_ _)); refine blk_put (cs := #[.int .i64 0, .int .i64 0, .bool false, .int .i64 a0_3, .int .i64 a0_4, .int .i64 a0_5, .int .i64 a0_6, .int .i64 a0_7, .int .i64 a0_8, .int .i64 a0_9, .int .i64 a0_10, .int .i64 a0_11]) ?_ 11 _ rfl; (with_reducible repeat (first | refine YF ?_ _ | refine YG ?_ | refine YH ?_ _)); exact BK137.out⟩, ⟨by repeat (first | (with_reducible first | exact HB.out | apply YA | apply YB | apply YC | refine below_set ?_ GE136.out | refine below_set ?_ GE137.out) | exact HB.out)⟩⟩
      rw [if_neg c29] at H; have c29b0 : decide (0 ≤ a0_11) = false := decide_eq_false c29; clear c29
      have H' := YL H
      clear H
      have hnb33 := NB136_137.out
      have hnc33 := NB137_136.out
      obtain ⟨q34_0, q34_1, q34_2, q34_3, q34_4, q34_5, q34_6, q34_7, q34_8, q34_9, q34_10, q34_11⟩ := cA12 BK136.out
      obtain ⟨f34_0, f34_1, f34_2, f34_3, f34_4, f34_5, f34_6, f34_7, f34_8, f34_9, f34_10, f34_11⟩ := fA12 BK136.out
      obtain ⟨q35_0, q35_1, q35_2, q35_3, q35_4, q35_5, q35_6, q35_7, q35_8, q35_9, q35_10, q35_11⟩ := cA12 BK137.out
      obtain ⟨f35_0, f35_1, f35_2, f35_3, f35_4, f35_5, f35_6, f35_7, f35_8, f35_9, f35_10, f35_11⟩ := fA12 BK137.out
      go_wp2
      go_meet
      case rel => exact ⟨_, (false), (0), (by first | rfl | (simp; done) | (simp [*]; done)), H', ⟨by have := HJ1.out; first | omega | exact Nat.le_refl _⟩, ⟨by (with_reducible repeat (first | refine YF ?_ _ | refine YG ?_ | refine YH ?_ _)); refine blk_far ?_ NB136_137.out _; (with_reducible repeat (first | refine YF ?_ _ | refine YG ?_ | refine YH ?_ _)); exact BK136.out⟩, ⟨by (with_reducible repeat (first | refine YF ?_ _ | refine YG ?_ | refine YH ?_ _)); refine blk_put (cs := #[.int .i64 0, .int .i64 0, .bool false, .int .i64 a0_3, .int .i64 a0_4, .int .i64 a0_5, .int .i64 a0_6, .int .i64 a0_7, .int .i64 a0_8, .int .i64 a0_9, .int .i64 a0_10, .int .i64 a0_11]) ?_ 11 _ rfl; (with_reducible repeat (first | refine YF ?_ _ | refine YG ?_ | refine YH ?_ _)); exact BK137.out⟩, ⟨by repeat (first | (with_reducible first | exact HB.out | apply YA | apply YB | apply YC | refine below_set ?_ GE136.out | refine below_set ?_ GE137.out) | exact HB.out)⟩⟩
     replace c24 := Bool.eq_false_iff.mpr c24
     subst c24
     have H1 : (object_Check.j1 kj1 false a0_0 a0_1 a0_2 a0_3 a0_4 a0_5 a0_6 a0_7 a0_8 a0_9 a0_10 a0_11 0 0 a0_2 a0_3 a0_4 a0_5 a0_6 a0_7 a0_8 a0_9 a0_10 0) = some r := by rw [if_neg (show ¬ (false = true) by decide)] at H; exact H
     clear H
     have H := H1
     clear H1
     have H' := YL H
     clear H
     have hnb36 := NB137_136.out
     have hnc36 := NB136_137.out
     obtain ⟨q37_0, q37_1, q37_2, q37_3, q37_4, q37_5, q37_6, q37_7, q37_8, q37_9, q37_10, q37_11⟩ := cA12 BK137.out
     obtain ⟨f37_0, f37_1, f37_2, f37_3, f37_4, f37_5, f37_6, f37_7, f37_8, f37_9, f37_10, f37_11⟩ := fA12 BK137.out
     go_wp2
     go_meet
     case rel => exact ⟨_, (false), (0), (by first | rfl | (simp; done) | (simp [*]; done)), H', ⟨by have := HJ1.out; first | omega | exact Nat.le_refl _⟩, ⟨by (with_reducible repeat (first | refine YF ?_ _ | refine YG ?_ | refine YH ?_ _)); refine blk_far ?_ NB136_137.out _; (with_reducible repeat (first | refine YF ?_ _ | refine YG ?_ | refine YH ?_ _)); exact BK136.out⟩, ⟨by (with_reducible repeat (first | refine YF ?_ _ | refine YG ?_ | refine YH ?_ _)); refine blk_put (cs := #[.int .i64 0, .int .i64 0, .bool a0_2, .int .i64 a0_3, .int .i64 a0_4, .int .i64 a0_5, .int .i64 a0_6, .int .i64 a0_7, .int .i64 a0_8, .int .i64 a0_9, .int .i64 a0_10, .int .i64 a0_11]) ?_ 11 _ rfl; (with_reducible repeat (first | refine YF ?_ _ | refine YG ?_ | refine YH ?_ _)); exact BK137.out⟩, ⟨by repeat (first | (with_reducible first | exact HB.out | apply YA | apply YB | apply YC | refine below_set ?_ GE136.out | refine below_set ?_ GE137.out) | exact HB.out)⟩⟩
    rw [if_neg c23] at H
    have c23b0 : (a0_0 == 4) = false := beq_eq_false_iff_ne.mpr c23
    have c23b1 : (a0_0 != 4) = true := bne_iff_ne.mpr c23
    by_cases c38 : a0_0 = 2
    ·rw [if_pos c38] at H
     have c38b0 : (a0_0 == 2) = true := beq_iff_eq.mpr c38
     have c38b1 : (a0_0 != 2) = false := bne_eq_false_iff_eq.mpr c38
     clear c38
     have H' := YL H
     clear H
     go_wp2
     go_meet
     case rel => exact ⟨_, (x4_1), (a0_11), (by first | rfl | (simp; done) | (simp [*]; done)), H', ⟨by have := HJ1.out; first | omega | exact Nat.le_refl _⟩, ⟨by (with_reducible repeat (first | refine YF ?_ _ | refine YG ?_ | refine YH ?_ _)); exact BK136.out⟩, ⟨by (with_reducible repeat (first | refine YF ?_ _ | refine YG ?_ | refine YH ?_ _)); exact BK137.out⟩, ⟨by repeat (first | (with_reducible first | exact HB.out | apply YA | apply YB | apply YC | refine below_set ?_ GE136.out | refine below_set ?_ GE137.out) | exact HB.out)⟩⟩
    rw [if_neg c38] at H
    have c38b0 : (a0_0 == 2) = false := beq_eq_false_iff_ne.mpr c38
    have c38b1 : (a0_0 != 2) = true := bne_iff_ne.mpr c38
    by_cases c39 : a0_0 = 3
    ·rw [if_pos c39] at H
     have c39b0 : (a0_0 == 3) = true := beq_iff_eq.mpr c39
     have c39b1 : (a0_0 != 3) = false := bne_eq_false_iff_eq.mpr c39
     clear c39; replace H := Option.bind_eq_some_iff.mp H
     obtain ⟨⟨t138, t139, t140, t141, t142, t143, t144⟩, A400, H⟩ := H
     replace H : (if x4_1 = true then (if t144 = 0 then (if (!(0 == 0) || (!(0 == 0) || ((a0_2 || (!(a0_3 == 0) || (!(a0_4 == 0) || (!(a0_5 == 0) || (!(a0_6 == 0) || (!(a0_7 == 0))))))) || (!(a0_11 == 0))))) = true then (some 1) else (some 0)) else (some 1)) else (some 1)) = some r := H
     have A40 := YL A400; clear A400
     by_cases c41 : x4_1 = true
     ·subst c41
      have H1 : (if t144 = 0 then (if (!(0 == 0) || (!(0 == 0) || ((a0_2 || (!(a0_3 == 0) || (!(a0_4 == 0) || (!(a0_5 == 0) || (!(a0_6 == 0) || (!(a0_7 == 0))))))) || (!(a0_11 == 0))))) = true then (some 1) else (some 0)) else (some 1)) = some r := by rw [if_pos rfl] at H; exact H
      clear H
      have H := H1
      clear H1
      by_cases c42 : t144 = 0
      ·rw [if_pos c42] at H
       have c42b0 : (t144 == 0) = true := beq_iff_eq.mpr c42
       have c42b1 : (t144 != 0) = false := bne_eq_false_iff_eq.mpr c42
       clear c42
       by_cases c43 : (!(0 == 0) || (!(0 == 0) || ((a0_2 || (!(a0_3 == 0) || (!(a0_4 == 0) || (!(a0_5 == 0) || (!(a0_6 == 0) || (!(a0_7 == 0))))))) || (!(a0_11 == 0))))) = true
       ·rw [if_pos c43] at H
        have c43b0 : (!(0 == 0) || (!(0 == 0) || ((a0_2 || (!(a0_3 == 0) || (!(a0_4 == 0) || (!(a0_5 == 0) || (!(a0_6 == 0) || (!(a0_7 == 0))))))) || (!(a0_11 == 0))))) = true := c43
        have c43b9 := c43b0
        (try simp only [beq_self_eq_true, Bool.not_true, Bool.not_false, Bool.false_or, Bool.true_and, Bool.or_false, Bool.and_true] at c43b9)
        clear c43
        obtain rfl := Option.some.inj H
        have hnb44 := NB136_137.out
        have hnc44 := NB137_136.out
        obtain ⟨q45_0, q45_1, q45_2, q45_3, q45_4, q45_5, q45_6, q45_7, q45_8, q45_9, q45_10, q45_11⟩ := cA12 BK136.out
        obtain ⟨f45_0, f45_1, f45_2, f45_3, f45_4, f45_5, f45_6, f45_7, f45_8, f45_9, f45_10, f45_11⟩ := fA12 BK136.out
        go_wp2_with (first | ((with_reducible refine gate_callee (f := 49) rfl ?_); refine goesA (some 58) Try.func49 #[.agg #[.int .i64 a0_8, .int .i64 a0_9, .int .i64 a0_10], .int .i64 0, .int .i64 0] ?_; (with_reducible refine (height_At.calls kj1 a0_8 a0_9 a0_10 0 0 t138 t139 t140 t141 t142 t143 t144 _ A40.out).mono ?_); rintro e w46 ⟨rfl, hb⟩; refine ⟨_, rfl, ?_⟩; have n0_ := YL (YK (g := gb136) (o := .cells #[.int .i64 a0_0, .int .i64 a0_1, .bool a0_2, .int .i64 a0_3, .int .i64 a0_4, .int .i64 a0_5, .int .i64 a0_6, .int .i64 a0_7, .int .i64 a0_8, .int .i64 a0_9, .int .i64 a0_10, .int .i64 a0_11] 34 (0, 0)) (upK BK136) hb); have n1_ := YL (YK (g := gb137) (o := .cells #[.int .i64 0, .int .i64 0, .bool a0_2, .int .i64 a0_3, .int .i64 a0_4, .int .i64 a0_5, .int .i64 a0_6, .int .i64 a0_7, .int .i64 a0_8, .int .i64 a0_9, .int .i64 a0_10, .int .i64 a0_11] 34 (0, 0)) (upK BK137) hb); have n2_ := YL (YD (upB HB) hb); clear BK136; clear BK137; clear HB; have BK136 := n0_; have BK137 := n1_; have HB := n2_; clear n0_ n1_ n2_; (try clear hb); (try clear hb2); (try clear hk); (try clear hi)) | ((with_reducible refine gate_dst (N := 5) rfl ?_); refine box_event ?hg (N := 5) ?hd (cs := #[.bool false, .int .i64 0, .int .i64 0, .int .i64 0, .int .i64 0, .int .i64 0]) (t := 30) ?hr ?_; (case hd => rfl); (case hg => rfl); (case hr => first | (go_simp; done) | (go_simp; rfl)); intro gb145 hg w47 hbox hb; have n0_ := YL (YK (g := gb136) (o := .cells #[.int .i64 a0_0, .int .i64 a0_1, .bool a0_2, .int .i64 a0_3, .int .i64 a0_4, .int .i64 a0_5, .int .i64 a0_6, .int .i64 a0_7, .int .i64 a0_8, .int .i64 a0_9, .int .i64 a0_10, .int .i64 a0_11] 34 (0, 0)) (upK BK136) hb); have n1_ := YL (YK (g := gb137) (o := .cells #[.int .i64 0, .int .i64 0, .bool a0_2, .int .i64 a0_3, .int .i64 a0_4, .int .i64 a0_5, .int .i64 a0_6, .int .i64 a0_7, .int .i64 a0_8, .int .i64 a0_9, .int .i64 a0_10, .int .i64 a0_11] 34 (0, 0)) (upK BK137) hb); have n2_ := YL (YD (upB HB) hb); have n3_ := YL (hbox); have n4_ := YL ((by rw [hg]; exact (YE (upB HB)) : w.heap.size ≤ gb145)); have n5_ := YL ((by rw [hg]; exact (YE (upB HB)) : w.heap.size ≤ gb145)); have n6_ := YL ((by rw [hg]; exact Nat.ne_of_lt (blk_lt (g := gb136) (o := .cells #[.int .i64 a0_0, .int .i64 a0_1, .bool a0_2, .int .i64 a0_3, .int .i64 a0_4, .int .i64 a0_5, .int .i64 a0_6, .int .i64 a0_7, .int .i64 a0_8, .int .i64 a0_9, .int .i64 a0_10, .int .i64 a0_11] 34 (0, 0)) (upK BK136)) : gb136 ≠ gb145)); have n7_ := YL ((by rw [hg]; exact Nat.ne_of_gt (blk_lt (g := gb136) (o := .cells #[.int .i64 a0_0, .int .i64 a0_1, .bool a0_2, .int .i64 a0_3, .int .i64 a0_4, .int .i64 a0_5, .int .i64 a0_6, .int .i64 a0_7, .int .i64 a0_8, .int .i64 a0_9, .int .i64 a0_10, .int .i64 a0_11] 34 (0, 0)) (upK BK136)) : gb145 ≠ gb136)); have n8_ := YL ((by rw [hg]; exact Nat.ne_of_lt (blk_lt (g := gb137) (o := .cells #[.int .i64 0, .int .i64 0, .bool a0_2, .int .i64 a0_3, .int .i64 a0_4, .int .i64 a0_5, .int .i64 a0_6, .int .i64 a0_7, .int .i64 a0_8, .int .i64 a0_9, .int .i64 a0_10, .int .i64 a0_11] 34 (0, 0)) (upK BK137)) : gb137 ≠ gb145)); have n9_ := YL ((by rw [hg]; exact Nat.ne_of_gt (blk_lt (g := gb137) (o := .cells #[.int .i64 0, .int .i64 0, .bool a0_2, .int .i64 a0_3, .int .i64 a0_4, .int .i64 a0_5, .int .i64 a0_6, .int .i64 a0_7, .int .i64 a0_8, .int .i64 a0_9, .int .i64 a0_10, .int .i64 a0_11] 34 (0, 0)) (upK BK137)) : gb145 ≠ gb137)); clear BK136; clear BK137; clear HB; have BK136 := n0_; have BK137 := n1_; have HB := n2_; have BK145 := n3_; have GW145 := n4_; have GE145 := n5_; have NB136_145 := n6_; have NB145_136 := n7_; have NB137_145 := n8_; have NB145_137 := n9_; clear n0_ n1_ n2_ n3_ n4_ n5_ n6_ n7_ n8_ n9_; clear hb hbox hg; have hnb48 := NB145_136.out; have hnc48 := NB136_145.out; have hnb49 := NB145_137.out; have hnc49 := NB137_145.out; obtain ⟨q50_0, q50_1, q50_2, q50_3, q50_4, q50_5⟩ := cA6 BK145.out; obtain ⟨f50_0, f50_1, f50_2, f50_3, f50_4, f50_5⟩ := fA6 BK145.out; obtain ⟨q51_0, q51_1, q51_2, q51_3, q51_4, q51_5, q51_6, q51_7, q51_8, q51_9, q51_10, q51_11⟩ := cA12 BK137.out; obtain ⟨f51_0, f51_1, f51_2, f51_3, f51_4, f51_5, f51_6, f51_7, f51_8, f51_9, f51_10, f51_11⟩ := fA12 BK137.out))
        go_ret
        exact ⟨by first | rfl | (simp [errW_none, errW_some] <;> rfl) | (simp [*, errW_none, errW_some] <;> rfl), by repeat (first | (with_reducible first | exact HB.out | apply YA | apply YB | apply YC | refine below_set ?_ GE136.out | refine below_set ?_ GE137.out | refine below_set ?_ GE145.out) | exact HB.out)⟩
       rw [if_neg c43] at H
       have c43b0 : (!(0 == 0) || (!(0 == 0) || ((a0_2 || (!(a0_3 == 0) || (!(a0_4 == 0) || (!(a0_5 == 0) || (!(a0_6 == 0) || (!(a0_7 == 0))))))) || (!(a0_11 == 0))))) = false := by simpa using c43
       have c43b9 := c43b0
       (try simp only [beq_self_eq_true, Bool.not_true, Bool.not_false, Bool.false_or, Bool.true_and, Bool.or_false, Bool.and_true] at c43b9)
       clear c43
       obtain rfl := Option.some.inj H
       have hnb52 := NB136_137.out
       have hnc52 := NB137_136.out
       obtain ⟨q53_0, q53_1, q53_2, q53_3, q53_4, q53_5, q53_6, q53_7, q53_8, q53_9, q53_10, q53_11⟩ := cA12 BK136.out
       obtain ⟨f53_0, f53_1, f53_2, f53_3, f53_4, f53_5, f53_6, f53_7, f53_8, f53_9, f53_10, f53_11⟩ := fA12 BK136.out
       go_wp2_with (first | ((with_reducible refine gate_callee (f := 49) rfl ?_); refine goesA (some 58) Try.func49 #[.agg #[.int .i64 a0_8, .int .i64 a0_9, .int .i64 a0_10], .int .i64 0, .int .i64 0] ?_; (with_reducible refine (height_At.calls kj1 a0_8 a0_9 a0_10 0 0 t138 t139 t140 t141 t142 t143 t144 _ A40.out).mono ?_); rintro e w54 ⟨rfl, hb⟩; refine ⟨_, rfl, ?_⟩; have n0_ := YL (YK (g := gb136) (o := .cells #[.int .i64 a0_0, .int .i64 a0_1, .bool a0_2, .int .i64 a0_3, .int .i64 a0_4, .int .i64 a0_5, .int .i64 a0_6, .int .i64 a0_7, .int .i64 a0_8, .int .i64 a0_9, .int .i64 a0_10, .int .i64 a0_11] 34 (0, 0)) (upK BK136) hb); have n1_ := YL (YK (g := gb137) (o := .cells #[.int .i64 0, .int .i64 0, .bool a0_2, .int .i64 a0_3, .int .i64 a0_4, .int .i64 a0_5, .int .i64 a0_6, .int .i64 a0_7, .int .i64 a0_8, .int .i64 a0_9, .int .i64 a0_10, .int .i64 a0_11] 34 (0, 0)) (upK BK137) hb); have n2_ := YL (YD (upB HB) hb); clear BK136; clear BK137; clear HB; have BK136 := n0_; have BK137 := n1_; have HB := n2_; clear n0_ n1_ n2_; (try clear hb); (try clear hb2); (try clear hk); (try clear hi)) | ((with_reducible refine gate_dst (N := 5) rfl ?_); refine box_event ?hg (N := 5) ?hd (cs := #[.bool false, .int .i64 0, .int .i64 0, .int .i64 0, .int .i64 0, .int .i64 0]) (t := 30) ?hr ?_; (case hd => rfl); (case hg => rfl); (case hr => first | (go_simp; done) | (go_simp; rfl)); intro gb145 hg w55 hbox hb; have n0_ := YL (YK (g := gb136) (o := .cells #[.int .i64 a0_0, .int .i64 a0_1, .bool a0_2, .int .i64 a0_3, .int .i64 a0_4, .int .i64 a0_5, .int .i64 a0_6, .int .i64 a0_7, .int .i64 a0_8, .int .i64 a0_9, .int .i64 a0_10, .int .i64 a0_11] 34 (0, 0)) (upK BK136) hb); have n1_ := YL (YK (g := gb137) (o := .cells #[.int .i64 0, .int .i64 0, .bool a0_2, .int .i64 a0_3, .int .i64 a0_4, .int .i64 a0_5, .int .i64 a0_6, .int .i64 a0_7, .int .i64 a0_8, .int .i64 a0_9, .int .i64 a0_10, .int .i64 a0_11] 34 (0, 0)) (upK BK137) hb); have n2_ := YL (YD (upB HB) hb); have n3_ := YL (hbox); have n4_ := YL ((by rw [hg]; exact (YE (upB HB)) : w.heap.size ≤ gb145)); have n5_ := YL ((by rw [hg]; exact (YE (upB HB)) : w.heap.size ≤ gb145)); have n6_ := YL ((by rw [hg]; exact Nat.ne_of_lt (blk_lt (g := gb136) (o := .cells #[.int .i64 a0_0, .int .i64 a0_1, .bool a0_2, .int .i64 a0_3, .int .i64 a0_4, .int .i64 a0_5, .int .i64 a0_6, .int .i64 a0_7, .int .i64 a0_8, .int .i64 a0_9, .int .i64 a0_10, .int .i64 a0_11] 34 (0, 0)) (upK BK136)) : gb136 ≠ gb145)); have n7_ := YL ((by rw [hg]; exact Nat.ne_of_gt (blk_lt (g := gb136) (o := .cells #[.int .i64 a0_0, .int .i64 a0_1, .bool a0_2, .int .i64 a0_3, .int .i64 a0_4, .int .i64 a0_5, .int .i64 a0_6, .int .i64 a0_7, .int .i64 a0_8, .int .i64 a0_9, .int .i64 a0_10, .int .i64 a0_11] 34 (0, 0)) (upK BK136)) : gb145 ≠ gb136)); have n8_ := YL ((by rw [hg]; exact Nat.ne_of_lt (blk_lt (g := gb137) (o := .cells #[.int .i64 0, .int .i64 0, .bool a0_2, .int .i64 a0_3, .int .i64 a0_4, .int .i64 a0_5, .int .i64 a0_6, .int .i64 a0_7, .int .i64 a0_8, .int .i64 a0_9, .int .i64 a0_10, .int .i64 a0_11] 34 (0, 0)) (upK BK137)) : gb137 ≠ gb145)); have n9_ := YL ((by rw [hg]; exact Nat.ne_of_gt (blk_lt (g := gb137) (o := .cells #[.int .i64 0, .int .i64 0, .bool a0_2, .int .i64 a0_3, .int .i64 a0_4, .int .i64 a0_5, .int .i64 a0_6, .int .i64 a0_7, .int .i64 a0_8, .int .i64 a0_9, .int .i64 a0_10, .int .i64 a0_11] 34 (0, 0)) (upK BK137)) : gb145 ≠ gb137)); clear BK136; clear BK137; clear HB; have BK136 := n0_; have BK137 := n1_; have HB := n2_; have BK145 := n3_; have GW145 := n4_; have GE145 := n5_; have NB136_145 := n6_; have NB145_136 := n7_; have NB137_145 := n8_; have NB145_137 := n9_; clear n0_ n1_ n2_ n3_ n4_ n5_ n6_ n7_ n8_ n9_; clear hb hbox hg; have hnb56 := NB145_136.out; have hnc56 := NB136_145.out; have hnb57 := NB145_137.out; have hnc57 := NB137_145.out; obtain ⟨q58_0, q58_1, q58_2, q58_3, q58_4, q58_5⟩ := cA6 BK145.out; obtain ⟨f58_0, f58_1, f58_2, f58_3, f58_4, f58_5⟩ := fA6 BK145.out; obtain ⟨q59_0, q59_1, q59_2, q59_3, q59_4, q59_5, q59_6, q59_7, q59_8, q59_9, q59_10, q59_11⟩ := cA12 BK137.out; obtain ⟨f59_0, f59_1, f59_2, f59_3, f59_4, f59_5, f59_6, f59_7, f59_8, f59_9, f59_10, f59_11⟩ := fA12 BK137.out))
       go_ret
       exact ⟨by first | rfl | (simp [errW_none, errW_some] <;> rfl) | (simp [*, errW_none, errW_some] <;> rfl), by repeat (first | (with_reducible first | exact HB.out | apply YA | apply YB | apply YC | refine below_set ?_ GE136.out | refine below_set ?_ GE137.out | refine below_set ?_ GE145.out) | exact HB.out)⟩
      rw [if_neg c42] at H
      have c42b0 : (t144 == 0) = false := beq_eq_false_iff_ne.mpr c42
      have c42b1 : (t144 != 0) = true := bne_iff_ne.mpr c42
      obtain rfl := Option.some.inj H
      have hnb60 := NB136_137.out
      have hnc60 := NB137_136.out
      obtain ⟨q61_0, q61_1, q61_2, q61_3, q61_4, q61_5, q61_6, q61_7, q61_8, q61_9, q61_10, q61_11⟩ := cA12 BK136.out
      obtain ⟨f61_0, f61_1, f61_2, f61_3, f61_4, f61_5, f61_6, f61_7, f61_8, f61_9, f61_10, f61_11⟩ := fA12 BK136.out
      go_wp2_with (first | ((with_reducible refine gate_callee (f := 49) rfl ?_); refine goesA (some 58) Try.func49 #[.agg #[.int .i64 a0_8, .int .i64 a0_9, .int .i64 a0_10], .int .i64 0, .int .i64 0] ?_; (with_reducible refine (height_At.calls kj1 a0_8 a0_9 a0_10 0 0 t138 t139 t140 t141 t142 t143 t144 _ A40.out).mono ?_); rintro e w62 ⟨rfl, hb⟩; refine ⟨_, rfl, ?_⟩; have n0_ := YL (YK (g := gb136) (o := .cells #[.int .i64 a0_0, .int .i64 a0_1, .bool a0_2, .int .i64 a0_3, .int .i64 a0_4, .int .i64 a0_5, .int .i64 a0_6, .int .i64 a0_7, .int .i64 a0_8, .int .i64 a0_9, .int .i64 a0_10, .int .i64 a0_11] 34 (0, 0)) (upK BK136) hb); have n1_ := YL (YK (g := gb137) (o := .cells #[.int .i64 0, .int .i64 0, .bool a0_2, .int .i64 a0_3, .int .i64 a0_4, .int .i64 a0_5, .int .i64 a0_6, .int .i64 a0_7, .int .i64 a0_8, .int .i64 a0_9, .int .i64 a0_10, .int .i64 a0_11] 34 (0, 0)) (upK BK137) hb); have n2_ := YL (YD (upB HB) hb); clear BK136; clear BK137; clear HB; have BK136 := n0_; have BK137 := n1_; have HB := n2_; clear n0_ n1_ n2_; (try clear hb); (try clear hb2); (try clear hk); (try clear hi)) | ((with_reducible refine gate_dst (N := 5) rfl ?_); refine box_event ?hg (N := 5) ?hd (cs := #[.bool false, .int .i64 0, .int .i64 0, .int .i64 0, .int .i64 0, .int .i64 0]) (t := 30) ?hr ?_; (case hd => rfl); (case hg => rfl); (case hr => first | (go_simp; done) | (go_simp; rfl)); intro gb145 hg w63 hbox hb; have n0_ := YL (YK (g := gb136) (o := .cells #[.int .i64 a0_0, .int .i64 a0_1, .bool a0_2, .int .i64 a0_3, .int .i64 a0_4, .int .i64 a0_5, .int .i64 a0_6, .int .i64 a0_7, .int .i64 a0_8, .int .i64 a0_9, .int .i64 a0_10, .int .i64 a0_11] 34 (0, 0)) (upK BK136) hb); have n1_ := YL (YK (g := gb137) (o := .cells #[.int .i64 0, .int .i64 0, .bool a0_2, .int .i64 a0_3, .int .i64 a0_4, .int .i64 a0_5, .int .i64 a0_6, .int .i64 a0_7, .int .i64 a0_8, .int .i64 a0_9, .int .i64 a0_10, .int .i64 a0_11] 34 (0, 0)) (upK BK137) hb); have n2_ := YL (YD (upB HB) hb); have n3_ := YL (hbox); have n4_ := YL ((by rw [hg]; exact (YE (upB HB)) : w.heap.size ≤ gb145)); have n5_ := YL ((by rw [hg]; exact (YE (upB HB)) : w.heap.size ≤ gb145)); have n6_ := YL ((by rw [hg]; exact Nat.ne_of_lt (blk_lt (g := gb136) (o := .cells #[.int .i64 a0_0, .int .i64 a0_1, .bool a0_2, .int .i64 a0_3, .int .i64 a0_4, .int .i64 a0_5, .int .i64 a0_6, .int .i64 a0_7, .int .i64 a0_8, .int .i64 a0_9, .int .i64 a0_10, .int .i64 a0_11] 34 (0, 0)) (upK BK136)) : gb136 ≠ gb145)); have n7_ := YL ((by rw [hg]; exact Nat.ne_of_gt (blk_lt (g := gb136) (o := .cells #[.int .i64 a0_0, .int .i64 a0_1, .bool a0_2, .int .i64 a0_3, .int .i64 a0_4, .int .i64 a0_5, .int .i64 a0_6, .int .i64 a0_7, .int .i64 a0_8, .int .i64 a0_9, .int .i64 a0_10, .int .i64 a0_11] 34 (0, 0)) (upK BK136)) : gb145 ≠ gb136)); have n8_ := YL ((by rw [hg]; exact Nat.ne_of_lt (blk_lt (g := gb137) (o := .cells #[.int .i64 0, .int .i64 0, .bool a0_2, .int .i64 a0_3, .int .i64 a0_4, .int .i64 a0_5, .int .i64 a0_6, .int .i64 a0_7, .int .i64 a0_8, .int .i64 a0_9, .int .i64 a0_10, .int .i64 a0_11] 34 (0, 0)) (upK BK137)) : gb137 ≠ gb145)); have n9_ := YL ((by rw [hg]; exact Nat.ne_of_gt (blk_lt (g := gb137) (o := .cells #[.int .i64 0, .int .i64 0, .bool a0_2, .int .i64 a0_3, .int .i64 a0_4, .int .i64 a0_5, .int .i64 a0_6, .int .i64 a0_7, .int .i64 a0_8, .int .i64 a0_9, .int .i64 a0_10, .int .i64 a0_11] 34 (0, 0)) (upK BK137)) : gb145 ≠ gb137)); clear BK136; clear BK137; clear HB; have BK136 := n0_; have BK137 := n1_; have HB := n2_; have BK145 := n3_; have GW145 := n4_; have GE145 := n5_; have NB136_145 := n6_; have NB145_136 := n7_; have NB137_145 := n8_; have NB145_137 := n9_; clear n0_ n1_ n2_ n3_ n4_ n5_ n6_ n7_ n8_ n9_; clear hb hbox hg; have hnb64 := NB145_136.out; have hnc64 := NB136_145.out; have hnb65 := NB145_137.out; have hnc65 := NB137_145.out; obtain ⟨q66_0, q66_1, q66_2, q66_3, q66_4, q66_5⟩ := cA6 BK145.out; obtain ⟨f66_0, f66_1, f66_2, f66_3, f66_4, f66_5⟩ := fA6 BK145.out; obtain ⟨q67_0, q67_1, q67_2, q67_3, q67_4, q67_5, q67_6, q67_7, q67_8, q67_9, q67_10, q67_11⟩ := cA12 BK137.out; obtain ⟨f67_0, f67_1, f67_2, f67_3, f67_4, f67_5, f67_6, f67_7, f67_8, f67_9, f67_10, f67_11⟩ := fA12 BK137.out))
      go_ret
      exact ⟨by first | rfl | (simp [errW_none, errW_some] <;> rfl) | (simp [*, errW_none, errW_some] <;> rfl), by repeat (first | (with_reducible first | exact HB.out | apply YA | apply YB | apply YC | refine below_set ?_ GE136.out | refine below_set ?_ GE137.out | refine below_set ?_ GE145.out) | exact HB.out)⟩
     replace c41 := Bool.eq_false_iff.mpr c41
     subst c41
     have H1 : (some 1) = some r := by rw [if_neg (show ¬ (false = true) by decide)] at H; exact H
     clear H
     have H := H1
     clear H1
     obtain rfl := Option.some.inj H
     have hnb68 := NB136_137.out
     have hnc68 := NB137_136.out
     obtain ⟨q69_0, q69_1, q69_2, q69_3, q69_4, q69_5, q69_6, q69_7, q69_8, q69_9, q69_10, q69_11⟩ := cA12 BK136.out
     obtain ⟨f69_0, f69_1, f69_2, f69_3, f69_4, f69_5, f69_6, f69_7, f69_8, f69_9, f69_10, f69_11⟩ := fA12 BK136.out
     go_wp2_with (first | ((with_reducible refine gate_callee (f := 49) rfl ?_); refine goesA (some 58) Try.func49 #[.agg #[.int .i64 a0_8, .int .i64 a0_9, .int .i64 a0_10], .int .i64 0, .int .i64 0] ?_; (with_reducible refine (height_At.calls kj1 a0_8 a0_9 a0_10 0 0 t138 t139 t140 t141 t142 t143 t144 _ A40.out).mono ?_); rintro e w70 ⟨rfl, hb⟩; refine ⟨_, rfl, ?_⟩; have n0_ := YL (YK (g := gb136) (o := .cells #[.int .i64 a0_0, .int .i64 a0_1, .bool a0_2, .int .i64 a0_3, .int .i64 a0_4, .int .i64 a0_5, .int .i64 a0_6, .int .i64 a0_7, .int .i64 a0_8, .int .i64 a0_9, .int .i64 a0_10, .int .i64 a0_11] 34 (0, 0)) (upK BK136) hb); have n1_ := YL (YK (g := gb137) (o := .cells #[.int .i64 0, .int .i64 0, .bool a0_2, .int .i64 a0_3, .int .i64 a0_4, .int .i64 a0_5, .int .i64 a0_6, .int .i64 a0_7, .int .i64 a0_8, .int .i64 a0_9, .int .i64 a0_10, .int .i64 a0_11] 34 (0, 0)) (upK BK137) hb); have n2_ := YL (YD (upB HB) hb); clear BK136; clear BK137; clear HB; have BK136 := n0_; have BK137 := n1_; have HB := n2_; clear n0_ n1_ n2_; (try clear hb); (try clear hb2); (try clear hk); (try clear hi)) | ((with_reducible refine gate_dst (N := 5) rfl ?_); refine box_event ?hg (N := 5) ?hd (cs := #[.bool false, .int .i64 0, .int .i64 0, .int .i64 0, .int .i64 0, .int .i64 0]) (t := 30) ?hr ?_; (case hd => rfl); (case hg => rfl); (case hr => first | (go_simp; done) | (go_simp; rfl)); intro gb145 hg w71 hbox hb; have n0_ := YL (YK (g := gb136) (o := .cells #[.int .i64 a0_0, .int .i64 a0_1, .bool a0_2, .int .i64 a0_3, .int .i64 a0_4, .int .i64 a0_5, .int .i64 a0_6, .int .i64 a0_7, .int .i64 a0_8, .int .i64 a0_9, .int .i64 a0_10, .int .i64 a0_11] 34 (0, 0)) (upK BK136) hb); have n1_ := YL (YK (g := gb137) (o := .cells #[.int .i64 0, .int .i64 0, .bool a0_2, .int .i64 a0_3, .int .i64 a0_4, .int .i64 a0_5, .int .i64 a0_6, .int .i64 a0_7, .int .i64 a0_8, .int .i64 a0_9, .int .i64 a0_10, .int .i64 a0_11] 34 (0, 0)) (upK BK137) hb); have n2_ := YL (YD (upB HB) hb); have n3_ := YL (hbox); have n4_ := YL ((by rw [hg]; exact (YE (upB HB)) : w.heap.size ≤ gb145)); have n5_ := YL ((by rw [hg]; exact (YE (upB HB)) : w.heap.size ≤ gb145)); have n6_ := YL ((by rw [hg]; exact Nat.ne_of_lt (blk_lt (g := gb136) (o := .cells #[.int .i64 a0_0, .int .i64 a0_1, .bool a0_2, .int .i64 a0_3, .int .i64 a0_4, .int .i64 a0_5, .int .i64 a0_6, .int .i64 a0_7, .int .i64 a0_8, .int .i64 a0_9, .int .i64 a0_10, .int .i64 a0_11] 34 (0, 0)) (upK BK136)) : gb136 ≠ gb145)); have n7_ := YL ((by rw [hg]; exact Nat.ne_of_gt (blk_lt (g := gb136) (o := .cells #[.int .i64 a0_0, .int .i64 a0_1, .bool a0_2, .int .i64 a0_3, .int .i64 a0_4, .int .i64 a0_5, .int .i64 a0_6, .int .i64 a0_7, .int .i64 a0_8, .int .i64 a0_9, .int .i64 a0_10, .int .i64 a0_11] 34 (0, 0)) (upK BK136)) : gb145 ≠ gb136)); have n8_ := YL ((by rw [hg]; exact Nat.ne_of_lt (blk_lt (g := gb137) (o := .cells #[.int .i64 0, .int .i64 0, .bool a0_2, .int .i64 a0_3, .int .i64 a0_4, .int .i64 a0_5, .int .i64 a0_6, .int .i64 a0_7, .int .i64 a0_8, .int .i64 a0_9, .int .i64 a0_10, .int .i64 a0_11] 34 (0, 0)) (upK BK137)) : gb137 ≠ gb145)); have n9_ := YL ((by rw [hg]; exact Nat.ne_of_gt (blk_lt (g := gb137) (o := .cells #[.int .i64 0, .int .i64 0, .bool a0_2, .int .i64 a0_3, .int .i64 a0_4, .int .i64 a0_5, .int .i64 a0_6, .int .i64 a0_7, .int .i64 a0_8, .int .i64 a0_9, .int .i64 a0_10, .int .i64 a0_11] 34 (0, 0)) (upK BK137)) : gb145 ≠ gb137)); clear BK136; clear BK137; clear HB; have BK136 := n0_; have BK137 := n1_; have HB := n2_; have BK145 := n3_; have GW145 := n4_; have GE145 := n5_; have NB136_145 := n6_; have NB145_136 := n7_; have NB137_145 := n8_; have NB145_137 := n9_; clear n0_ n1_ n2_ n3_ n4_ n5_ n6_ n7_ n8_ n9_; clear hb hbox hg; have hnb72 := NB145_136.out; have hnc72 := NB136_145.out; have hnb73 := NB145_137.out; have hnc73 := NB137_145.out; obtain ⟨q74_0, q74_1, q74_2, q74_3, q74_4, q74_5⟩ := cA6 BK145.out; obtain ⟨f74_0, f74_1, f74_2, f74_3, f74_4, f74_5⟩ := fA6 BK145.out; obtain ⟨q75_0, q75_1, q75_2, q75_3, q75_4, q75_5, q75_6, q75_7, q75_8, q75_9, q75_10, q75_11⟩ := cA12 BK137.out; obtain ⟨f75_0, f75_1, f75_2, f75_3, f75_4, f75_5, f75_6, f75_7, f75_8, f75_9, f75_10, f75_11⟩ := fA12 BK137.out))
     go_ret
     exact ⟨by first | rfl | (simp [errW_none, errW_some] <;> rfl) | (simp [*, errW_none, errW_some] <;> rfl), by repeat (first | (with_reducible first | exact HB.out | apply YA | apply YB | apply YC | refine below_set ?_ GE136.out | refine below_set ?_ GE137.out | refine below_set ?_ GE145.out) | exact HB.out)⟩
    rw [if_neg c39] at H
    have c39b0 : (a0_0 == 3) = false := beq_eq_false_iff_ne.mpr c39
    have c39b1 : (a0_0 != 3) = true := bne_iff_ne.mpr c39
    obtain rfl := Option.some.inj H
    go_wp2
    go_ret
    exact ⟨by first | rfl | (simp [errW_none, errW_some] <;> rfl) | (simp [*, errW_none, errW_some] <;> rfl), by repeat (first | (with_reducible first | exact HB.out | apply YA | apply YB | apply YC | refine below_set ?_ GE136.out | refine below_set ?_ GE137.out) | exact HB.out)⟩
   case rest =>
    clear HC13
    try clear c1; try clear c2
    try clear p2; try clear c3
    try clear c4; try clear c5
    try clear c6; try clear c7
    try clear c14; try clear c16
    try clear c16b0; try clear c16b1
    try clear c17; try clear c18
    try clear c18b0; try clear c19
    try clear c21; try clear c23
    try clear c23b0; try clear c23b1
    try clear c24; try clear c25
    try clear c26; try clear c29
    try clear c29b0; try clear c30
    try clear c33; try clear c36
    try clear c38; try clear c38b0
    try clear c38b1; try clear c39
    try clear c39b0; try clear c39b1
    try clear c41; try clear c42
    try clear c42b0; try clear c42b1
    try clear c43; try clear c43b0
    try clear c44; try clear c48
    try clear c49; try clear c52
    try clear c56; try clear c57
    try clear c60; try clear c64
    try clear c65; try clear c68
    try clear c72; try clear c73
    try clear q15_0; try clear q15_1
    try clear q15_10; try clear q15_11
    try clear q15_2; try clear q15_3
    try clear q15_4; try clear q15_5
    try clear q15_6; try clear q15_7
    try clear q15_8; try clear q15_9
    try clear q20_0; try clear q20_1
    try clear q20_10; try clear q20_11
    try clear q20_2; try clear q20_3
    try clear q20_4; try clear q20_5
    try clear q20_6; try clear q20_7
    try clear q20_8; try clear q20_9
    try clear q22_0; try clear q22_1
    try clear q22_10; try clear q22_11
    try clear q22_2; try clear q22_3
    try clear q22_4; try clear q22_5
    try clear q22_6; try clear q22_7
    try clear q22_8; try clear q22_9
    try clear q27_0; try clear q27_1
    try clear q27_10; try clear q27_11
    try clear q27_2; try clear q27_3
    try clear q27_4; try clear q27_5
    try clear q27_6; try clear q27_7
    try clear q27_8; try clear q27_9
    try clear q28_0; try clear q28_1
    try clear q28_10; try clear q28_11
    try clear q28_2; try clear q28_3
    try clear q28_4; try clear q28_5
    try clear q28_6; try clear q28_7
    try clear q28_8; try clear q28_9
    try clear q31_0; try clear q31_1
    try clear q31_10; try clear q31_11
    try clear q31_2; try clear q31_3
    try clear q31_4; try clear q31_5
    try clear q31_6; try clear q31_7
    try clear q31_8; try clear q31_9
    try clear q32_0; try clear q32_1
    try clear q32_10; try clear q32_11
    try clear q32_2; try clear q32_3
    try clear q32_4; try clear q32_5
    try clear q32_6; try clear q32_7
    try clear q32_8; try clear q32_9
    try clear q34_0; try clear q34_1
    try clear q34_10; try clear q34_11
    try clear q34_2; try clear q34_3
    try clear q34_4; try clear q34_5
    try clear q34_6; try clear q34_7
    try clear q34_8; try clear q34_9
    try clear q35_0; try clear q35_1
    try clear q35_10; try clear q35_11
    try clear q35_2; try clear q35_3
    try clear q35_4; try clear q35_5
    try clear q35_6; try clear q35_7
    try clear q35_8; try clear q35_9
    try clear q37_0; try clear q37_1
    try clear q37_10; try clear q37_11
    try clear q37_2; try clear q37_3
    try clear q37_4; try clear q37_5
    try clear q37_6; try clear q37_7
    try clear q37_8; try clear q37_9
    try clear q45_0; try clear q45_1
    try clear q45_10; try clear q45_11
    try clear q45_2; try clear q45_3
    try clear q45_4; try clear q45_5
    try clear q45_6; try clear q45_7
    try clear q45_8; try clear q45_9
    try clear q50_0; try clear q50_1
    try clear q50_2; try clear q50_3
    try clear q50_4; try clear q50_5
    try clear q51_0; try clear q51_1
    try clear q51_10; try clear q51_11
    try clear q51_2; try clear q51_3
    try clear q51_4; try clear q51_5
    try clear q51_6; try clear q51_7
    try clear q51_8; try clear q51_9
    try clear q53_0; try clear q53_1
    try clear q53_10; try clear q53_11
    try clear q53_2; try clear q53_3
    try clear q53_4; try clear q53_5
    try clear q53_6; try clear q53_7
    try clear q53_8; try clear q53_9
    try clear q58_0; try clear q58_1
    try clear q58_2; try clear q58_3
    try clear q58_4; try clear q58_5
    try clear q59_0; try clear q59_1
    try clear q59_10; try clear q59_11
    try clear q59_2; try clear q59_3
    try clear q59_4; try clear q59_5
    try clear q59_6; try clear q59_7
    try clear q59_8; try clear q59_9
    try clear q61_0; try clear q61_1
    try clear q61_10; try clear q61_11
    try clear q61_2; try clear q61_3
    try clear q61_4; try clear q61_5
    try clear q61_6; try clear q61_7
    try clear q61_8; try clear q61_9
    try clear q66_0; try clear q66_1
    try clear q66_2; try clear q66_3
    try clear q66_4; try clear q66_5
    try clear q67_0; try clear q67_1
    try clear q67_10; try clear q67_11
    try clear q67_2; try clear q67_3
    try clear q67_4; try clear q67_5
    try clear q67_6; try clear q67_7
    try clear q67_8; try clear q67_9
    try clear q69_0; try clear q69_1
    try clear q69_10; try clear q69_11
    try clear q69_2; try clear q69_3
    try clear q69_4; try clear q69_5
    try clear q69_6; try clear q69_7
    try clear q69_8; try clear q69_9
    try clear q74_0; try clear q74_1
    try clear q74_2; try clear q74_3
    try clear q74_4; try clear q74_5
    try clear q75_0; try clear q75_1
    try clear q75_10; try clear q75_11
    try clear q75_2; try clear q75_3
    try clear q75_4; try clear q75_5
    try clear q75_6; try clear q75_7
    try clear q75_8; try clear q75_9
    try clear q7_5; try clear q7_6
    try clear q7_7; try clear q7_8
    try clear q7_9; try clear f10_0
    try clear f10_1; try clear f10_10
    try clear f10_11; try clear f10_2
    try clear f10_3; try clear f10_4
    try clear f10_5; try clear f10_6
    try clear f10_7; try clear f10_8
    try clear f10_9; try clear f12_0
    try clear f12_1; try clear f12_10
    try clear f12_11; try clear f12_2
    try clear f12_3; try clear f12_4
    try clear f12_5; try clear f12_6
    try clear f12_7; try clear f12_8
    try clear f12_9; try clear f15_0
    try clear f15_1; try clear f15_10
    try clear f15_11; try clear f15_2
    try clear f15_3; try clear f15_4
    try clear f15_5; try clear f15_6
    try clear f15_7; try clear f15_8
    try clear f15_9; try clear f20_0
    try clear f20_1; try clear f20_10
    try clear f20_11; try clear f20_2
    try clear f20_3; try clear f20_4
    try clear f20_5; try clear f20_6
    try clear f20_7; try clear f20_8
    try clear f20_9; try clear f22_0
    try clear f22_1; try clear f22_10
    try clear f22_11; try clear f22_2
    try clear f22_3; try clear f22_4
    try clear f22_5; try clear f22_6
    try clear f22_7; try clear f22_8
    try clear f22_9; try clear f27_0
    try clear f27_1; try clear f27_10
    try clear f27_11; try clear f27_2
    try clear f27_3; try clear f27_4
    try clear f27_5; try clear f27_6
    try clear f27_7; try clear f27_8
    try clear f27_9; try clear f28_0
    try clear f28_1; try clear f28_10
    try clear f28_11; try clear f28_2
    try clear f28_3; try clear f28_4
    try clear f28_5; try clear f28_6
    try clear f28_7; try clear f28_8
    try clear f28_9; try clear f31_0
    try clear f31_1; try clear f31_10
    try clear f31_11; try clear f31_2
    try clear f31_3; try clear f31_4
    try clear f31_5; try clear f31_6
    try clear f31_7; try clear f31_8
    try clear f31_9; try clear f32_0
    try clear f32_1; try clear f32_10
    try clear f32_11; try clear f32_2
    try clear f32_3; try clear f32_4
    try clear f32_5; try clear f32_6
    try clear f32_7; try clear f32_8
    try clear f32_9; try clear f34_0
    try clear f34_1; try clear f34_10
    try clear f34_11; try clear f34_2
    try clear f34_3; try clear f34_4
    try clear f34_5; try clear f34_6
    try clear f34_7; try clear f34_8
    try clear f34_9; try clear f35_0
    try clear f35_1; try clear f35_10
    try clear f35_11; try clear f35_2
    try clear f35_3; try clear f35_4
    try clear f35_5; try clear f35_6
    try clear f35_7; try clear f35_8
    try clear f35_9; try clear f37_0
    try clear f37_1; try clear f37_10
    try clear f37_11; try clear f37_2
    try clear f37_3; try clear f37_4
    try clear f37_5; try clear f37_6
    try clear f37_7; try clear f37_8
    try clear f37_9; try clear f45_0
    try clear f45_1; try clear f45_10
    try clear f45_11; try clear f45_2
    try clear f45_3; try clear f45_4
    try clear f45_5; try clear f45_6
    try clear f45_7; try clear f45_8
    try clear f45_9; try clear f4_0
    try clear f4_1; try clear f4_10
    try clear f4_11; try clear f4_2
    try clear f4_3; try clear f4_4
    try clear f4_5; try clear f4_6
    try clear f4_7; try clear f4_8
    try clear f4_9; try clear f50_0
    try clear f50_1; try clear f50_2
    try clear f50_3; try clear f50_4
    try clear f50_5; try clear f51_0
    try clear f51_1; try clear f51_10
    try clear f51_11; try clear f51_2
    try clear f51_3; try clear f51_4
    try clear f51_5; try clear f51_6
    try clear f51_7; try clear f51_8
    try clear f51_9; try clear f53_0
    try clear f53_1; try clear f53_10
    try clear f53_11; try clear f53_2
    try clear f53_3; try clear f53_4
    try clear f53_5; try clear f53_6
    try clear f53_7; try clear f53_8
    try clear f53_9; try clear f58_0
    try clear f58_1; try clear f58_2
    try clear f58_3; try clear f58_4
    try clear f58_5; try clear f59_0
    try clear f59_1; try clear f59_10
    try clear f59_11; try clear f59_2
    try clear f59_3; try clear f59_4
    try clear f59_5; try clear f59_6
    try clear f59_7; try clear f59_8
    try clear f59_9; try clear f61_0
    try clear f61_1; try clear f61_10
    try clear f61_11; try clear f61_2
    try clear f61_3; try clear f61_4
    try clear f61_5; try clear f61_6
    try clear f61_7; try clear f61_8
    try clear f61_9; try clear f66_0
    try clear f66_1; try clear f66_2
    try clear f66_3; try clear f66_4
    try clear f66_5; try clear f67_0
    try clear f67_1; try clear f67_10
    try clear f67_11; try clear f67_2
    try clear f67_3; try clear f67_4
    try clear f67_5; try clear f67_6
    try clear f67_7; try clear f67_8
    try clear f67_9; try clear f69_0
    try clear f69_1; try clear f69_10
    try clear f69_11; try clear f69_2
    try clear f69_3; try clear f69_4
    try clear f69_5; try clear f69_6
    try clear f69_7; try clear f69_8
    try clear f69_9; try clear f74_0
    try clear f74_1; try clear f74_2
    try clear f74_3; try clear f74_4
    try clear f74_5; try clear f75_0
    try clear f75_1; try clear f75_10
    try clear f75_11; try clear f75_2
    try clear f75_3; try clear f75_4
    try clear f75_5; try clear f75_6
    try clear f75_7; try clear f75_8
    try clear f75_9; try clear f7_0
    try clear f7_1; try clear f7_10
    try clear f7_11; try clear f7_2
    try clear f7_3; try clear f7_4
    try clear f7_5; try clear f7_6
    try clear f7_7; try clear f7_8; try clear f7_9
    obtain ⟨kq, x4_12, x138011_12, rfl, HA, HJ12, BK136, BK137, HB⟩ := hcut
    cases kq with
    | zero => exact absurd HA.out (by simp [object_Check.j1])
    | succ kj12 =>
     have H := HA.out
     clear HA
     simp only [object_Check.j1] at H
     by_cases c76 : x4_12 = true
     ·subst c76
      have H1 : ((height_Check.f kj12 a0_2 a0_3 a0_4 a0_5 a0_6 a0_7).bind fun t146 => (if t146 = 0 then (if (!(0 == 0) || (!(0 == 0) || ((!(a0_8 == 0) || (!(a0_9 == 0) || (!(a0_10 == 0)))) || (!(x138011_12 == 0))))) = true then (some 1) else (some 0)) else (some 1))) = some r := by rw [if_pos rfl] at H; exact H
      clear H
      have H := H1
      clear H1; replace H := Option.bind_eq_some_iff.mp H; obtain ⟨t146, A770, H⟩ := H
      replace H : (if t146 = 0 then (if (!(0 == 0) || (!(0 == 0) || ((!(a0_8 == 0) || (!(a0_9 == 0) || (!(a0_10 == 0)))) || (!(x138011_12 == 0))))) = true then (some 1) else (some 0)) else (some 1)) = some r := H
      have A77 := YL A770; clear A770
      by_cases c78 : t146 = 0
      ·rw [if_pos c78] at H
       have c78b0 : (t146 == 0) = true := beq_iff_eq.mpr c78
       have c78b1 : (t146 != 0) = false := bne_eq_false_iff_eq.mpr c78
       clear c78
       by_cases c79 : (!(0 == 0) || (!(0 == 0) || ((!(a0_8 == 0) || (!(a0_9 == 0) || (!(a0_10 == 0)))) || (!(x138011_12 == 0))))) = true
       ·rw [if_pos c79] at H
        have c79b0 : (!(0 == 0) || (!(0 == 0) || ((!(a0_8 == 0) || (!(a0_9 == 0) || (!(a0_10 == 0)))) || (!(x138011_12 == 0))))) = true := c79
        have c79b9 := c79b0
        (try simp only [beq_self_eq_true, Bool.not_true, Bool.not_false, Bool.false_or, Bool.true_and, Bool.or_false, Bool.and_true] at c79b9)
        clear c79
        obtain rfl := Option.some.inj H
        have hnb80 := NB136_137.out
        have hnc80 := NB137_136.out
        obtain ⟨q81_0, q81_1, q81_2, q81_3, q81_4, q81_5, q81_6, q81_7, q81_8, q81_9, q81_10, q81_11⟩ := cA12 BK136.out
        obtain ⟨f81_0, f81_1, f81_2, f81_3, f81_4, f81_5, f81_6, f81_7, f81_8, f81_9, f81_10, f81_11⟩ := fA12 BK136.out
        go_wp2_with (first | (go_at_call 48; (with_reducible refine (height_Check.calls kj12 a0_2 a0_3 a0_4 a0_5 a0_6 a0_7 t146 _ A77.out).mono ?_); rintro e w82 ⟨rfl, hb⟩; have n0_ := YL (YK (g := gb136) (o := .cells #[.int .i64 a0_0, .int .i64 a0_1, .bool a0_2, .int .i64 a0_3, .int .i64 a0_4, .int .i64 a0_5, .int .i64 a0_6, .int .i64 a0_7, .int .i64 a0_8, .int .i64 a0_9, .int .i64 a0_10, .int .i64 a0_11] 34 (0, 0)) (upK BK136) hb); have n1_ := YL (YK (g := gb137) (o := .cells #[.int .i64 0, .int .i64 0, .bool a0_2, .int .i64 a0_3, .int .i64 a0_4, .int .i64 a0_5, .int .i64 a0_6, .int .i64 a0_7, .int .i64 a0_8, .int .i64 a0_9, .int .i64 a0_10, .int .i64 x138011_12] 34 (0, 0)) (upK BK137) hb); have n2_ := YL (YD (upB HB) hb); clear BK136; clear BK137; clear HB; have BK136 := n0_; have BK137 := n1_; have HB := n2_; clear n0_ n1_ n2_; (try clear hb); (try clear hb2); (try clear hk); (try clear hi); obtain ⟨q83_0, q83_1, q83_2, q83_3, q83_4, q83_5, q83_6, q83_7, q83_8, q83_9, q83_10, q83_11⟩ := cA12 BK137.out; obtain ⟨f83_0, f83_1, f83_2, f83_3, f83_4, f83_5, f83_6, f83_7, f83_8, f83_9, f83_10, f83_11⟩ := fA12 BK137.out))
        go_ret
        exact ⟨by first | rfl | (simp [errW_none, errW_some] <;> rfl) | (simp [*, errW_none, errW_some] <;> rfl), by repeat (first | (with_reducible first | exact HB.out | apply YA | apply YB | apply YC | refine below_set ?_ GE136.out | refine below_set ?_ GE137.out) | exact HB.out)⟩
       rw [if_neg c79] at H
       have c79b0 : (!(0 == 0) || (!(0 == 0) || ((!(a0_8 == 0) || (!(a0_9 == 0) || (!(a0_10 == 0)))) || (!(x138011_12 == 0))))) = false := by simpa using c79
       have c79b9 := c79b0
       (try simp only [beq_self_eq_true, Bool.not_true, Bool.not_false, Bool.false_or, Bool.true_and, Bool.or_false, Bool.and_true] at c79b9)
       clear c79
       obtain rfl := Option.some.inj H
       have hnb84 := NB136_137.out
       have hnc84 := NB137_136.out
       obtain ⟨q85_0, q85_1, q85_2, q85_3, q85_4, q85_5, q85_6, q85_7, q85_8, q85_9, q85_10, q85_11⟩ := cA12 BK136.out
       obtain ⟨f85_0, f85_1, f85_2, f85_3, f85_4, f85_5, f85_6, f85_7, f85_8, f85_9, f85_10, f85_11⟩ := fA12 BK136.out
       go_wp2_with (first | (go_at_call 48; (with_reducible refine (height_Check.calls kj12 a0_2 a0_3 a0_4 a0_5 a0_6 a0_7 t146 _ A77.out).mono ?_); rintro e w86 ⟨rfl, hb⟩; have n0_ := YL (YK (g := gb136) (o := .cells #[.int .i64 a0_0, .int .i64 a0_1, .bool a0_2, .int .i64 a0_3, .int .i64 a0_4, .int .i64 a0_5, .int .i64 a0_6, .int .i64 a0_7, .int .i64 a0_8, .int .i64 a0_9, .int .i64 a0_10, .int .i64 a0_11] 34 (0, 0)) (upK BK136) hb); have n1_ := YL (YK (g := gb137) (o := .cells #[.int .i64 0, .int .i64 0, .bool a0_2, .int .i64 a0_3, .int .i64 a0_4, .int .i64 a0_5, .int .i64 a0_6, .int .i64 a0_7, .int .i64 a0_8, .int .i64 a0_9, .int .i64 a0_10, .int .i64 x138011_12] 34 (0, 0)) (upK BK137) hb); have n2_ := YL (YD (upB HB) hb); clear BK136; clear BK137; clear HB; have BK136 := n0_; have BK137 := n1_; have HB := n2_; clear n0_ n1_ n2_; (try clear hb); (try clear hb2); (try clear hk); (try clear hi); obtain ⟨q87_0, q87_1, q87_2, q87_3, q87_4, q87_5, q87_6, q87_7, q87_8, q87_9, q87_10, q87_11⟩ := cA12 BK137.out; obtain ⟨f87_0, f87_1, f87_2, f87_3, f87_4, f87_5, f87_6, f87_7, f87_8, f87_9, f87_10, f87_11⟩ := fA12 BK137.out))
       go_ret
       exact ⟨by first | rfl | (simp [errW_none, errW_some] <;> rfl) | (simp [*, errW_none, errW_some] <;> rfl), by repeat (first | (with_reducible first | exact HB.out | apply YA | apply YB | apply YC | refine below_set ?_ GE136.out | refine below_set ?_ GE137.out) | exact HB.out)⟩
      rw [if_neg c78] at H
      have c78b0 : (t146 == 0) = false := beq_eq_false_iff_ne.mpr c78
      have c78b1 : (t146 != 0) = true := bne_iff_ne.mpr c78
      obtain rfl := Option.some.inj H
      have hnb88 := NB136_137.out
      have hnc88 := NB137_136.out
      obtain ⟨q89_0, q89_1, q89_2, q89_3, q89_4, q89_5, q89_6, q89_7, q89_8, q89_9, q89_10, q89_11⟩ := cA12 BK136.out
      obtain ⟨f89_0, f89_1, f89_2, f89_3, f89_4, f89_5, f89_6, f89_7, f89_8, f89_9, f89_10, f89_11⟩ := fA12 BK136.out
      go_wp2_with (first | (go_at_call 48; (with_reducible refine (height_Check.calls kj12 a0_2 a0_3 a0_4 a0_5 a0_6 a0_7 t146 _ A77.out).mono ?_); rintro e w90 ⟨rfl, hb⟩; have n0_ := YL (YK (g := gb136) (o := .cells #[.int .i64 a0_0, .int .i64 a0_1, .bool a0_2, .int .i64 a0_3, .int .i64 a0_4, .int .i64 a0_5, .int .i64 a0_6, .int .i64 a0_7, .int .i64 a0_8, .int .i64 a0_9, .int .i64 a0_10, .int .i64 a0_11] 34 (0, 0)) (upK BK136) hb); have n1_ := YL (YK (g := gb137) (o := .cells #[.int .i64 0, .int .i64 0, .bool a0_2, .int .i64 a0_3, .int .i64 a0_4, .int .i64 a0_5, .int .i64 a0_6, .int .i64 a0_7, .int .i64 a0_8, .int .i64 a0_9, .int .i64 a0_10, .int .i64 x138011_12] 34 (0, 0)) (upK BK137) hb); have n2_ := YL (YD (upB HB) hb); clear BK136; clear BK137; clear HB; have BK136 := n0_; have BK137 := n1_; have HB := n2_; clear n0_ n1_ n2_; (try clear hb); (try clear hb2); (try clear hk); (try clear hi); obtain ⟨q91_0, q91_1, q91_2, q91_3, q91_4, q91_5, q91_6, q91_7, q91_8, q91_9, q91_10, q91_11⟩ := cA12 BK137.out; obtain ⟨f91_0, f91_1, f91_2, f91_3, f91_4, f91_5, f91_6, f91_7, f91_8, f91_9, f91_10, f91_11⟩ := fA12 BK137.out))
      go_ret
      exact ⟨by first | rfl | (simp [errW_none, errW_some] <;> rfl) | (simp [*, errW_none, errW_some] <;> rfl), by repeat (first | (with_reducible first | exact HB.out | apply YA | apply YB | apply YC | refine below_set ?_ GE136.out | refine below_set ?_ GE137.out) | exact HB.out)⟩
     replace c76 := Bool.eq_false_iff.mpr c76
     subst c76
     have H1 : (some 1) = some r := by rw [if_neg (show ¬ (false = true) by decide)] at H; exact H
     clear H
     have H := H1
     clear H1
     obtain rfl := Option.some.inj H
     have hnb92 := NB137_136.out
     have hnc92 := NB136_137.out
     obtain ⟨q93_0, q93_1, q93_2, q93_3, q93_4, q93_5, q93_6, q93_7, q93_8, q93_9, q93_10, q93_11⟩ := cA12 BK137.out
     obtain ⟨f93_0, f93_1, f93_2, f93_3, f93_4, f93_5, f93_6, f93_7, f93_8, f93_9, f93_10, f93_11⟩ := fA12 BK137.out
     go_wp2
     go_ret
     exact ⟨by first | rfl | (simp [errW_none, errW_some] <;> rfl) | (simp [*, errW_none, errW_some] <;> rfl), by repeat (first | (with_reducible first | exact HB.out | apply YA | apply YB | apply YC | refine below_set ?_ GE136.out | refine below_set ?_ GE137.out) | exact HB.out)⟩
end Go.Proofs.Ytclbempnhelmoaa.P
namespace Go.Proofs.Ytclbempnhelmoaa.P
open Go.RowKit YtclbempnhelmoaaW.PrintWords YtclbempnhelmoaaW.PrintLast YtclbempnhelmoaaW.PrintMore
def Wr (g : Nat) (vw vo : Value) (O : List (It × Int)) (k : Nat) : Prop := k = g ∨ some k = vw.ownBlock ∨ some k = vo.ownBlock ∨ ∃ o ∈ O, k = o.1.p
theorem Sd.wr {w0 w : World} {F : Nat → Prop} {g : Nat} {wn tr nx : Int} {W : List S34} {O : List (It × Int)} {vw vo : Value} (h : Sd w0 w F g wn tr W O nx vw vo) : ∀ k, Wr g vw vo O k → F k := by
 rintro k (rfl | e | e | ⟨o, ho, rfl⟩)
 ·exact h.fg
 ·exact (h.roww.1 k e.symm).1
 ·exact (h.rowo.1 k e.symm).1
 ·exact (h.cnt o ho).1
structure SX (w : World) (F R : Nat → Prop) (w' : World) (F' R' : Nat → Prop) : Prop where
 sz : w.heap.size ≤ w'.heap.size
 fr : ∀ k, k < w.heap.size → ¬ R k → w'.heap[k]? = w.heap[k]?
 fp : ∀ k, F' k → F k ∨ w.heap.size ≤ k
 wr : ∀ k, R' k → R k ∨ w.heap.size ≤ k
theorem SX.refl (w : World) (F R : Nat → Prop) : SX w F R w F R := ⟨Nat.le_refl _, fun _ _ _ => rfl, fun _ h => .inl h, fun _ h => .inl h⟩
theorem SX.of_below {w w' : World} (F R : Nat → Prop) (hb : Below w.heap.size w w') : SX w F R w' F R := ⟨hb.size, fun k hk _ => hb.block k hk, fun _ h => .inl h, fun _ h => .inl h⟩
theorem SX.trans {w w1 w2 : World} {F R F1 R1 F2 R2 : Nat → Prop} (h : SX w F R w1 F1 R1) (h2 : SX w1 F1 R1 w2 F2 R2) : SX w F R w2 F2 R2 := by
 refine ⟨Nat.le_trans h.sz h2.sz, fun k hk hr => ?_, fun k hk => ?_, fun k hk => ?_⟩
 ·refine (h2.fr k (Nat.lt_of_lt_of_le hk h.sz) (fun hr1 => ?_)).trans (h.fr k hk hr)
  rcases h.wr k hr1 with e | e
  ·exact hr e
  ·omega
 ·rcases h2.fp k hk with e | e
  ·exact h.fp k e
  ·exact .inr (Nat.le_trans h.sz e)
 ·rcases h2.wr k hk with e | e
  ·exact h.wr k e
  ·exact .inr (Nat.le_trans h.sz e)
theorem SX.below {w w1 w2 : World} {F R F1 R1 : Nat → Prop} (h : SX w F R w1 F1 R1) (hb : Below w1.heap.size w1 w2) : SX w F R w2 F1 R1 := h.trans (SX.of_below F1 R1 hb)
theorem lit1_step {P : Program} {ops : Array Oper} {o : Oper} {a : Act} {Q : Exit → Act → World → Prop} {Kc : Act → World → Prop} {W : World} (hw : Region.wanted o (yielded ops a.tmps) = true) {N : Tmp} (_hd : o.dst = some N) {cs : Array Value} {t : TypeId} {n : Nat}
  (hrun : (execOp a.eval o).run P W = .ok (.value (.slice (some ⟨W.heap.size, 0, none⟩) n n)) (W.alloc (.cells cs t (0, 0))))
  (h : ∀ g, g = W.heap.size → ∀ w1, w1.heap[g]? = some (.cells cs t (0, 0)) → Below W.heap.size W w1 → Kc (a.put o.dst (.slice (some ⟨g, 0, none⟩) n n)) w1) : if Region.wanted o (yielded ops a.tmps) = true then Oper.wp P o a W Kc Q else Kc (a.put o.dst undef) W :=
 event_step hw hrun (h _ rfl _ (blk_new W _) (below_alloc (Below.refl _ _) _))
theorem lit1_event {P : Program} {ops : Array Oper} {rest : List Oper} {o : Oper} {a : Act} {Q : Exit → Act → World → Prop} {W : World} (hgd : o.guard = none) {N : Tmp} (_hd : o.dst = some N) {cs : Array Value} {t : TypeId} {n : Nat}
  (hrun : (execOp a.eval o).run P W = .ok (.value (.slice (some ⟨W.heap.size, 0, none⟩) n n)) (W.alloc (.cells cs t (0, 0))))
  (h : ∀ g, g = W.heap.size → ∀ w1, w1.heap[g]? = some (.cells cs t (0, 0)) → Below W.heap.size W w1 → wpList P ops Q rest (a.put o.dst (.slice (some ⟨g, 0, none⟩) n n)) w1) : wpList P ops Q (o :: rest) a W :=
 Kd.event_run hgd hrun (h _ rfl _ (blk_new W _) (below_alloc (Below.refl _ _) _))
section
variable {w0 w w' : World} {F : Nat → Prop} {g : Nat} {wn tr nx : Int} {W : List S34} {O : List (It × Int)} {vw vo : Value}
theorem Sd.keep (h : Sd w0 w F g wn tr W O nx vw vo) (hk : ∀ k, F k → w'.heap[k]? = w.heap[k]?) (hs : w.heap.size ≤ w'.heap.size) (hb : Below w0.heap.size w0 w') : Sd w0 w' F g wn tr W O nx vw vo :=
 ⟨hb, (hk g h.fg).trans h.blk, h.new, fun k hF => Nat.lt_of_lt_of_le (h.lt k hF) hs, h.fg, Kd.R_step h.roww (fun k ho _ => hk k ho.1), Kd.R_step h.rowo (fun k ho _ => hk k ho.1), fun o ho => ⟨(h.cnt o ho).1, (h.cnt o ho).2.1, (h.cnt o ho).2.2.1, (hk _ (h.cnt o ho).1).trans (h.cnt o ho).2.2.2⟩, h.apart⟩
theorem Sd.below (h : Sd w0 w F g wn tr W O nx vw vo) (hb : Below w.heap.size w w') : Sd w0 w' F g wn tr W O nx vw vo :=
 h.keep (fun k hk => hb.block k (h.lt k hk)) hb.size (below_step h.bl hb)
theorem Sd.push (h : Sd w0 w F g wn tr W O nx vw vo) {v2 : Value} {W2 : List S34} (hr : k34.R 34 w' w0.heap.size (fun k => (F k ∨ w.heap.size ≤ k) ∧ k ≠ g ∧ some k ≠ vo.ownBlock ∧ ∀ o ∈ O, k ≠ o.1.p) v2 W2) (hg : w.grownBy w' vw.ownBlock) (hat : v2.ownBlock = vw.ownBlock ∨ ∃ b, v2.ownBlock = some b ∧ w.heap.size ≤ b) :
  Sd w0 (w'.setCell ⟨g, 2, none⟩ v2) (fun k => (F k ∨ w.heap.size ≤ k) ∧ k < w'.heap.size) g wn tr W2 O nx v2 vo := by
 have hw0 := below_size h.bl
 have hbase : ∀ k, vw.ownBlock = some k → w0.heap.size ≤ k := fun k hk => Kd.R_base h.roww k hk
 have hgl := blk_lt h.blk
 have hgw : some g ≠ vw.ownBlock := fun e => (h.roww.1 g e.symm).2.1 rfl
 have hx := (hg.block g hgl hgw).trans h.blk
 have hsz : w'.heap.size ≤ (w'.setCell ⟨g, 2, none⟩ v2).heap.size := ((Below.refl 0 w').setCell (Nat.zero_le g) v2).size
 refine ⟨(pw_below_grown h.bl _ hw0 hg hbase).setCell h.new _, blk_put hx 2 v2 rfl, h.new, fun k hk => Nat.lt_of_lt_of_le hk.2 hsz, ⟨.inl h.fg, blk_lt hx⟩, ?_, ?_, fun o ho => ?_, h.apart⟩
 ·exact Kd.R_mono (Kd.R_far (Kd.R_bound hr) (fun k hk e => hk.1.2.1 e) v2) (fun k hk => ⟨⟨hk.1.1, hk.2.2.1⟩, hk.1.2⟩)
 ·have hb := Kd.R_bound h.rowo
  refine Kd.R_mono (Kd.R_far (Kd.R_grown (Kd.R_mono hb (ok' := fun k => (F k ∧ k ≠ g ∧ some k ≠ vw.ownBlock ∧ ∀ o ∈ O, k ≠ o.1.p) ∧ k < w.heap.size) (fun k hk => ⟨hk.1, hk.2.2.1⟩)) hg (fun k hk => hk.1.2.2.1)) (fun k hk e => hk.1.2.1 e) v2) (fun k hk => ⟨⟨.inl hk.1.1, Nat.lt_of_lt_of_le hk.2 hg.size⟩, hk.1.2.1, fun e => ?_, hk.1.2.2.2⟩)
  rcases hat with e2 | ⟨b, e2, hbl⟩
  ·exact hk.1.2.2.1 (e.trans e2)
  ·have := Option.some.inj (e.trans e2)
   have := hk.2
   omega
 ·obtain ⟨a, b, c, d⟩ := h.cnt o ho
  have hne : some o.1.p ≠ vw.ownBlock := fun e => (h.roww.1 _ e.symm).2.2.2 o ho rfl
  have hd := (hg.block _ (blk_lt d) hne).trans d
  exact ⟨⟨.inl a, blk_lt hd⟩, b, c, (Below.heap_setCell w' ⟨g, 2, none⟩ v2 o.1.p b).trans hd⟩
theorem Sd.pushX (h : Sd w0 w F g wn tr W O nx vw vo) {v2 : Value} (hg : w.grownBy w' vw.ownBlock) (hat : v2.ownBlock = vw.ownBlock ∨ ∃ b, v2.ownBlock = some b ∧ w.heap.size ≤ b) :
  SX w F (Wr g vw vo O) (w'.setCell ⟨g, 2, none⟩ v2) (fun k => (F k ∨ w.heap.size ≤ k) ∧ k < w'.heap.size) (Wr g v2 vo O) := by
 have hsz : w'.heap.size ≤ (w'.setCell ⟨g, 2, none⟩ v2).heap.size := ((Below.refl 0 w').setCell (Nat.zero_le g) v2).size
 refine ⟨Nat.le_trans hg.size hsz, fun k hk hr => ?_, fun k hk => hk.1, fun k hk => ?_⟩
 ·exact (Below.heap_setCell w' ⟨g, 2, none⟩ v2 k (fun e => hr (.inl e))).trans (hg.block k hk (fun e => hr (.inr (.inl e))))
 ·rcases hk with e | e | e | e
  ·exact .inl (.inl e)
  ·rcases hat with e2 | ⟨b, e2, hbl⟩
   ·exact .inl (.inr (.inl (e.trans e2)))
   ·have := Option.some.inj (e.trans e2)
    exact .inr (this ▸ hbl)
  ·exact .inl (.inr (.inr (.inl e)))
  ·exact .inl (.inr (.inr (.inr e)))
end
theorem RO_some {w : World} {base : Nat} {ok : Nat → Prop} {v : Value} {X : List S34} (h : k34.R 34 w base ok v X) : ∃ A m c, v = .slice A m c := by
 obtain ⟨A, c, e, _⟩ := Kd.R_reads h
 exact ⟨A, _, c, e⟩
theorem oneO_C {w : World} {h : Nat} {x : S34} (hv : w.heap[h]? = some (.cells #[.int .i64 x.f0, .int .i64 x.f1, .bool x.f2.f0, .int .i64 x.f2.f1, .int .i64 x.f2.f2, .int .i64 x.f2.f3, .int .i64 x.f2.f4, .int .i64 x.f2.f5, .int .i64 x.f3.f0, .int .i64 x.f3.f1, .int .i64 x.f3.f2, .int .i64 x.f4] 34 (0, 0))) : k34.C w (some ⟨h, 0, none⟩) 1 [x] := by
 refine ⟨rfl, by omega, fun _ => ⟨_, rfl, fun j p hp => ?_⟩⟩
 have hj : j = 0 := by have := (List.getElem?_eq_some_iff.1 hp).1; simpa using this
 subst hj
 obtain rfl : x = p := by simpa using hp
 refine ⟨[.int .i64 x.f0, .int .i64 x.f1, .bool x.f2.f0, .int .i64 x.f2.f1, .int .i64 x.f2.f2, .int .i64 x.f2.f3, .int .i64 x.f2.f4, .int .i64 x.f2.f5, .int .i64 x.f3.f0, .int .i64 x.f3.f1, .int .i64 x.f3.f2, .int .i64 x.f4], rfl, k34_mk w x, fun i u hu => ?_⟩
 rw [show 0 * k34.sz + i = i by omega, add_plain]
 exact (blk_cell hv i).trans (by simpa using hu)
theorem Sd.fresh {w0 w : World} {F : Nat → Prop} {g : Nat} {wn tr nx : Int} {W : List S34} {O : List (It × Int)} {vw vo : Value} (h : Sd w0 w F g wn tr W O nx vw vo) : ∀ k, w.heap.size ≤ k → (F k ∨ w.heap.size ≤ k) ∧ k ≠ g ∧ some k ≠ vo.ownBlock ∧ ∀ o ∈ O, k ≠ o.1.p := fun k hk =>
 ⟨.inr hk, fun e => by have := blk_lt h.blk; omega, fun e => by have := Kd.R_lt h.rowo k e.symm; omega, fun o ho e => by have := blk_lt (h.cnt o ho).2.2.2; omega⟩
def spu.T7 : Bool × List (List Nat × List Nat) := (true, [([], []), ([], []), ([1], [1]), ([2], [2]), ([3], [3]), ([], []), ([5], [5]), ([4, 6], [4, 6]), ([0, 0, 1, 2, 3, 4, 5, 6, 7], [0]), ([8, 0, 1, 2, 3, 4, 5, 6, 7], [8]), ([9, 7, 7, 0, 1, 2, 3, 4, 5, 6, 7], [7, 9])])
def spu.B7 : List Nat := [0, 0, 2, 6, 14, 0, 32, 126, 255, 511, 1023]
theorem spu.tab7 : rtab .any (opsOf Try.f11 7) = spu.T7 := by kernel_rfl
theorem spu.bits7 : waitsOk spu.T7.2 spu.B7 = true := by kernel_rfl
theorem spush_ok {w0 w : World} {F : Nat → Prop} {g : Nat} {wn tr nx : Int} {W : List S34} {O : List (It × Int)} {vw vo : Value} (h : Sd w0 w F g wn tr W O nx vw vo) (hl : W.length < 1024) (K : Nat) (a0 : Int) (a1 : Int) (a2 : Bool) (a3 : Int) (a4 : Int) (a5 : Int) (a6 : Int) (a7 : Int) (a8 : Int) (a9 : Int) (a10 : Int) (a11 : Int) (hk : object_Check.f K a0 a1 a2 a3 a4 a5 a6 a7 a8 a9 a10 a11 = some 0) :
  Calls Try.prog 11 #[.pointer (some ⟨g, 0, none⟩), .agg #[.int .i64 a0, .int .i64 a1, .bool a2, .int .i64 a3, .int .i64 a4, .int .i64 a5, .int .i64 a6, .int .i64 a7, .int .i64 a8, .int .i64 a9, .int .i64 a10, .int .i64 a11]] w fun e w' => e = .returned (.int .i64 0) ∧ ∃ F' v2, Sd w0 w' F' g wn tr (W ++ [⟨a0, a1, ⟨a2, a3, a4, a5, a6, a7⟩, ⟨a8, a9, a10⟩, a11⟩]) O nx v2 vo ∧ SX w F (Wr g vw vo O) w' F' (Wr g v2 vo O) := by
 obtain ⟨A, c, rfl, hlc, hC⟩ := Kd.R_reads h.roww
 have HS := Aside0.mk h
 have HK := Aside0.mk hk
 have HL := Aside0.mk hl
 have q4 : decide ((W.length : Int) ≥ 1024) = false := decide_eq_false (by omega)
 clear h hk hl hlc hC
 go_enter Try.func11, Try.ntmps11
 go_upto_region 7 with (first
  | ((with_reducible refine gate_dst (N := 3) rfl ?_); refine box_event ?hg (N := 3) ?hd (cs := #[.int .i64 a0, .int .i64 a1, .bool a2, .int .i64 a3, .int .i64 a4, .int .i64 a5, .int .i64 a6, .int .i64 a7, .int .i64 a8, .int .i64 a9, .int .i64 a10, .int .i64 a11]) (t := 34) ?hr ?_; (case hd => rfl); (case hg => rfl); (case hr => first | (go_simp; done) | (go_simp; rfl) | rfl | kernel_rfl); intro gb hgb w1 hbox hb; have BX := Aside0.mk hbox; have HS1 := Aside0.mk (HS.out.below hb); have BW1 := Aside0.mk hb; have o0 := (blk_cell BX.out 0).trans rfl; have o1 := (blk_cell BX.out 1).trans rfl; have o2 := (blk_cell BX.out 2).trans rfl; have o3 := (blk_cell BX.out 3).trans rfl; have o4 := (blk_cell BX.out 4).trans rfl; have o5 := (blk_cell BX.out 5).trans rfl; have o6 := (blk_cell BX.out 6).trans rfl; have o7 := (blk_cell BX.out 7).trans rfl; have o8 := (blk_cell BX.out 8).trans rfl; have o9 := (blk_cell BX.out 9).trans rfl; have o10 := (blk_cell BX.out 10).trans rfl; have o11 := (blk_cell BX.out 11).trans rfl; clear hb hbox hgb)
  | (go_at_call 26; (with_reducible refine (object_Check.calls K a0 a1 a2 a3 a4 a5 a6 a7 a8 a9 a10 a11 _ _ HK.out).mono ?_); rintro x_ w2 ⟨rfl, hb⟩; have HS2 := Aside0.mk (HS1.out.below hb); have BW2 := Aside0.mk (below_step BW1.out hb); have BY := Aside0.mk (blk_below BX.out hb); have hx : w2.cell? ⟨g, 2, none⟩ = some (.slice A W.length c) := (blk_cell HS2.out.blk 2).trans rfl; have p0 := (blk_cell BY.out 0).trans rfl; have p1 := (blk_cell BY.out 1).trans rfl; have p2 := (blk_cell BY.out 2).trans rfl; have p3 := (blk_cell BY.out 3).trans rfl; have p4 := (blk_cell BY.out 4).trans rfl; have p5 := (blk_cell BY.out 5).trans rfl; have p6 := (blk_cell BY.out 6).trans rfl; have p7 := (blk_cell BY.out 7).trans rfl; have p8 := (blk_cell BY.out 8).trans rfl; have p9 := (blk_cell BY.out 9).trans rfl; have p10 := (blk_cell BY.out 10).trans rfl; have p11 := (blk_cell BY.out 11).trans rfl; clear hb))
 refine start_ (n := 11) (S := fun w' => w'.cell? ⟨g, 2, none⟩ = some (.slice A W.length c) ∧ w'.cell? ⟨gb, 0, none⟩ = some (.int .i64 a0) ∧ w'.cell? ⟨gb, 1, none⟩ = some (.int .i64 a1) ∧ w'.cell? ⟨gb, 2, none⟩ = some (.bool a2) ∧ w'.cell? ⟨gb, 3, none⟩ = some (.int .i64 a3) ∧ w'.cell? ⟨gb, 4, none⟩ = some (.int .i64 a4) ∧ w'.cell? ⟨gb, 5, none⟩ = some (.int .i64 a5) ∧ w'.cell? ⟨gb, 6, none⟩ = some (.int .i64 a6) ∧ w'.cell? ⟨gb, 7, none⟩ = some (.int .i64 a7) ∧ w'.cell? ⟨gb, 8, none⟩ = some (.int .i64 a8) ∧ w'.cell? ⟨gb, 9, none⟩ = some (.int .i64 a9) ∧ w'.cell? ⟨gb, 10, none⟩ = some (.int .i64 a10) ∧ w'.cell? ⟨gb, 11, none⟩ = some (.int .i64 a11)) (ds := [7, 10]) #[false, false, false, false, false, false, false, false, false, false, false] (by kernel_rfl) rfl rfl ⟨hx, p0, p1, p2, p3, p4, p5, p6, p7, p8, p9, p10, p11⟩ (fun hHeld => ?_); refine with_tabW spu.tab7 spu.bits7 (fun HT_ HW_ => ?_)
 refine pureA (i := 0) (N := some 19) HT_ ?_
 refine pureA (i := 1) (N := some 20) HT_ ?_
 refine pureA (i := 2) (N := some 21) HT_ ?_
 refine pureA (i := 3) (N := some 22) HT_ ?_
 refine takeA (i := 4) (N := some 23) HT_ HW_ hHeld ?_
 refine takeA (i := 5) (N := some 24) HT_ HW_ hHeld ?_
 refine oneA (i := 6) (N := some 25) HT_ (fun K hK => ?_)
 refine lit1_step ?hg (N := 25) ?hd (cs := #[.int .i64 a0, .int .i64 a1, .bool a2, .int .i64 a3, .int .i64 a4, .int .i64 a5, .int .i64 a6, .int .i64 a7, .int .i64 a8, .int .i64 a9, .int .i64 a10, .int .i64 a11]) (t := 34) (n := 1) ?hr ?_
 (case hd => rfl)
 (case hg => rfl)
 (case hr => first | (go_simp; done) | (go_simp; rfl))
 intro gl hgl w5 hbox hb
 have HS5 := Aside0.mk (HS2.out.below (below_step (below_drew (Below.refl _ _)) hb))
 have BW5 := Aside0.mk (below_step BW2.out (below_step (below_drew (Below.refl _ _)) hb))
 have BG := Aside0.mk hbox
 refine hK.out _ _ ⟨(hb.cell (World.block_lt_of_cell? _ _ hHeld.1)).trans hHeld.1, (hb.cell (World.block_lt_of_cell? _ _ hHeld.2.1)).trans hHeld.2.1, (hb.cell (World.block_lt_of_cell? _ _ hHeld.2.2.1)).trans hHeld.2.2.1, (hb.cell (World.block_lt_of_cell? _ _ hHeld.2.2.2.1)).trans hHeld.2.2.2.1, (hb.cell (World.block_lt_of_cell? _ _ hHeld.2.2.2.2.1)).trans hHeld.2.2.2.2.1, (hb.cell (World.block_lt_of_cell? _ _ hHeld.2.2.2.2.2.1)).trans hHeld.2.2.2.2.2.1, (hb.cell (World.block_lt_of_cell? _ _ hHeld.2.2.2.2.2.2.1)).trans hHeld.2.2.2.2.2.2.1, (hb.cell (World.block_lt_of_cell? _ _ hHeld.2.2.2.2.2.2.2.1)).trans hHeld.2.2.2.2.2.2.2.1, (hb.cell (World.block_lt_of_cell? _ _ hHeld.2.2.2.2.2.2.2.2.1)).trans hHeld.2.2.2.2.2.2.2.2.1, (hb.cell (World.block_lt_of_cell? _ _ hHeld.2.2.2.2.2.2.2.2.2.1)).trans hHeld.2.2.2.2.2.2.2.2.2.1, (hb.cell (World.block_lt_of_cell? _ _ hHeld.2.2.2.2.2.2.2.2.2.2.1)).trans hHeld.2.2.2.2.2.2.2.2.2.2.1, (hb.cell (World.block_lt_of_cell? _ _ hHeld.2.2.2.2.2.2.2.2.2.2.2.1)).trans hHeld.2.2.2.2.2.2.2.2.2.2.2.1, (hb.cell (World.block_lt_of_cell? _ _ hHeld.2.2.2.2.2.2.2.2.2.2.2.2)).trans hHeld.2.2.2.2.2.2.2.2.2.2.2.2⟩ (fun hHeld => ?_)
 clear hK K
 refine normA (N := 25) ?_
 refine last_ (i := 7) (N := some 26) #[true, true, true, true, true, true, true, true, false, false, false] rfl rfl (one_of HT_.out (by kernel_rfl)) (by decide) (fun K hK => ?_)
 refine Kd.R_append_rows_step k34 (w0 := w5) w0.heap.size ?hw (.tmp 23) (.tmp 25) 46 34 (.agg #[(.int .i64 0), (.int .i64 0), (.bool false), (.int .i64 0), (.int .i64 0), (.int .i64 0), (.int .i64 0), (.int .i64 0), (.int .i64 0), (.int .i64 0), (.int .i64 0), (.int .i64 0)]) 96 rfl Try.underlying46 info34 rfl (by decide) (by omega) (.slice A W.length c) W [⟨a0, a1, ⟨a2, a3, a4, a5, a6, a7⟩, ⟨a8, a9, a10⟩, a11⟩] _ _ _ (fun k => (F k ∨ w5.heap.size ≤ k) ∧ k ≠ g ∧ some k ≠ vo.ownBlock ∧ ∀ o ∈ O, k ≠ o.1.p) (fun _ => False) rfl rfl ?aO ?aR (fun _ _ h => h) (fun _ h => h.elim) ?aF ?aB ?aS ?aL ?_
 (case hw => rfl)
 (case aR => exact oneO_C (x := ⟨a0, a1, ⟨a2, a3, a4, a5, a6, a7⟩, ⟨a8, a9, a10⟩, a11⟩) BG.out)
 (case aB => exact Below.refl _ _)
 (case aF => exact HS5.out.fresh)
 (case aO => exact Kd.R_mono HS5.out.roww (fun k hk => ⟨.inl hk.1, hk.2⟩))
 (case aS => exact below_size HS5.out.bl)
 (case aL => have := HL.out; omega)
 intro v2 w6 ho hb6 hg6 hat
 have HG := Aside0.mk ((hg6.block g (blk_lt HS5.out.blk) (fun e => (HS5.out.roww.1 g e.symm).2.1 rfl)).trans HS5.out.blk)
 have d3 : w6.cell? ⟨g, 2, none⟩ = some (.slice A W.length c) := (blk_cell HG.out 2).trans rfl
 have df : w6.frozen? ⟨g, 2, none⟩ = false := blk_frozen HG.out 2
 obtain ⟨A8, m8, c8, rfl⟩ := RO_some ho
 have HP := Aside0.mk (HS5.out.push ho hg6 hat)
 have HX := Aside0.mk ((SX.of_below F (Wr g (.slice A W.length c) vo O) BW5.out).trans (HS5.out.pushX hg6 hat))
 clear ho hb6 hg6 hat
 refine hK.out _ _ ?_
 clear hK K
 refine normA (N := 26) ?_
 refine pureA (i := 8) (N := some 27) HT_ ?_
 refine pureA (i := 9) (N := some 28) HT_ ?_
 refine last_ (i := 10) (N := none) #[true, true, true, true, true, true, true, true, true, true, true] rfl rfl (one_of HT_.out (by kernel_rfl)) (by decide) (fun K hK => ?_)
 refine skip_ (w1 := ?_) (by rfl) rfl ?_ ?_
 rotate_left
 ·go_simp
  rfl
 refine hK.out _ _ ?_
 clear hK K
 refine done_ (done_of HT_.out (by kernel_rfl)) ?_
 go_wp2
 go_ret
 exact ⟨rfl, _, _, HP.out, HX.out⟩
theorem spush_bad {w0 w : World} {F : Nat → Prop} {g : Nat} {wn tr nx : Int} {W : List S34} {O : List (It × Int)} {vw vo : Value} (h : Sd w0 w F g wn tr W O nx vw vo) (K : Nat) (a0 : Int) (a1 : Int) (a2 : Bool) (a3 : Int) (a4 : Int) (a5 : Int) (a6 : Int) (a7 : Int) (a8 : Int) (a9 : Int) (a10 : Int) (a11 : Int) (r : Int) (hr : r ≠ 0) (hk : object_Check.f K a0 a1 a2 a3 a4 a5 a6 a7 a8 a9 a10 a11 = some r) :
  Calls Try.prog 11 #[.pointer (some ⟨g, 0, none⟩), .agg #[.int .i64 a0, .int .i64 a1, .bool a2, .int .i64 a3, .int .i64 a4, .int .i64 a5, .int .i64 a6, .int .i64 a7, .int .i64 a8, .int .i64 a9, .int .i64 a10, .int .i64 a11]] w fun e w' => e = .returned (.int .i64 1) ∧ Sd w0 w' F g wn tr W O nx vw vo ∧ Below w.heap.size w w' := by
 obtain ⟨A, c, rfl, hlc, hC⟩ := Kd.R_reads h.roww
 have HS := Aside0.mk h
 have HK := Aside0.mk hk
 have q4 : (r != 0) = true := bne_iff_ne.mpr hr
 clear h hk hlc hC hr
 go_enter Try.func11, Try.ntmps11
 go_wp2_with (first
  | ((with_reducible refine gate_dst (N := 3) rfl ?_); refine box_event ?hg (N := 3) ?hd (cs := #[.int .i64 a0, .int .i64 a1, .bool a2, .int .i64 a3, .int .i64 a4, .int .i64 a5, .int .i64 a6, .int .i64 a7, .int .i64 a8, .int .i64 a9, .int .i64 a10, .int .i64 a11]) (t := 34) ?hr ?_; (case hd => rfl); (case hg => rfl); (case hr => first | (go_simp; done) | (go_simp; rfl) | rfl | kernel_rfl); intro gb hgb w1 hbox hb; have BX := Aside0.mk hbox; have HS1 := Aside0.mk (HS.out.below hb); have BW1 := Aside0.mk hb; have o0 := (blk_cell BX.out 0).trans rfl; have o1 := (blk_cell BX.out 1).trans rfl; have o2 := (blk_cell BX.out 2).trans rfl; have o3 := (blk_cell BX.out 3).trans rfl; have o4 := (blk_cell BX.out 4).trans rfl; have o5 := (blk_cell BX.out 5).trans rfl; have o6 := (blk_cell BX.out 6).trans rfl; have o7 := (blk_cell BX.out 7).trans rfl; have o8 := (blk_cell BX.out 8).trans rfl; have o9 := (blk_cell BX.out 9).trans rfl; have o10 := (blk_cell BX.out 10).trans rfl; have o11 := (blk_cell BX.out 11).trans rfl; clear hb hbox hgb)
  | (go_at_call 26; (with_reducible refine (object_Check.calls K a0 a1 a2 a3 a4 a5 a6 a7 a8 a9 a10 a11 _ _ HK.out).mono ?_); rintro x_ w2 ⟨rfl, hb⟩; have HS2 := Aside0.mk (HS1.out.below hb); have BW2 := Aside0.mk (below_step BW1.out hb); have BY := Aside0.mk (blk_below BX.out hb); have hx : w2.cell? ⟨g, 2, none⟩ = some (.slice A W.length c) := (blk_cell HS2.out.blk 2).trans rfl; have p0 := (blk_cell BY.out 0).trans rfl; have p1 := (blk_cell BY.out 1).trans rfl; have p2 := (blk_cell BY.out 2).trans rfl; have p3 := (blk_cell BY.out 3).trans rfl; have p4 := (blk_cell BY.out 4).trans rfl; have p5 := (blk_cell BY.out 5).trans rfl; have p6 := (blk_cell BY.out 6).trans rfl; have p7 := (blk_cell BY.out 7).trans rfl; have p8 := (blk_cell BY.out 8).trans rfl; have p9 := (blk_cell BY.out 9).trans rfl; have p10 := (blk_cell BY.out 10).trans rfl; have p11 := (blk_cell BY.out 11).trans rfl; clear hb))
 go_ret
 exact ⟨rfl, HS2.out, BW2.out⟩
theorem spush_full {w0 w : World} {F : Nat → Prop} {g : Nat} {wn tr nx : Int} {W : List S34} {O : List (It × Int)} {vw vo : Value} (h : Sd w0 w F g wn tr W O nx vw vo) (hl : ¬ W.length < 1024) (K : Nat) (a0 : Int) (a1 : Int) (a2 : Bool) (a3 : Int) (a4 : Int) (a5 : Int) (a6 : Int) (a7 : Int) (a8 : Int) (a9 : Int) (a10 : Int) (a11 : Int) (hk : object_Check.f K a0 a1 a2 a3 a4 a5 a6 a7 a8 a9 a10 a11 = some 0) :
  Calls Try.prog 11 #[.pointer (some ⟨g, 0, none⟩), .agg #[.int .i64 a0, .int .i64 a1, .bool a2, .int .i64 a3, .int .i64 a4, .int .i64 a5, .int .i64 a6, .int .i64 a7, .int .i64 a8, .int .i64 a9, .int .i64 a10, .int .i64 a11]] w fun e w' => e = .returned (.int .i64 8) ∧ Sd w0 w' F g wn tr W O nx vw vo ∧ Below w.heap.size w w' := by
 obtain ⟨A, c, rfl, hlc, hC⟩ := Kd.R_reads h.roww
 have HS := Aside0.mk h
 have HK := Aside0.mk hk
 have q4 : decide ((W.length : Int) ≥ 1024) = true := decide_eq_true (by omega)
 clear h hk hl hlc hC
 go_enter Try.func11, Try.ntmps11
 go_wp2_with (first
  | ((with_reducible refine gate_dst (N := 3) rfl ?_); refine box_event ?hg (N := 3) ?hd (cs := #[.int .i64 a0, .int .i64 a1, .bool a2, .int .i64 a3, .int .i64 a4, .int .i64 a5, .int .i64 a6, .int .i64 a7, .int .i64 a8, .int .i64 a9, .int .i64 a10, .int .i64 a11]) (t := 34) ?hr ?_; (case hd => rfl); (case hg => rfl); (case hr => first | (go_simp; done) | (go_simp; rfl) | rfl | kernel_rfl); intro gb hgb w1 hbox hb; have BX := Aside0.mk hbox; have HS1 := Aside0.mk (HS.out.below hb); have BW1 := Aside0.mk hb; have o0 := (blk_cell BX.out 0).trans rfl; have o1 := (blk_cell BX.out 1).trans rfl; have o2 := (blk_cell BX.out 2).trans rfl; have o3 := (blk_cell BX.out 3).trans rfl; have o4 := (blk_cell BX.out 4).trans rfl; have o5 := (blk_cell BX.out 5).trans rfl; have o6 := (blk_cell BX.out 6).trans rfl; have o7 := (blk_cell BX.out 7).trans rfl; have o8 := (blk_cell BX.out 8).trans rfl; have o9 := (blk_cell BX.out 9).trans rfl; have o10 := (blk_cell BX.out 10).trans rfl; have o11 := (blk_cell BX.out 11).trans rfl; clear hb hbox hgb)
  | (go_at_call 26; (with_reducible refine (object_Check.calls K a0 a1 a2 a3 a4 a5 a6 a7 a8 a9 a10 a11 _ _ HK.out).mono ?_); rintro x_ w2 ⟨rfl, hb⟩; have HS2 := Aside0.mk (HS1.out.below hb); have BW2 := Aside0.mk (below_step BW1.out hb); have BY := Aside0.mk (blk_below BX.out hb); have hx : w2.cell? ⟨g, 2, none⟩ = some (.slice A W.length c) := (blk_cell HS2.out.blk 2).trans rfl; have p0 := (blk_cell BY.out 0).trans rfl; have p1 := (blk_cell BY.out 1).trans rfl; have p2 := (blk_cell BY.out 2).trans rfl; have p3 := (blk_cell BY.out 3).trans rfl; have p4 := (blk_cell BY.out 4).trans rfl; have p5 := (blk_cell BY.out 5).trans rfl; have p6 := (blk_cell BY.out 6).trans rfl; have p7 := (blk_cell BY.out 7).trans rfl; have p8 := (blk_cell BY.out 8).trans rfl; have p9 := (blk_cell BY.out 9).trans rfl; have p10 := (blk_cell BY.out 10).trans rfl; have p11 := (blk_cell BY.out 11).trans rfl; clear hb))
 go_ret
 exact ⟨rfl, HS2.out, BW2.out⟩
theorem at_ItM {w : World} {base n c : Nat} {ok : Nat → Prop} {A : Option Addr} {xs : List It} (h : kIt.R 73 w base ok (.slice A n c) xs) (i : Int) (h0 : 0 ≤ i) (h1 : i < n) : ∃ ad A1 c1, A = some ad ∧ w.cell? (ad.add (i.toNat * 3)) = some (.int .i64 (rd_It xs i).b.f0) ∧ w.cell? ⟨(ad.add (i.toNat * 3)).block, (ad.add (i.toNat * 3)).off + 1, none⟩ = some (.slice A1 (rd_It xs i).b.f1.length c1) ∧ w.cell? ⟨(ad.add (i.toNat * 3)).block, (ad.add (i.toNat * 3)).off + 2, none⟩ = some (.pointer (some ⟨(rd_It xs i).p, 0, none⟩)) ∧ k34.R 34 w base (fun k => ok k ∧ some k ≠ (Value.slice A n c).ownBlock) (.slice A1 (rd_It xs i).b.f1.length c1) (rd_It xs i).b.f1 := by
 obtain ⟨hn, _, hC⟩ := Kd.R_reads' h
 obtain ⟨ad, A1, c1, e, x0, x1, x2, _, _⟩ := at_It (n := n) (by rw [hn]; exact hC) i h0 h1
 obtain ⟨gq, cap, ev, _, _⟩ := Kd.R_form h (by omega)
 injection ev with ea en ec
 subst ea
 have hR := h
 obtain ⟨cs, _, hM, hcs, _⟩ := Kd.R_elem h zIt i h0 h1
 obtain ⟨v1, rfl, hv⟩ := kIt_openM hM
 cases e
 have h2 : w.cell? ⟨gq, i.toNat * 3 + 1, none⟩ = some v1 := hcs 1 v1 rfl
 have e1 : (⟨gq, 0, none⟩ : Addr).add (i.toNat * 3) = ⟨gq, i.toNat * 3, none⟩ := add_plain gq (i.toNat * 3)
 rw [e1] at x1
 have := Option.some.inj (h2.symm.trans x1)
 subst this
 refine ⟨_, A1, c1, rfl, x0, by rw [e1]; exact x1, x2, Kd.R_mono hv (fun k hk => ⟨hk.1, fun e => hk.2 ?_⟩)⟩
 simpa [Value.ownBlock] using e
theorem at_BM {w : World} {base n c : Nat} {ok : Nat → Prop} {A : Option Addr} {xs : List S48} (h : k48.R 48 w base ok (.slice A n c) xs) (i : Int) (h0 : 0 ≤ i) (h1 : i < n) : ∃ ad A1 c1, A = some ad ∧ w.cell? (ad.add (i.toNat * 2)) = some (.int .i64 (rd_T48 xs i).f0) ∧ w.cell? ⟨(ad.add (i.toNat * 2)).block, (ad.add (i.toNat * 2)).off + 1, none⟩ = some (.slice A1 (rd_T48 xs i).f1.length c1) ∧ k34.R 34 w base (fun k => ok k ∧ some k ≠ (Value.slice A n c).ownBlock) (.slice A1 (rd_T48 xs i).f1.length c1) (rd_T48 xs i).f1 := by
 obtain ⟨hn, _, hC⟩ := Kd.R_reads' h
 obtain ⟨ad, A1, c1, e, x0, x1, _, _⟩ := at_T48 (n := n) (by rw [hn]; exact hC) i h0 h1
 obtain ⟨gq, cap, ev, _, _⟩ := Kd.R_form h (by omega)
 injection ev with ea en ec
 subst ea
 obtain ⟨cs, _, hM, hcs, _⟩ := Kd.R_elem h z48 i h0 h1
 obtain ⟨v1, rfl, hv⟩ := k48_openM hM
 cases e
 have h2 : w.cell? ⟨gq, i.toNat * 2 + 1, none⟩ = some v1 := hcs 1 v1 rfl
 have e1 : (⟨gq, 0, none⟩ : Addr).add (i.toNat * 2) = ⟨gq, i.toNat * 2, none⟩ := add_plain gq (i.toNat * 2)
 rw [e1] at x1
 have := Option.some.inj (h2.symm.trans x1)
 subst this
 refine ⟨_, A1, c1, rfl, x0, by rw [e1]; exact x1, Kd.R_mono hv (fun k hk => ⟨hk.1, fun e => hk.2 ?_⟩)⟩
 simpa [Value.ownBlock] using e
theorem oneB_M {w : World} {base h : Nat} {ok : Nat → Prop} {x : S48} {v1 : Value} (hv : w.heap[h]? = some (.cells #[.int .i64 x.f0, v1] 48 (0, 0))) (hr : k34.R 34 w base ok v1 x.f1) : ReadsRow (k48.M w base ok) k48.sz w (some ⟨h, 0, none⟩) 1 [x] := by
 refine ⟨rfl, by omega, fun _ => ⟨_, rfl, fun j p hp => ?_⟩⟩
 have hj : j = 0 := by have := (List.getElem?_eq_some_iff.1 hp).1; simpa using this
 subst hj
 obtain rfl : x = p := by simpa using hp
 refine ⟨[.int .i64 x.f0, v1], rfl, k48_mkM w base ok x hr, fun i u hu => ?_⟩
 rw [show 0 * k48.sz + i = i by omega, add_plain]
 exact (blk_cell hv i).trans (by simpa using hu)
structure OuS (w0 w wr : World) (ok : Nat → Prop) (X : List S48) (v : Value) : Prop where
 bl : Below w.heap.size w wr
 b0 : Below w0.heap.size w0 wr
 row : k48.R 48 wr w0.heap.size (fun k => w.heap.size ≤ k ∨ ok k) v X
 own : ∀ k, v.ownBlock = some k → w.heap.size ≤ k
theorem OuS.sz {w0 w wr : World} {ok : Nat → Prop} {X : List S48} {v : Value} (h : OuS w0 w wr ok X v) : w.heap.size ≤ wr.heap.size := h.bl.size
theorem OuS.below {w0 w wr w' : World} {ok : Nat → Prop} {X : List S48} {v : Value} (h : OuS w0 w wr ok X v) (hb : Below wr.heap.size wr w') : OuS w0 w w' ok X v := ⟨below_step h.bl hb, below_step h.b0 hb, Kd.R_below h.row hb, h.own⟩
theorem OuS.appended {w0 w wr w' : World} {ok : Nat → Prop} {X X2 : List S48} {v v2 : Value} (h : OuS w0 w wr ok X v) (hw : w0.heap.size ≤ w.heap.size) (hr : k48.R 48 w' w0.heap.size (fun k => w.heap.size ≤ k ∨ ok k) v2 X2) (hb : Below w0.heap.size w0 w') (hg : wr.grownBy w' v.ownBlock) (hat : v2.ownBlock = v.ownBlock ∨ ∃ b, v2.ownBlock = some b ∧ wr.heap.size ≤ b) : OuS w0 w w' ok X2 v2 := by
 refine ⟨pw_below_grown h.bl v.ownBlock h.sz hg (fun k hk => h.own k hk), hb, hr, fun k hk => ?_⟩
 rcases hat with e | ⟨b, e, hbl⟩
 ·exact h.own k (e ▸ hk)
 ·have := Option.some.inj (e.symm.trans hk)
  have := h.sz
  omega
theorem cell_below' {w w1 : World} {a : Addr} {v : Value} (hb : Below w.heap.size w w1) (h : w.cell? a = some v) : w1.cell? a = some v := (hb.cell (World.block_lt_of_cell? _ _ h)).trans h
theorem it_rd {xs : List It} (i : Nat) (h : i < xs.length) : rd_It xs (i : Int) = xs[i] := by
 unfold rd_It
 rw [Int.toNat_natCast, List.getD_eq_getElem?_getD, List.getElem?_eq_getElem h]
 rfl
theorem sout_s {w0 w : World} {F : Nat → Prop} {g : Nat} {wn tr nx : Int} {W : List S34} {O : List (It × Int)} {vw vo : Value} (h : Sd w0 w F g wn tr W O nx vw vo) (hl : O.length ≤ 1000000) :
  Calls Try.prog 15 #[.pointer (some ⟨g, 0, none⟩)] w fun e w' => ∃ v, e = .returned v ∧ OuS w0 w w' (fun k => F k ∧ ¬ Wr g vw vo O k) ((O.map Prod.fst).map It.b) v := by
 obtain ⟨xs, hxs⟩ : ∃ xs, xs = O.map Prod.fst := ⟨_, rfl⟩
 obtain ⟨ok, hok⟩ : ∃ ok, ok = (fun k => F k ∧ ¬ Wr g vw vo O k) := ⟨_, rfl⟩
 obtain ⟨A, c, rfl, hlc, _⟩ := Kd.R_reads h.rowo
 have hrow := h.rowo
 rw [← hxs] at hrow
 rw [← hok, ← hxs]
 obtain ⟨n, hn⟩ : ∃ n, n = xs.length := ⟨_, rfl⟩
 have hx : w.cell? ⟨g, 3, none⟩ = some (.slice A n c) := by rw [hn, hxs]; exact (blk_cell h.blk 3).trans rfl
 have HR := Aside0.mk (Kd.R_mono hrow (ok' := fun k => F k ∧ k ≠ g ∧ some k ≠ vw.ownBlock ∧ ∀ o ∈ O, k ≠ o.1.p) (fun _ h => h))
 have HL := Aside0.mk (show xs.length ≤ 1000000 by rw [hxs, List.length_map]; exact hl)
 have HOK := Aside0.mk (show ∀ k, ok k → k < w.heap.size from fun k hk => by rw [hok] at hk; exact h.lt k hk.1)
 have HW0 := Aside0.mk (below_size h.bl)
 have HOW := Aside0.mk (show ∀ k, (F k ∧ k ≠ g ∧ some k ≠ vw.ownBlock ∧ ∀ o ∈ O, k ≠ o.1.p) ∧ some k ≠ (Value.slice A (O.map Prod.fst).length c).ownBlock → ok k from fun k hk => by
  rw [hok]
  refine ⟨hk.1.1, ?_⟩
  rintro (e | e | e | ⟨o, ho, e⟩)
  ·exact hk.1.2.1 e
  ·exact hk.1.2.2.1 e
  ·exact hk.2 e
  ·exact hk.1.2.2.2 o ho e)
 have S0 := Aside0.mk (show OuS w0 w w ok ((xs.take 0).map It.b) (.slice none 0 0) from ⟨Below.refl _ _, h.bl, Kd.R_nil _ _ _ _ _, fun k hk => by simp [Value.ownBlock] at hk⟩)
 have HN := Aside0.mk hn
 rw [← hxs, ← hn] at HOW
 rw [← hn] at HR
 clear h hl hrow hxs hok hn hlc
 go_enter Try.func15, Try.ntmps15
 go_wp2
 go_loopg [3, 13] n (fun kq v3' v13 wr => ∃ (x : Int) (v3 : Value), v13 = .int .i64 x ∧ v3 = v3' ∧ Aside0 (0 ≤ x) ∧ Aside0 (x + kq = n) ∧ Aside0 (OuS w0 w wr ok ((xs.take x.toNat).map It.b) v3))
 case atStart => exact ⟨0, _, rfl, rfl, ⟨by omega⟩, ⟨by omega⟩, S0⟩
 case round =>
  clear S0
  obtain ⟨x, v3, rfl, rfl, H0, HI, SS⟩ := hrel
  cases gk with
  | zero =>
   have hnl : decide (x < (n : Int)) = false := decide_eq_false (by have := HI.out; omega)
   go_wp2
   go_ret
   have hq : xs.take x.toNat = xs := List.take_of_length_le (by have := HI.out; have := HN.out; omega)
   rw [hq] at SS
   exact ⟨_, rfl, SS.out⟩
  | succ k1 =>
   have hlt := (show x < (n : Int) by have := HI.out; omega)
   have h0 := H0.out
   have hd : decide (x < (n : Int)) = true := decide_eq_true hlt
   have hb0 : x < 9223372036854775807 := by have := HL.out; have := HN.out; omega
   have hw : wrap64 (x + 1) = x + 1 := w64 (by omega) (by omega)
   have hxl : x.toNat < xs.length := by have := HN.out; omega
   have hrx : rd_It xs x = xs[x.toNat] := by rw [← it_rd x.toNat hxl]; congr 1; omega
   obtain ⟨ad, A1, c1, e_, y0, y1, y2, hi1⟩ := at_ItM HR.out x h0 hlt
   cases e_
   have HI1 := Aside0.mk (Kd.R_mono hi1 (fun k hk => HOW.out k hk))
   have hx0 := cell_below' SS.out.bl y0
   have hx1 := cell_below' SS.out.bl y1
   have hx2 := cell_below' SS.out.bl y2
   have HKE := Aside0.mk (show (xs.take x.toNat).map It.b ++ [(rd_It xs x).b] = (xs.take (x.toNat + 1)).map It.b by rw [hrx, List.take_succ_eq_append_getElem hxl, List.map_append]; rfl)
   have h0t := eq_true h0
   have hltt := eq_true hlt
   clear hrx y0 y1 y2 hi1 hxl
   go_wp2_with (first
    | ((with_reducible refine gate_dst (N := 5) rfl ?_); refine box_event ?hg (N := 5) ?hd (cs := #[.int .i64 0, .slice none 0 0, .pointer none]) (t := 73) ?hr ?_; (case hd => rfl); (case hg => rfl); (case hr => first | (go_simp; done) | (go_simp; rfl)); intro gt hg w3 hbox hb; have S3 := Aside0.mk (SS.out.below (show Below wr.heap.size wr (((w3.setCell ⟨gt, 0, none⟩ (.int .i64 (rd_It xs x).b.f0)).setCell ⟨gt, 1, none⟩ (.slice A1 (rd_It xs x).b.f1.length c1)).setCell ⟨gt, 2, none⟩ (.pointer (some ⟨(rd_It xs x).p, 0, none⟩))) from below_set (below_set (below_set hb (Nat.le_of_eq hg.symm)) (Nat.le_of_eq hg.symm)) (Nat.le_of_eq hg.symm))); have BT := Aside0.mk (blk_put (blk_put (blk_put hbox 0 (.int .i64 (rd_It xs x).b.f0) (cs' := #[.int .i64 (rd_It xs x).b.f0, .slice none 0 0, .pointer none]) rfl) 1 (.slice A1 (rd_It xs x).b.f1.length c1) (cs' := #[.int .i64 (rd_It xs x).b.f0, .slice A1 (rd_It xs x).b.f1.length c1, .pointer none]) rfl) 2 (.pointer (some ⟨(rd_It xs x).p, 0, none⟩)) (cs' := #[.int .i64 (rd_It xs x).b.f0, .slice A1 (rd_It xs x).b.f1.length c1, .pointer (some ⟨(rd_It xs x).p, 0, none⟩)]) rfl); have a0 := (blk_cell hbox 0).trans rfl; have a1 := (blk_cell hbox 1).trans rfl; have a2 := (blk_cell hbox 2).trans rfl; have af0 := blk_frozen hbox 0; have af1 := blk_frozen hbox 1; have af2 := blk_frozen hbox 2; have b0 := (blk_cell BT.out 0).trans rfl; have b1 := (blk_cell BT.out 1).trans rfl; clear hb hbox hg)
    | ((with_reducible refine gate_dst (N := 20) rfl ?_); refine lit1_event ?hg (N := 20) ?hd (cs := #[.int .i64 (rd_It xs x).b.f0, .slice A1 (rd_It xs x).b.f1.length c1]) (t := 48) (n := 1) ?hr ?_; (case hd => rfl); (case hg => rfl); (case hr => first | (go_simp; done) | (go_simp; rfl)); intro gl hg w5 hbox hb; have S5 := Aside0.mk (S3.out.below hb); have BL := Aside0.mk hbox; clear hb hbox hg)
    | ((with_reducible refine gate_builtin (b := .append) (xs := #[.tmp 17, .tmp 20]) rfl ?_); at_builtin; refine Kd.R_append_rows k48 (w0 := w0) w0.heap.size rfl (.tmp 17) (.tmp 20) 28 48 (.agg #[(.int .i64 0), (.slice none 0 0)]) 32 rfl Try.underlying28 info48 rfl (by decide) (by omega) v3 ((xs.take x.toNat).map It.b) [(rd_It xs x).b] _ _ _ (fun k => w.heap.size ≤ k ∨ ok k) ok rfl rfl ?aO ?aR (fun _ _ h => h) ?aP ?aF ?aB ?aS ?aL ?_; (case aR => exact oneB_M BL.out (Kd.R_below HI1.out S5.out.bl)); (case aB => exact S5.out.b0); (case aF => exact (fun k hk => .inl (Nat.le_trans S5.out.sz hk))); (case aP => exact (fun k hk => ⟨.inr hk, fun e => by have := S5.out.own k e.symm; have := HOK.out k hk; omega⟩)); (case aO => exact S5.out.row); (case aS => exact below_size S5.out.b0); (case aL => have := HL.out; rw [List.length_map, List.length_take]; omega); intro v2 w6 ho hb hg hat; rw [HKE.out] at ho; have SE := Aside0.mk (S5.out.appended HW0.out ho hb hg hat); clear ho hb hg hat))
   go_roundg k1
   case measure => have := HI.out; omega
   case rel => exact ⟨x + 1, _, by first | rfl | simp [hw], rfl, ⟨by omega⟩, ⟨by have := HI.out; omega⟩, ⟨by rw [show (x + 1).toNat = x.toNat + 1 by omega]; exact SE.out⟩⟩
section
variable {w0 w w' : World} {F F1 : Nat → Prop} {g : Nat} {wn tr nx : Int} {W : List S34} {O : List (It × Int)} {vw vo : Value}
theorem Sd.more (h : Sd w0 w F g wn tr W O nx vw vo) (hF : ∀ k, F k → F1 k) (hlt : ∀ k, F1 k → k < w.heap.size) : Sd w0 w F1 g wn tr W O nx vw vo :=
 ⟨h.bl, h.blk, h.new, hlt, hF g h.fg, Kd.R_mono h.roww (fun k hk => ⟨hF k hk.1, hk.2⟩), Kd.R_mono h.rowo (fun k hk => ⟨hF k hk.1, hk.2⟩), fun o ho => ⟨hF _ (h.cnt o ho).1, (h.cnt o ho).2⟩, h.apart⟩
theorem Sd.grown (h : Sd w0 w F g wn tr W O nx vw vo) {row : Option Nat} (hg : w.grownBy w' row) (hr : ∀ k, row = some k → w0.heap.size ≤ k ∧ ¬ F k) : Sd w0 w' F g wn tr W O nx vw vo :=
 h.keep (fun k hk => hg.block k (h.lt k hk) (fun e => (hr k e.symm).2 hk)) hg.size (pw_below_grown h.bl row (below_size h.bl) hg (fun k hk => (hr k hk).1))
theorem set_size (w : World) (a : Addr) (v : Value) : w.heap.size ≤ (w.setCell a v).heap.size := ((Below.refl 0 w).setCell (Nat.zero_le a.block) v).size
theorem Sd.setN (h : Sd w0 w F g wn tr W O nx vw vo) (n2 : Int) : Sd w0 (w.setCell ⟨g, 4, none⟩ (.int .i64 n2)) F g wn tr W O n2 vw vo :=
 ⟨h.bl.setCell h.new _, blk_put h.blk 4 _ rfl, h.new, fun k hk => Nat.lt_of_lt_of_le (h.lt k hk) (set_size _ _ _), h.fg, Kd.R_far (p := ⟨g, 4, none⟩) h.roww (fun k hk e => hk.2.1 e) _, Kd.R_far (p := ⟨g, 4, none⟩) h.rowo (fun k hk e => hk.2.1 e) _, fun o ho => ⟨(h.cnt o ho).1, (h.cnt o ho).2.1, (h.cnt o ho).2.2.1, (Below.heap_setCell w ⟨g, 4, none⟩ _ _ (h.cnt o ho).2.1).trans (h.cnt o ho).2.2.2⟩, h.apart⟩
theorem SX.set (w : World) (F R : Nat → Prop) {g : Nat} (i : Nat) (v : Value) (hR : R g) : SX w F R (w.setCell ⟨g, i, none⟩ v) F R := ⟨set_size _ _ _, fun k _ hk => Below.heap_setCell w ⟨g, i, none⟩ v k (fun e => hk (e ▸ hR)), fun _ h => .inl h, fun _ h => .inl h⟩
theorem Sd.setW (h : Sd w0 w F g wn tr W O nx vw vo) {N : Nat → Prop} {v2 : Value} {W2 : List S34} (hN : ∀ k, N k → ¬ F k ∧ k < w.heap.size) (hr : k34.R 34 w w0.heap.size N v2 W2) :
  Sd w0 (w.setCell ⟨g, 2, none⟩ v2) (fun k => F k ∨ N k) g wn tr W2 O nx v2 vo := by
 refine ⟨h.bl.setCell h.new _, blk_put h.blk 2 v2 rfl, h.new, fun k hk => ?_, .inl h.fg, ?_, ?_, fun o ho => ?_, h.apart⟩
 ·rcases hk with hk | hk
  ·exact Nat.lt_of_lt_of_le (h.lt k hk) (set_size _ _ _)
  ·exact Nat.lt_of_lt_of_le (hN k hk).2 (set_size _ _ _)
 ·refine Kd.R_mono (Kd.R_far (p := ⟨g, 2, none⟩) hr (fun k hk e => (hN k hk).1 (by have : k = g := e; subst this; exact h.fg)) _) (fun k hk => ⟨.inr hk, fun e => (hN k hk).1 (e ▸ h.fg), fun e => (hN k hk).1 (h.rowo.1 k e.symm).1, fun o ho e => (hN k hk).1 (e ▸ (h.cnt o ho).1)⟩)
 ·exact Kd.R_mono (Kd.R_far (p := ⟨g, 2, none⟩) h.rowo (fun k hk e => hk.2.1 e) _) (fun k hk => ⟨.inl hk.1, hk.2.1, fun e => (hN k (hr.1 k e.symm)).1 hk.1, hk.2.2.2⟩)
 ·exact ⟨.inl (h.cnt o ho).1, (h.cnt o ho).2.1, (h.cnt o ho).2.2.1, (Below.heap_setCell w ⟨g, 2, none⟩ _ _ (h.cnt o ho).2.1).trans (h.cnt o ho).2.2.2⟩
theorem Sd.put (h : Sd w0 w F g wn tr W O nx vw vo) {v2 : Value} {x : It} {n : Int} (hp : w.heap[x.p]? = some (.cells #[.int .i32 n] 71 (0, 0))) (hpF : ¬ F x.p) (hp0 : w0.heap.size ≤ x.p)
  (hr : kIt.R 73 w' w0.heap.size (fun k => (F k ∨ w.heap.size ≤ k) ∧ k ≠ g ∧ some k ≠ vw.ownBlock ∧ ∀ o ∈ O, k ≠ o.1.p) v2 (O.map Prod.fst ++ [x])) (hg : w.grownBy w' vo.ownBlock) (hat : v2.ownBlock = vo.ownBlock ∨ ∃ b, v2.ownBlock = some b ∧ w.heap.size ≤ b) :
  Sd w0 (w'.setCell ⟨g, 3, none⟩ v2) (fun k => (F k ∨ k = x.p ∨ w.heap.size ≤ k) ∧ k < w'.heap.size) g wn tr W (O ++ [(x, n)]) nx vw v2 := by
 have hw0 := below_size h.bl
 have hbase : ∀ k, vo.ownBlock = some k → w0.heap.size ≤ k := fun k hk => Kd.R_base h.rowo k hk
 have hgl := blk_lt h.blk
 have hgw : some g ≠ vo.ownBlock := fun e => (h.rowo.1 g e.symm).2.1 rfl
 have hx := (hg.block g hgl hgw).trans h.blk
 have hpl := blk_lt hp
 have hpg : x.p ≠ g := fun e => hpF (e ▸ h.fg)
 have hpo : some x.p ≠ vo.ownBlock := fun e => hpF (h.rowo.1 _ e.symm).1
 have hsz : w'.heap.size ≤ (w'.setCell ⟨g, 3, none⟩ v2).heap.size := set_size _ _ _
 refine ⟨(pw_below_grown h.bl _ hw0 hg hbase).setCell h.new _, blk_put hx 3 v2 rfl, h.new, fun k hk => Nat.lt_of_lt_of_le hk.2 hsz, ⟨.inl h.fg, blk_lt hx⟩, ?_, ?_, fun o ho => ?_, ?_⟩
 ·have hb := Kd.R_bound h.roww
  refine Kd.R_mono (Kd.R_far (p := ⟨g, 3, none⟩) (Kd.R_grown (Kd.R_mono hb (ok' := fun k => (F k ∧ k ≠ g ∧ some k ≠ vo.ownBlock ∧ ∀ o ∈ O, k ≠ o.1.p) ∧ k < w.heap.size) (fun k hk => ⟨hk.1, hk.2.2.1⟩)) hg (fun k hk => hk.1.2.2.1)) (fun k hk e => hk.1.2.1 e) v2) (fun k hk => ⟨⟨.inl hk.1.1, Nat.lt_of_lt_of_le hk.2 hg.size⟩, hk.1.2.1, fun e => ?_, fun o ho => ?_⟩)
  ·rcases hat with e2 | ⟨b, e2, hbl⟩
   ·exact hk.1.2.2.1 (e.trans e2)
   ·have := Option.some.inj (e.trans e2)
    have := hk.2
    omega
  ·rcases List.mem_append.1 ho with ho | ho
   ·exact hk.1.2.2.2 o ho
   ·rw [List.mem_singleton.1 ho]
    exact fun e => hpF (e ▸ hk.1.1)
 ·rw [List.map_append, List.map_singleton]
  refine Kd.R_mono (Kd.R_far (p := ⟨g, 3, none⟩) (Kd.R_bound hr) (fun k hk e => hk.1.2.1 e) v2) (fun k hk => ⟨⟨?_, hk.2.2.1⟩, hk.1.2.1, hk.1.2.2.1, fun o ho => ?_⟩)
  ·rcases hk.1.1 with e | e
   ·exact .inl e
   ·exact .inr (.inr e)
  ·rcases List.mem_append.1 ho with ho | ho
   ·exact hk.1.2.2.2 o ho
   ·rw [List.mem_singleton.1 ho]
    rintro rfl
    rcases hk.1.1 with e | e
    ·exact hpF e
    ·have e2 : w.heap.size ≤ x.p := e
     omega
 ·rcases List.mem_append.1 ho with ho | ho
  ·obtain ⟨a, b, c, d⟩ := h.cnt o ho
   have hne : some o.1.p ≠ vo.ownBlock := fun e => (h.rowo.1 _ e.symm).2.2.2 o ho rfl
   have hd := (hg.block _ (blk_lt d) hne).trans d
   exact ⟨⟨.inl a, blk_lt hd⟩, b, c, (Below.heap_setCell w' ⟨g, 3, none⟩ v2 o.1.p b).trans hd⟩
  ·rw [List.mem_singleton.1 ho]
   have hd := (hg.block _ hpl hpo).trans hp
   exact ⟨⟨.inr (.inl rfl), blk_lt hd⟩, hpg, hp0, (Below.heap_setCell w' ⟨g, 3, none⟩ v2 x.p hpg).trans hd⟩
 ·refine List.pairwise_append.2 ⟨h.apart, List.pairwise_singleton _ _, fun a ha b hb e => ?_⟩
  rw [List.mem_singleton.1 hb] at e
  exact hpF (e ▸ (h.cnt a ha).1)
theorem Sd.putX (h : Sd w0 w F g wn tr W O nx vw vo) {v2 : Value} {x : It} {n : Int} {m : Nat} (hm : m ≤ x.p) (hmw : m ≤ w.heap.size) (hg : w.grownBy w' vo.ownBlock) (hat : v2.ownBlock = vo.ownBlock ∨ ∃ b, v2.ownBlock = some b ∧ w.heap.size ≤ b) {wm : World} {Fm Rm : Nat → Prop} (hs : SX wm Fm Rm w F (Wr g vw vo O)) (he : m = wm.heap.size) :
  SX wm Fm Rm (w'.setCell ⟨g, 3, none⟩ v2) (fun k => (F k ∨ k = x.p ∨ w.heap.size ≤ k) ∧ k < w'.heap.size) (Wr g vw v2 (O ++ [(x, n)])) := by
 subst he
 refine ⟨Nat.le_trans hs.sz (Nat.le_trans hg.size (set_size _ _ _)), fun k hk hr => ?_, fun k hk => ?_, fun k hk => ?_⟩
 ·have hn : ¬ Wr g vw vo O k := fun e => by
   rcases hs.wr k e with e | e
   ·exact hr e
   ·omega
  exact ((Below.heap_setCell w' ⟨g, 3, none⟩ v2 k (fun e => hn (.inl e))).trans (hg.block k (Nat.lt_of_lt_of_le hk hs.sz) (fun e => hn (.inr (.inr (.inl e)))))).trans (hs.fr k hk hr)
 ·rcases hk.1 with e | e | e
  ·exact hs.fp k e
  ·exact .inr (by omega)
  ·exact .inr (by omega)
 ·rcases hk with e | e | e | ⟨o, ho, e⟩
  ·exact hs.wr k (.inl e)
  ·exact hs.wr k (.inr (.inl e))
  ·rcases hat with e2 | ⟨b, e2, hbl⟩
   ·exact hs.wr k (.inr (.inr (.inl (e.trans e2))))
   ·have := Option.some.inj (e.trans e2)
    exact .inr (by omega)
  ·rcases List.mem_append.1 ho with ho | ho
   ·exact hs.wr k (.inr (.inr (.inr ⟨o, ho, e⟩)))
   ·rw [List.mem_singleton.1 ho] at e
    exact .inr (by rw [e]; exact hm)
end
theorem oneIt_M {w : World} {base h : Nat} {ok : Nat → Prop} {x : It} {v1 : Value} (hv : w.heap[h]? = some (.cells #[.int .i64 x.b.f0, v1, .pointer (some ⟨x.p, 0, none⟩)] 73 (0, 0))) (hr : k34.R 34 w base ok v1 x.b.f1) : ReadsRow (kIt.M w base ok) kIt.sz w (some ⟨h, 0, none⟩) 1 [x] := by
 refine ⟨rfl, by omega, fun _ => ⟨_, rfl, fun j p hp => ?_⟩⟩
 have hj : j = 0 := by have := (List.getElem?_eq_some_iff.1 hp).1; simpa using this
 subst hj
 obtain rfl : x = p := by simpa using hp
 refine ⟨[.int .i64 x.b.f0, v1, .pointer (some ⟨x.p, 0, none⟩)], rfl, kIt_mkM w base ok x hr, fun i u hu => ?_⟩
 rw [show 0 * kIt.sz + i = i by omega, add_plain]
 exact (blk_cell hv i).trans (by simpa using hu)
theorem info73 : (Try.prog.info? 73).map (fun i => (i.zero, i.size, i.bytes)) = some (some (.agg #[(.int .i64 0), (.slice none 0 0), (.pointer none)]), 3, 40) := by kernel_rfl
structure SeX (w0 w w1 : World) (F : Nat → Prop) (g : Nat) (wn tr : Int) (W : List S34) (O : List (It × Int)) (vw vo : Value) (wr : World) (F' : Nat → Prop) (O2 : List (It × Int)) (nx2 : Int) (vo2 : Value) (X : List S48) (v6 : Value) : Prop where
 sd : Sd w0 wr F' g wn tr W O2 nx2 vw vo2
 sx : SX w1 (fun k => F k ∨ (w.heap.size ≤ k ∧ k < w1.heap.size)) (Wr g vw vo O) wr F' (Wr g vw vo2 O2)
 sub : ∀ k, (F k ∨ (w.heap.size ≤ k ∧ k < w1.heap.size)) → F' k
 out : k48.R 48 wr w0.heap.size (fun k => w.heap.size ≤ k) v6 X
 own : ∀ k, v6.ownBlock = some k → w1.heap.size ≤ k ∧ ¬ F' k
structure SeF (w0 w w1 : World) (R : Nat → Prop) : Prop where
 h0 : w0.heap.size ≤ w.heap.size
 h1 : w.heap.size ≤ w1.heap.size
 lt : ∀ k, R k → k < w.heap.size
section
variable {w0 w w1 wr w' wc : World} {F F' : Nat → Prop} {g : Nat} {wn tr nx2 : Int} {W W2 : List S34} {O O2 : List (It × Int)} {vw vo vo2 v6 v2 v3 va : Value} {B X X2 : List S48}
theorem SeX.notW (hf : SeF w0 w w1 (Wr g vw vo O)) (h : SeX w0 w w1 F g wn tr W O vw vo wr F' O2 nx2 vo2 X v6) : ∀ k, (w.heap.size ≤ k ∧ k < w1.heap.size) → F' k ∧ ¬ Wr g vw vo2 O2 k := fun k hk => ⟨h.sub k (.inr hk), fun hR => by
 rcases h.sx.wr k hR with e | e
 ·have := hf.lt k e; omega
 ·omega⟩
theorem SeX.below (h : SeX w0 w w1 F g wn tr W O vw vo wr F' O2 nx2 vo2 X v6) (hb : Below wr.heap.size wr w') : SeX w0 w w1 F g wn tr W O vw vo w' F' O2 nx2 vo2 X v6 :=
 ⟨h.sd.below hb, h.sx.below hb, h.sub, Kd.R_below h.out hb, h.own⟩
theorem SeX.drew (h : SeX w0 w w1 F g wn tr W O vw vo wr F' O2 nx2 vo2 X v6) : SeX w0 w w1 F g wn tr W O vw vo wr.drew F' O2 nx2 vo2 X v6 := h.below (below_drew (Below.refl _ _))
theorem SeX.outp (hf : SeF w0 w w1 (Wr g vw vo O)) (h : SeX w0 w w1 F g wn tr W O vw vo wr F' O2 nx2 vo2 X v6) (hr : k48.R 48 w' w0.heap.size (fun k => w.heap.size ≤ k) v2 X2) (hg : wr.grownBy w' v6.ownBlock) (hat : v2.ownBlock = v6.ownBlock ∨ ∃ b, v2.ownBlock = some b ∧ wr.heap.size ≤ b) :
  SeX w0 w w1 F g wn tr W O vw vo w' F' O2 nx2 vo2 X2 v2 := by
 have h01 := hf.h0
 have h12 := hf.h1
 refine ⟨h.sd.grown hg (fun k hk => ⟨by have := (h.own k hk).1; omega, (h.own k hk).2⟩), ⟨Nat.le_trans h.sx.sz hg.size, fun k hk hR => ?_, h.sx.fp, h.sx.wr⟩, h.sub, hr, fun k hk => ?_⟩
 ·exact (hg.block k (Nat.lt_of_lt_of_le hk h.sx.sz) (fun e => by have := (h.own k e.symm).1; omega)).trans (h.sx.fr k hk hR)
 ·rcases hat with e | ⟨b, e, hbl⟩
  ·exact h.own k (e ▸ hk)
  ·obtain rfl := Option.some.inj (e.symm.trans hk)
   exact ⟨Nat.le_trans h.sx.sz hbl, fun hF => by have := h.sd.lt _ hF; omega⟩
theorem SeX.setp (hf : SeF w0 w w1 (Wr g vw vo O)) (h : SeX w0 w w1 F g wn tr W O vw vo wr F' O2 nx2 vo2 X v6) {p : Nat} {cs : Array Value} (hp : wr.heap[p]? = some (.cells cs 71 (0, 0))) (hpF : ¬ F' p) (hp1 : w1.heap.size ≤ p) (j : Nat) (u : Value) :
  SeX w0 w w1 F g wn tr W O vw vo (wr.setCell ⟨p, j, none⟩ u) F' O2 nx2 vo2 X v6 := by
 have h01 := hf.h0
 have h12 := hf.h1
 refine ⟨h.sd.keep (fun k hk => Below.heap_setCell wr ⟨p, j, none⟩ u k (fun e => hpF (by have e2 : k = p := e; exact e2 ▸ hk))) (set_size _ _ _) (below_set h.sd.bl (by omega)), ⟨Nat.le_trans h.sx.sz (set_size _ _ _), fun k hk hR => ?_, h.sx.fp, h.sx.wr⟩, h.sub, Kd.R_set h.out hp (by decide) j u, h.own⟩
 exact (Below.heap_setCell wr ⟨p, j, none⟩ u k (fun e => by have e2 : k = p := e; omega)).trans (h.sx.fr k hk hR)
theorem SeX.put (hf : SeF w0 w w1 (Wr g vw vo O)) (h : SeX w0 w w1 F g wn tr W O vw vo wr F' O2 nx2 vo2 X v6) {x : It} {n : Int} (hp : wr.heap[x.p]? = some (.cells #[.int .i32 n] 71 (0, 0))) (hpF : ¬ F' x.p) (hp1 : w1.heap.size ≤ x.p)
  (hr : kIt.R 73 w' w0.heap.size (fun k => (F' k ∨ wr.heap.size ≤ k) ∧ k ≠ g ∧ some k ≠ vw.ownBlock ∧ ∀ o ∈ O2, k ≠ o.1.p) v2 (O2.map Prod.fst ++ [x])) (hg : wr.grownBy w' vo2.ownBlock) (hat : v2.ownBlock = vo2.ownBlock ∨ ∃ b, v2.ownBlock = some b ∧ wr.heap.size ≤ b) :
  SeX w0 w w1 F g wn tr W O vw vo (w'.setCell ⟨g, 3, none⟩ v2) (fun k => (F' k ∨ k = x.p ∨ wr.heap.size ≤ k) ∧ k < w'.heap.size) (O2 ++ [(x, n)]) nx2 v2 X v6 := by
 have h01 := hf.h0
 have h12 := hf.h1
 have hsz := h.sx.sz
 have hgl : some g ≠ vo2.ownBlock := fun e => (h.sd.rowo.1 g e.symm).2.1 rfl
 have hx := (hg.block g (blk_lt h.sd.blk) hgl).trans h.sd.blk
 refine ⟨h.sd.put hp hpF (by omega) hr hg hat, h.sd.putX (m := w1.heap.size) hp1 hsz hg hat h.sx rfl, fun k hk => ⟨.inl (h.sub k hk), Nat.lt_of_lt_of_le (h.sd.lt k (h.sub k hk)) hg.size⟩, Kd.R_set (Kd.R_over' h.out (Kd.R_typed h.sd.rowo) (by decide) hg) hx (by decide) 3 v2, fun k hk => ⟨(h.own k hk).1, fun hF => ?_⟩⟩
 have hkl := Kd.R_lt h.out k hk
 rcases hF.1 with e | e | e
 ·exact (h.own k hk).2 e
 ·obtain ⟨cells, hc⟩ := Kd.R_typed h.out k hk
  rw [e, hp] at hc
  simp at hc
 ·omega
theorem SeX.setN (h : SeX w0 w w1 F g wn tr W O vw vo wr F' O2 nx2 vo2 X v6) (n2 : Int) : SeX w0 w w1 F g wn tr W O vw vo (wr.setCell ⟨g, 4, none⟩ (.int .i64 n2)) F' O2 n2 vo2 X v6 :=
 ⟨h.sd.setN n2, h.sx.trans (SX.set wr F' _ 4 _ (.inl rfl)), h.sub, Kd.R_set h.out h.sd.blk (by decide) 4 _, h.own⟩
theorem SeX.fin (hf : SeF w0 w w1 (Wr g vw vo O)) (hF : ∀ k, F k → k < w.heap.size) (hw : ∀ k, vw.ownBlock = some k → F k) (h : SeX w0 w w1 F g wn tr W O vw vo wr F' O2 nx2 vo2 X v6) (hb : Below wr.heap.size wr wc) (hr : k34.R 34 wc wr.heap.size (fun _ => True) v3 W2) (h1 : Below w.heap.size w w1) :
  ∃ F'', Sd w0 (wc.setCell ⟨g, 2, none⟩ v3) F'' g wn tr W2 O2 nx2 v3 vo2 ∧ SX w F (Wr g vw vo O) (wc.setCell ⟨g, 2, none⟩ v3) F'' (Wr g v3 vo2 O2) ∧ k48.R 48 (wc.setCell ⟨g, 2, none⟩ v3) w0.heap.size (fun k => w.heap.size ≤ k ∧ ¬ Wr g v3 vo2 O2 k) v6 X ∧ ∀ k, v6.ownBlock = some k → w.heap.size ≤ k ∧ ¬ F'' k := by
 have h01 := hf.h0
 have h12 := hf.h1
 have hsz := h.sx.sz
 have hc := h.below hb
 have hN : ∀ k, (wr.heap.size ≤ k ∧ k < wc.heap.size) → ¬ F' k ∧ k < wc.heap.size := fun k hk => ⟨fun e => by have := h.sd.lt k e; omega, hk.2⟩
 have hr' : k34.R 34 wc w0.heap.size (fun k => wr.heap.size ≤ k ∧ k < wc.heap.size) v3 W2 := Kd.R_lower (Kd.R_mono (Kd.R_bound hr) (fun k hk => ⟨hk.2.1, hk.2.2.1⟩)) (below_size h.sd.bl)
 have h3 : ∀ k, v3.ownBlock = some k → wr.heap.size ≤ k := fun k hk => (hr'.1 k hk).1
 refine ⟨_, hc.sd.setW hN hr', ?_, ?_, fun k hk => ⟨by have := (h.own k hk).1; omega, fun e => ?_⟩⟩
 ·have s0 : SX w F (Wr g vw vo O) w1 (fun k => F k ∨ (w.heap.size ≤ k ∧ k < w1.heap.size)) (Wr g vw vo O) := ⟨h1.size, fun k hk _ => h1.block k hk, fun k hk => hk.imp id (fun e => e.1), fun k hk => .inl hk⟩
  refine s0.trans (h.sx.trans ⟨Nat.le_trans hb.size (set_size _ _ _), fun k hk hR => (Below.heap_setCell wc ⟨g, 2, none⟩ v3 k (fun e => hR (.inl e))).trans (hb.block k hk), fun k hk => hk.imp id (fun e => e.1), fun k hk => ?_⟩)
  rcases hk with e | e | e | e
  ·exact .inl (.inl e)
  ·exact .inr (h3 k e.symm)
  ·exact .inl (.inr (.inr (.inl e)))
  ·exact .inl (.inr (.inr (.inr e)))
 ·have hb0 : k48.R 48 wr w0.heap.size (fun k => w.heap.size ≤ k ∧ ¬ Wr g v3 vo2 O2 k) v6 X := by
   refine Kd.R_mono (Kd.R_bound h.out) (fun k hk => ⟨hk.1, ?_⟩)
   obtain ⟨_, _, hlt, q, hq, cells, hcell⟩ := hk
   have q1 : ∀ q ∈ 48 :: k48.E, q ≠ 63 := by decide
   have q2 : ∀ q ∈ 48 :: k48.E, q ≠ 73 := by decide
   have q3 : ∀ q ∈ 48 :: k48.E, q ≠ 71 := by decide
   rintro (e | e | e | ⟨o, ho, e⟩)
   ·rw [e, h.sd.blk] at hcell
    simp at hcell
    exact q1 q hq hcell.2.symm
   ·have := h3 k e.symm
    omega
   ·obtain ⟨c2, hc2⟩ := Kd.R_typed h.sd.rowo k e.symm
    rw [hc2] at hcell
    simp at hcell
    exact q2 q hq hcell.2.symm
   ·rw [e, (h.sd.cnt o ho).2.2.2] at hcell
    simp at hcell
    exact q3 q hq hcell.2.symm
  exact Kd.R_far (p := ⟨g, 2, none⟩) (Kd.R_below hb0 hb) (fun k hk e => hk.2 (.inl e)) _
 ·rcases e with e | e
  ·exact (h.own k hk).2 e
  ·have := Kd.R_lt h.out k hk
   omega
theorem SeX.inn (hf : SeF w0 w w1 (Wr g vw vo O)) (h : SeX w0 w w1 F g wn tr W O vw vo wr F' O2 nx2 vo2 X v6) {v : Value} {Y : List S34} (ha : k34.R 34 w1 w0.heap.size (fun k => w.heap.size ≤ k ∧ k < w1.heap.size) v Y) : k34.R 34 wr w0.heap.size (fun k => w.heap.size ≤ k ∧ k < w1.heap.size) v Y :=
 Kd.R_step ha (fun k hk _ => h.sx.fr k hk.2 (fun hR => by have := hf.lt k hR; omega))
theorem SeX.at {A : Option Addr} {n c : Nat} (hf : SeF w0 w w1 (Wr g vw vo O)) (h : SeX w0 w w1 F g wn tr W O vw vo wr F' O2 nx2 vo2 X v6) (ha : k48.R 48 w1 w0.heap.size (fun k => w.heap.size ≤ k ∧ k < w1.heap.size) (.slice A n c) B) (i : Int) (h0 : 0 ≤ i) (h1 : i < n) :
  ∃ ad A1 c1, A = some ad ∧ wr.cell? (ad.add (i.toNat * 2)) = some (.int .i64 (rd_T48 B i).f0) ∧ wr.cell? ⟨(ad.add (i.toNat * 2)).block, (ad.add (i.toNat * 2)).off + 1, none⟩ = some (.slice A1 (rd_T48 B i).f1.length c1) ∧ k34.R 34 w1 w0.heap.size (fun k => w.heap.size ≤ k ∧ k < w1.heap.size) (.slice A1 (rd_T48 B i).f1.length c1) (rd_T48 B i).f1 := by
 obtain ⟨ad, A1, c1, rfl, x0, x1, hi⟩ := at_BM ha i h0 h1
 have hn := (Kd.R_reads' ha).1
 obtain ⟨gq, cap, ev, _, _⟩ := Kd.R_form ha (by omega)
 injection ev with ea en ec
 cases ea
 have hP := ha.1 gq (by simp [Value.ownBlock])
 have hh : wr.heap[gq]? = w1.heap[gq]? := h.sx.fr gq hP.2 (fun hR => by have := hf.lt gq hR; omega)
 have e1 : (⟨gq, 0, none⟩ : Addr).add (i.toNat * 2) = ⟨gq, i.toNat * 2, none⟩ := add_plain gq (i.toNat * 2)
 rw [e1] at x0 x1
 exact ⟨_, A1, c1, rfl, by rw [e1]; exact (World.cell?_of_block hh).trans x0, by rw [e1]; exact (World.cell?_of_block hh).trans x1, Kd.R_mono hi (fun k hk => hk.1)⟩
theorem SeX.szw (hf : SeF w0 w w1 (Wr g vw vo O)) (h : SeX w0 w w1 F g wn tr W O vw vo wr F' O2 nx2 vo2 X v6) : w.heap.size ≤ wr.heap.size := Nat.le_trans hf.h1 h.sx.sz
end
theorem Sd.freshO {w0 w : World} {F : Nat → Prop} {g : Nat} {wn tr nx : Int} {W : List S34} {O : List (It × Int)} {vw vo : Value} (h : Sd w0 w F g wn tr W O nx vw vo) : ∀ k, w.heap.size ≤ k → (F k ∨ w.heap.size ≤ k) ∧ k ≠ g ∧ some k ≠ vw.ownBlock ∧ ∀ o ∈ O, k ≠ o.1.p := fun k hk =>
 ⟨.inr hk, fun e => by have := blk_lt h.blk; omega, fun e => by have := Kd.R_lt h.roww k e.symm; omega, fun o ho e => by have := blk_lt (h.cnt o ho).2.2.2; omega⟩
def wire_bytes.f (v n : Int) : Option (List Int) := if 0 ≤ v ∧ 1 ≤ n ∧ n ≤ 8 then some (be n.toNat v) else none
theorem store_any (g : Nat) (u : Value) (v : Int) (w : World) (hb : w.heap[g]? = some (.cells #[u] 120 (0, 0))) :
  Calls Try.prog 75 #[.pointer (some ⟨g, 0, none⟩), .int .u64 v] w fun e w' => e = .returned (.tuple #[]) ∧ w.setCell ⟨g, 0, none⟩ (.int .u64 v) = w' := by
 have hc : w.cell? ⟨g, 0, none⟩ = some u := by rw [blk_cell hb]; rfl
 have hz : w.frozen? ⟨g, 0, none⟩ = false := blk_frozen hb 0
 have hst := fun y => run_call_store (P := Try.prog) Try.func77 (by kernel_rfl) (by kernel_rfl) (by kernel_rfl) (by kernel_rfl) (k := .u64) (y := y) hc hz
 clear hb
 go_enter Try.func75, Try.ntmps75
 go_wp2
 go_end0
 exact ⟨rfl, rfl⟩
theorem low_any (g : Nat) (v : Int) (w : World) (h0 : 0 ≤ v) (hb : w.heap[g]? = some (.cells #[.int .u64 v] 120 (0, 0))) :
  Calls Try.prog 76 #[.pointer (some ⟨g, 0, none⟩)] w fun e w' => e = .returned (.int .u8 (v % 256)) ∧ w.setCell ⟨g, 0, none⟩ (.int .u64 (v / 256)) = w' := by
 have hc : w.cell? ⟨g, 0, none⟩ = some (.int .u64 v) := by rw [blk_cell hb]; rfl
 have hz : w.frozen? ⟨g, 0, none⟩ = false := blk_frozen hb 0
 have hld := run_call_load (P := Try.prog) Try.func79 (by kernel_rfl) (by kernel_rfl) (by kernel_rfl) .u64 (by kernel_rfl) hc
 have hst := fun y => run_call_store (P := Try.prog) Try.func77 (by kernel_rfl) (by kernel_rfl) (by kernel_rfl) (by kernel_rfl) (k := .u64) (y := y) hc hz
 clear hb
 go_enter Try.func76, Try.ntmps76
 go_wp2
 go_end0
 go_wp2
 go_ret
 exact ⟨rfl, rfl⟩
theorem wire_bytes.calls (a0 : Int) (a1 : Int) (r : List Int) (w : World) (h : wire_bytes.f a0 a1 = some r) :
  Calls Try.prog 73 #[.int .u64 a0, .int .i64 a1] w fun e w' => ∃ v0_ : Value, e = .returned (v0_) ∧ Kd.R (Kd.int .u8) 5 w' w.heap.size (fun _ => True) v0_ r ∧ Below w.heap.size w w' := by
 have hh : (0 ≤ a0 ∧ 1 ≤ a1 ∧ a1 ≤ 8) ∧ be a1.toNat a0 = r := by
  unfold wire_bytes.f at h
  split at h
  ·rename_i hc
   exact ⟨hc, Option.some.inj h⟩
  ·exact absurd h (by simp)
 clear h
 obtain ⟨⟨h0, h1, h2⟩, rfl⟩ := hh
 obtain ⟨n, rfl⟩ := Int.eq_ofNat_of_zero_le (show 0 ≤ a1 by omega)
 have hp : 0 < n := by omega
 have h2' : n ≤ 8 := by omega
 clear h1 h2
 simp only [Int.toNat_natCast]
 have H0 := Aside0.mk h0
 clear h0
 have hn0 : (0 : Int) ≤ (n : Int) := by omega
 have hn1 : (n : Int) ≤ 8 := by omega
 go_enter Try.func73, Try.ntmps73
 go_wp2_with (((with_reducible refine gate_dst (N := 9) rfl ?_); refine box_event ?hg (N := 9) ?hd (cs := #[.int .u64 0]) (t := 120) ?hr ?_; (case hd => rfl); (case hg => rfl); (case hr => first | (go_simp; done) | (go_simp; rfl)); intro gb hgb w1 hbox hb1; have HBX := Aside0.mk hbox; have HB := Aside0.mk (Below.trans (Below.refl w.heap.size w) hb1); have HG := Aside0.mk (show w.heap.size ≤ gb by rw [hgb]; exact Nat.le_refl _); clear hbox hb1 hgb))
 refine (store_any gb _ a0 _ HBX.out).mono ?_
 rintro e w2 ⟨rfl, hw2⟩
 have HBX2 := Aside0.mk (show w2.heap[gb]? = some (.cells #[.int .u64 a0] 120 (0, 0)) by rw [← hw2]; exact blk_put HBX.out 0 _ rfl)
 have HB2 := Aside0.mk (show Below w.heap.size w w2 by rw [← hw2]; exact below_set HB.out HG.out)
 clear hw2 HBX HB
 go_wp2_with (((with_reducible refine gate_dst (N := 16) rfl ?_); refine Kd.R_make (Kd.int .u8) _ 5 rfl (N := 16) rfl 107 _ _ rfl (n : Int) rfl rfl Try.underlying107 (.int .u8 0) 1 info5 rfl (by decide) (by omega) 0 (ok := fun k => k ≠ gb) (okp := fun _ => False) rfl (fun _ hk => hk.elim) (fun he => absurd (blk_lt HBX2.out) (by rw [← he]; exact Nat.lt_irrefl _)) (by omega) (by simp only [Int.toNat_natCast]; omega) (Below.refl _ _) (Nat.le_refl _) ?_; intro v3 w3 ho hb3 hg3 hnew; clear hnew; simp only [Int.toNat_natCast] at ho; obtain ⟨gs, cs, hv3, hgs, hls, hcs⟩ := Kd.R_form ho (by rw [List.length_replicate]; exact hp); rw [List.length_replicate] at hv3; clear hls hcs; rw [hv3] at ho ⊢; clear hv3; have HO := Aside0.mk (Kd.R_lower ho HB2.out.size); have HBX3 := Aside0.mk (blk_grown HBX2.out hg3 (by simp)); have HB3 := Aside0.mk (below_step HB2.out hb3); have HGS := Aside0.mk (Nat.le_trans HB2.out.size hgs); have HNE := Aside0.mk (show gs ≠ gb from ho.1 gs (by simp [Value.ownBlock])); clear ho hb3 hgs hg3 HBX2 HB2))
 go_loopg [19] n (fun kq v19 wr => ∃ (i : Nat), v19 = .int .i64 i ∧ Aside0 (i + kq = n) ∧ Aside0 (Kd.R (Kd.int .u8) 5 wr w.heap.size (fun k => k ≠ gb) (.slice (some ⟨gs, 0, none⟩) n cs) (List.replicate (n - i) 0 ++ be i a0)) ∧ Aside0 (wr.heap[gb]? = some (.cells #[.int .u64 (a0 / 256 ^ i)] 120 (0, 0))) ∧ Aside0 (Below w.heap.size w wr))
 case atStart => exact ⟨0, rfl, ⟨by omega⟩, ⟨by simpa [be] using HO.out⟩, ⟨by simpa using HBX3.out⟩, HB3⟩
 case round =>
  clear HO HBX3 HB3
  obtain ⟨i, rfl, HI, HO, HBX, HB⟩ := hrel
  cases gk with
  | zero =>
   have hi : i = n := by have := HI.out; omega
   subst hi
   go_wp2
   go_ret
   refine ⟨_, rfl, ?_, HB.out⟩
   have h := HO.out
   rw [Nat.sub_self, List.replicate_zero, List.nil_append] at h
   exact Kd.R_mono h (fun _ _ => trivial)
  | succ k1 =>
   have hlt : i < n := by have := HI.out; omega
   have hi0 : (0 : Int) ≤ (n : Int) - 1 - (i : Int) := by omega
   have hi1 : (n : Int) - 1 - (i : Int) < (n : Int) := by omega
   have hs1 : (0 : Int) ≤ (n : Int) - 1 := by omega
   have hb0 : (0 : Int) ≤ (i : Int) := by omega
   have HA0 := Aside0.mk (show 0 ≤ a0 / 256 ^ i from Int.ediv_nonneg H0.out (by exact Int.pow_nonneg (by decide)))
   go_wp2_with (go_at_call 76; (refine (low_any gb (a0 / 256 ^ i) _ HA0.out HBX.out).mono ?_); rintro e w4 ⟨rfl, hw4⟩; have HBX4 := Aside0.mk (show w4.heap[gb]? = some (.cells #[.int .u64 (a0 / 256 ^ i / 256)] 120 (0, 0)) by rw [← hw4]; exact blk_put HBX.out 0 _ rfl); have HB4 := Aside0.mk (show Below w.heap.size w w4 by rw [← hw4]; exact below_set HB.out HG.out); have HO4 := Aside0.mk (show Kd.R (Kd.int .u8) 5 w4 w.heap.size (fun k => k ≠ gb) (.slice (some ⟨gs, 0, none⟩) n cs) (List.replicate (n - i) 0 ++ be i a0) by rw [← hw4]; exact Kd.R_far HO.out (fun _ hk => hk) _); clear hw4; obtain ⟨hx4, hf4⟩ := Kd.R_celln 0 HO4.out ((n - 1 - i : Nat) : Int) (by omega) (by omega); simp only [Int.toNat_natCast] at hx4 hf4)
   go_roundg k1
   case measure => omega
   case rel =>
    have hp4 := (Kd.R_putg HO4.out ((n - 1 - i : Nat) : Int) (a0 / 256 ^ i % 256)).1
    simp only [Int.toNat_natCast] at hp4
    refine ⟨i + 1, by simp, ⟨by have := HI.out; omega⟩, ⟨?_⟩, ⟨?_⟩, ⟨below_set HB4.out HGS.out⟩⟩
    ·rw [show n - i = (n - 1 - i) + 1 by omega, be_set, show n - 1 - i = n - (i + 1) by omega] at hp4
     rw [be_cons, show n - 1 - i = n - (i + 1) by omega]
     exact hp4
    ·rw [Int.pow_succ, ← Int.ediv_ediv_of_nonneg (Int.pow_nonneg (by decide))]
     exact blk_far HBX4.out (fun e => HNE.out e.symm) _
end Go.Proofs.Ytclbempnhelmoaa.P
