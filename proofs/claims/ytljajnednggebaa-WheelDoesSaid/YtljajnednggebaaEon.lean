/- Layer 11: sync.Once in one goroutine: (*Wheel).times, the first time and later. -/
import Derived.Test.YtljajnednggebaaP0
import Derived.Tactics2
import Derived.Defers
import Derived.Laws.Pointers
import Derived.Laws.LoneSync
import Derived.RegionTactic
import Derived.RegionCalls
import Derived.ChangeAlike
import Derived.Laws.NewBlocks
import Derived.Carry
import Derived.Maps.Own
import Derived.Maps.OwnOps
import Derived.Maps.OwnSet
namespace Go.Proofs.Ytljajnednggebaa.P
set_option linter.unusedSimpArgs false
set_option linter.unusedVariables false
open Go.RowKit Go.Maps Go.Proofs.YtljajnednggebaaW.PrintWords Go.Proofs.YtljajnednggebaaW.PrintLast Go.Proofs.YtljajnednggebaaW.PrintMore
theorem on_disable (w : World) : (callFunc 49 #[]).run Try.prog w = .ok (.value (.tuple #[])) w := run_call_mark0 Try.func49 (by kernel_rfl) (by kernel_rfl) (by kernel_rfl) .disable (by kernel_rfl) w
theorem on_enable (w : World) : (callFunc 51 #[]).run Try.prog w = .ok (.value (.tuple #[])) w := run_call_mark0 Try.func51 (by kernel_rfl) (by kernel_rfl) (by kernel_rfl) .enable (by kernel_rfl) w
theorem on_acquire (a : Addr) (w : World) : (callFunc 52 #[.pointer (some a)]).run Try.prog w = .ok (.value (.tuple #[])) w := run_call_marked Try.func52 (by kernel_rfl) (by kernel_rfl) (by kernel_rfl) .acquire (by kernel_rfl) a w
theorem on_releaseMerge (a : Addr) (w : World) : (callFunc 54 #[.pointer (some a)]).run Try.prog w = .ok (.value (.tuple #[])) w := run_call_marked Try.func54 (by kernel_rfl) (by kernel_rfl) (by kernel_rfl) .releaseMerge (by kernel_rfl) a w
theorem on_store_deferred (a : Addr) (x : Value) (u : FrameMode) (w : World) (hc : w.cell? a = some x) (hz : w.frozen? a = false) :
    CallsD Try.prog 43 #[.pointer (some a), .bool true] u w fun e u' w' => u' = u ∧ (e = .returned (.tuple #[]) ∧ w' = w.drew.setCell a (.int .u32 1)) := by
  have hc' : w.drew.cell? a = some x := by go_simp
  have hz' : w.drew.frozen? a = false := by go_simp
  have hst := run_call_store (P := Try.prog) Try.func47 (by kernel_rfl) (by kernel_rfl) (by kernel_rfl) (by kernel_rfl) (k := .u32) (y := 1) hc' hz'
  go_enter_d Try.func43, Try.ntmps43
  go_wp2
  go_region_calls
  all_goals (go_end0; exact ⟨rfl, rfl⟩)
theorem on_unlock_deferred (a : Addr) (u : FrameMode) (w : World) (hc : w.cell? a = some (.int .i32 1)) (hz : w.frozen? a = false) :
    CallsD Try.prog 42 #[.pointer (some a)] u w fun e u' w' => u' = u ∧ (e = .returned (.tuple #[]) ∧ w' = w.setCell a (.int .i32 0)) := by
  have hd := on_disable
  have he := on_enable
  have hr := on_releaseMerge
  have hadd := run_call_add (P := Try.prog) Try.func55 (by kernel_rfl) (by kernel_rfl) (by kernel_rfl) .i32 (by kernel_rfl) (y := -1) (s := 0) hc hz (by simp [go_sem]; rfl)
  have hcv := run_convert_to_unsafe (P := Try.prog) (src := 85) (dst := 89) Try.underlying85 Try.underlying89 (by kernel_rfl) hc
  go_enter_d Try.func42, Try.ntmps42
  go_wp2
  go_end0
  go_wp2
  go_end0
  exact ⟨rfl, rfl⟩
theorem on_lock_free (a : Addr) (w : World) (hc : w.cell? a = some (.int .i32 0)) (hz : w.frozen? a = false) :
    Calls Try.prog 41 #[.pointer (some a)] w fun e w' => e = .returned (.tuple #[]) ∧ w' = w.setCell a (.int .i32 1) := by
  have hd := on_disable
  have he := on_enable
  have ha := on_acquire
  have hcas := run_call_cas_hit (P := Try.prog) Try.func50 (by kernel_rfl) (by kernel_rfl) (by kernel_rfl) .i32 (by kernel_rfl) (y := 1) hc hz
  have hc' : (w.setCell a (.int .i32 1)).cell? a = some (.int .i32 1) := World.cell?_setCell_same w a _ hc
  have hcv := run_convert_to_unsafe (P := Try.prog) (src := 85) (dst := 89) Try.underlying85 Try.underlying89 (by kernel_rfl) hc'
  go_enter Try.func41, Try.ntmps41
  go_wp2
  first | go_end0 | (simp only [Exit.inBlock, Exit.then]; refine bodyPost_ret (results_none rfl _ _ _) rfl ?_) | refine bodyPost_ret (results_none rfl _ _ _) rfl ?_
  go_wp2
  go_end0
  exact ⟨rfl, rfl⟩
/-- a wheel in memory: the Once's word, the lock's two, the row, the map -/
abbrev WhC (d : Int) (v m : Value) : Array Value := #[.int .u32 d, .int .i32 0, .int .u32 0, v, m]
set_option maxRecDepth 100000 in
set_option maxHeartbeats 1600000 in
theorem on_made (g : Nat) (pl : Addr) (x : Value) (w : World) (hp : w.cell? pl = some (.pointer (some ⟨g, 0, none⟩))) (hlt : g < w.heap.size) (h4 : w.cell? ⟨g, 4, none⟩ = some x) (f4 : w.frozen? ⟨g, 4, none⟩ = false) :
    Calls Try.prog 30 #[.pointer (some pl)] w fun e w' => e = .returned (.tuple #[]) ∧ w' = (w.setCell ⟨g, 4, none⟩ (.map (some w.heap.size))).alloc (.map #[] 0) := by
  have hmm := @run_makeMap Try.prog
  have a4 : (w.alloc (.map #[] 0)).cell? ⟨g, 4, none⟩ = some x := by rw [World.cell?_alloc_past _ _ _ hlt]; exact h4
  have z4 : (w.alloc (.map #[] 0)).frozen? ⟨g, 4, none⟩ = false := by rw [World.frozen?_alloc_past _ _ _ hlt]; exact f4
  go_enter Try.func30, Try.ntmps30
  go_wp2
  go_end0
  exact ⟨rfl, rfl⟩
set_option maxRecDepth 100000 in
set_option maxHeartbeats 1600000 in
theorem on_slow (g : Nat) (pl : Addr) (v m : Value) (w : World) (hp : w.cell? pl = some (.pointer (some ⟨g, 0, none⟩))) (hpb : ¬ g = pl.block) (hh : w.heap[g]? = some (.cells (WhC 0 v m) 63 (0, 0))) :
    Calls Try.prog 37 #[.pointer (some ⟨g, 0, none⟩), .func (.func 30) #[] #[.pointer (some pl)]] w fun e w' => e = .returned (.tuple #[]) ∧
      ∃ gm, w.heap.size ≤ gm ∧ w'.heap[g]? = some (.cells (WhC 1 v (.map (some gm))) 63 (0, 0)) ∧ w'.heap[gm]? = some (.map #[] 0) ∧ w.grownBy w' (some g) := by
  have hlt := blk_lt hh
  have c0 : w.cell? ⟨g, 0, none⟩ = some (.int .u32 0) := blk_cell hh 0
  have c1 : w.cell? ⟨g, 1, none⟩ = some (.int .i32 0) := blk_cell hh 1
  have f0 := blk_frozen hh 0
  have f1 := blk_frozen hh 1
  have B1 : (w.setCell ⟨g, 1, none⟩ (.int .i32 1)).heap[g]? = some (.cells #[.int .u32 0, .int .i32 1, .int .u32 0, v, m] 63 (0, 0)) := blk_put hh 1 _ rfl
  have e1 : (w.setCell ⟨g, 1, none⟩ (.int .i32 1)).heap.size = w.heap.size := by simp
  obtain ⟨w1, hw1⟩ : ∃ w1, w1 = w.setCell ⟨g, 1, none⟩ (.int .i32 1) := ⟨_, rfl⟩
  have G1 : w.grownBy w1 (some g) := by rw [hw1]; exact ⟨rfl, rfl, rfl, by simp, fun q _ hq => Below.heap_setCell w ⟨g, 1, none⟩ _ q (fun e => hq (by rw [e]))⟩
  have hp1 : w1.cell? pl = some (.pointer (some ⟨g, 0, none⟩)) := by rw [hw1]; exact (World.cell?_setCell_other _ ⟨g, 1, none⟩ pl _ (fun h => hpb (by rw [← h]))).trans hp
  rw [← hw1] at B1 e1
  have hl := run_call_load (P := Try.prog) Try.func40 (by kernel_rfl) (by kernel_rfl) (by kernel_rfl) .u32 (by kernel_rfl) (w := w1) (a := ⟨g, 0, none⟩) (x := 0) (blk_cell B1 0)
  have hlt1 : g < w1.heap.size := by rw [e1]; exact hlt
  have B2 : ((w1.setCell ⟨g, 4, none⟩ (.map (some w1.heap.size))).alloc (.map #[] 0)).heap[g]? = some (.cells #[.int .u32 0, .int .i32 1, .int .u32 0, v, .map (some w1.heap.size)] 63 (0, 0)) := blk_alloc (blk_put B1 4 _ rfl) _
  have es : (w1.setCell ⟨g, 4, none⟩ (.map (some w1.heap.size))).heap.size = w1.heap.size := by simp
  have M2 : ((w1.setCell ⟨g, 4, none⟩ (.map (some w1.heap.size))).alloc (.map #[] 0)).heap[w1.heap.size]? = some (.map #[] 0) := by have := blk_new (w1.setCell ⟨g, 4, none⟩ (.map (some w1.heap.size))) (.map #[] 0); rwa [es] at this
  have G2 : w1.grownBy ((w1.setCell ⟨g, 4, none⟩ (.map (some w1.heap.size))).alloc (.map #[] 0)) (some g) := ⟨rfl, rfl, rfl, by simp, fun q hq hne => (heap_alloc_old _ _ (by rw [es]; exact hq)).trans (Below.heap_setCell _ ⟨g, 4, none⟩ _ q (fun e => hne (by rw [e])))⟩
  obtain ⟨w2, hw2⟩ : ∃ w2, w2 = (w1.setCell ⟨g, 4, none⟩ (.map (some w1.heap.size))).alloc (.map #[] 0) := ⟨_, rfl⟩
  have K1 := Aside0.mk (And.intro B1 (And.intro hp1 hlt1))
  rw [← hw2] at B2 M2 G2
  have K2 := Aside0.mk (And.intro B2 (And.intro M2 (And.intro (G1.trans G2) (show w.heap.size ≤ w1.heap.size by omega))))
  have HW1 := Aside0.mk hw1
  have HW2 := Aside0.mk hw2
  have hnot : ∀ (x : Bool) (w : World), (Op.unary .not (.bool x)).run Try.prog w = .ok (.bool (!x)) w := fun _ _ => rfl
  clear B1 B2 M2 G1 G2 es hp1 hlt1 hh e1 hw1 hw2 hlt hp
  go_enter_defers Try.func37, Try.ntmps37
  go_wp2_with (first
    | (go_at_call 41; refine (on_lock_free ⟨g, 1, none⟩ _ c1 f1).mono ?_; rintro e w' ⟨rfl, rfl⟩; rw [← HW1.out])
    | (go_at_call 36; go_in)
    | (go_at_call 30; refine (on_made g pl _ _ K1.out.2.1 K1.out.2.2 (blk_cell K1.out.1 4) (blk_frozen K1.out.1 4)).mono ?_; rintro e w' ⟨rfl, rfl⟩; rw [← HW2.out]))
  refine leaves_cons (f := 43) (args := #[.pointer (some ⟨g, 0, none⟩), .bool true]) (by simp) (by simp [go_sem]) ?_
  refine (on_store_deferred ⟨g, 0, none⟩ (.int .u32 0) .returning _ (blk_cell K2.out.1 0) (blk_frozen K2.out.1 0)).mono ?_
  rintro e u' w'' ⟨rfl, rfl, rfl⟩
  have B3 : (w2.drew.setCell ⟨g, 0, none⟩ (.int .u32 1)).heap[g]? = some (.cells #[.int .u32 1, .int .i32 1, .int .u32 0, v, .map (some w1.heap.size)] 63 (0, 0)) := blk_put (w := w2.drew) K2.out.1 0 _ rfl
  refine leaves_cons (f := 42) (args := #[.pointer (some ⟨g, 1, none⟩)]) (by simp [settle]) (by simp [go_sem]) ?_
  refine (on_unlock_deferred ⟨g, 1, none⟩ _ _ (blk_cell B3 1) (blk_frozen B3 1)).mono ?_
  rintro e u' w'' ⟨rfl, rfl, rfl⟩
  have hfin : ∃ gm, w.heap.size ≤ gm ∧ ((w2.drew.setCell ⟨g, 0, none⟩ (.int .u32 1)).setCell ⟨g, 1, none⟩ (.int .i32 0)).heap[g]? = some (.cells (WhC 1 v (.map (some gm))) 63 (0, 0)) ∧ ((w2.drew.setCell ⟨g, 0, none⟩ (.int .u32 1)).setCell ⟨g, 1, none⟩ (.int .i32 0)).heap[gm]? = some (.map #[] 0) ∧ w.grownBy ((w2.drew.setCell ⟨g, 0, none⟩ (.int .u32 1)).setCell ⟨g, 1, none⟩ (.int .i32 0)) (some g) := by
    have hne : w1.heap.size ≠ g := fun e => by have := K1.out.2.2; omega
    refine ⟨w1.heap.size, K2.out.2.2.2, blk_put B3 1 _ rfl, ?_, ?_⟩
    · rw [Below.heap_setCell _ _ _ _ hne, Below.heap_setCell _ _ _ _ hne]; exact K2.out.2.1
    · have G := K2.out.2.2.1
      exact ⟨G.os, G.tape, G.output, by simpa using G.size, fun q hq hn => by rw [Below.heap_setCell _ _ _ _ (fun e => hn (by rw [e])), Below.heap_setCell _ _ _ _ (fun e => hn (by rw [e]))]; exact G.block q hq hn⟩
  simpa [Leaves, settle, results, Try.results37] using hfin
set_option maxRecDepth 100000 in
set_option maxHeartbeats 1600000 in
theorem on_do0 (g : Nat) (pl : Addr) (v m : Value) (w : World) (hp : w.cell? pl = some (.pointer (some ⟨g, 0, none⟩))) (hpb : ¬ g = pl.block) (hh : w.heap[g]? = some (.cells (WhC 0 v m) 63 (0, 0))) :
    Calls Try.prog 29 #[.pointer (some ⟨g, 0, none⟩), .func (.func 30) #[] #[.pointer (some pl)]] w fun e w' => e = .returned (.tuple #[]) ∧
      ∃ gm, w.heap.size ≤ gm ∧ w'.heap[g]? = some (.cells (WhC 1 v (.map (some gm))) 63 (0, 0)) ∧ w'.heap[gm]? = some (.map #[] 0) ∧ w.grownBy w' (some g) := by
  have hl := run_call_load (P := Try.prog) Try.func40 (by kernel_rfl) (by kernel_rfl) (by kernel_rfl) .u32 (by kernel_rfl) (w := w) (a := ⟨g, 0, none⟩) (x := 0) (blk_cell hh 0)
  have hnot : ∀ (x : Bool) (w : World), (Op.unary .not (.bool x)).run Try.prog w = .ok (.bool (!x)) w := fun _ _ => rfl
  have HH := Aside0.mk hh
  have HP := Aside0.mk hp
  have HB := Aside0.mk hpb
  clear hh hp hpb
  go_enter Try.func29, Try.ntmps29
  go_wp2_with (first
    | (go_at_call 37; refine (on_slow g pl v m _ HP.out HB.out HH.out).mono ?_; rintro e w' ⟨rfl, hq⟩; have HQ := Aside0.mk hq; clear hq)
    | (go_at_call 36; go_in))
  go_end0
  exact ⟨rfl, HQ.out⟩
set_option maxRecDepth 100000 in
set_option maxHeartbeats 1600000 in
theorem on_do1 (g : Nat) (fv v m : Value) (w : World) (hh : w.heap[g]? = some (.cells (WhC 1 v m) 63 (0, 0))) :
    Calls Try.prog 29 #[.pointer (some ⟨g, 0, none⟩), fv] w fun e w' => e = .returned (.tuple #[]) ∧ w = w' := by
  have hl := run_call_load (P := Try.prog) Try.func40 (by kernel_rfl) (by kernel_rfl) (by kernel_rfl) .u32 (by kernel_rfl) (w := w) (a := ⟨g, 0, none⟩) (x := 1) (blk_cell hh 0)
  have hnot : ∀ (x : Bool) (w : World), (Op.unary .not (.bool x)).run Try.prog w = .ok (.bool (!x)) w := fun _ _ => rfl
  clear hh
  go_enter Try.func29, Try.ntmps29
  go_wp2_with (go_at_call 36; go_in)
  go_end0
  exact ⟨rfl, rfl⟩
set_option maxRecDepth 100000 in
set_option maxHeartbeats 1600000 in
theorem times0 (g : Nat) (v m : Value) (w : World) (hh : w.heap[g]? = some (.cells (WhC 0 v m) 63 (0, 0))) :
    Calls Try.prog 21 #[.pointer (some ⟨g, 0, none⟩)] w fun e w' => ∃ gm, e = .returned (.map (some gm)) ∧ w.heap.size ≤ gm ∧ w'.heap[g]? = some (.cells (WhC 1 v (.map (some gm))) 63 (0, 0)) ∧ w'.heap[gm]? = some (.map #[] 0) ∧ w.grownBy w' (some g) := by
  have hmf : ∀ (fn : Fn) (first cap : Array Value) (w : World), (Instr.makeFunc fn first cap).run Try.prog w = .ok (.func fn first cap) w := fun _ _ _ _ => rfl
  have HH := Aside0.mk hh
  clear hh
  go_enter Try.func21, Try.ntmps21
  go_wp2_with (first
    | ((with_reducible refine gate_dst (N := 1) rfl ?_); refine box_event ?hg (N := 1) ?hd (cs := #[.pointer (some ⟨g, 0, none⟩)]) (t := 23) ?hr ?_; (case hd => rfl); (case hg => rfl); (case hr => first | (go_simp; done) | (go_simp; rfl)); intro g1 hg w1 hbox hb; have G1 := Aside0.mk (show ¬ g = g1 by rw [hg]; exact Nat.ne_of_lt (blk_lt HH.out)); have B1 := Aside0.mk hbox; have H1 := Aside0.mk (blk_below HH.out hb); have L1 := Aside0.mk hb; clear hb hbox hg; have p1 := (blk_cell B1.out 0).trans rfl)
    | (go_at_call 29; refine (on_do0 g ⟨g1, 0, none⟩ v m _ ((blk_cell B1.out 0).trans rfl) G1.out H1.out).mono ?_; rintro e w' ⟨rfl, gm, hgm, hx1, hx2, hx3⟩; have X := Aside0.mk (And.intro hgm (And.intro hx1 (And.intro hx2 hx3))); have q1 := (blk_cell (blk_grown B1.out hx3 (fun e => G1.out (Option.some.inj e).symm)) 0).trans rfl; have q4 := (blk_cell hx1 4).trans rfl; clear hgm hx1 hx2 hx3))
  go_ret
  exact ⟨gm, rfl, Nat.le_trans (L1.out).size X.out.1, X.out.2.1, X.out.2.2.1, (grown_of_below L1.out (some g)).trans X.out.2.2.2⟩
set_option maxRecDepth 100000 in
set_option maxHeartbeats 1600000 in
theorem times1 (g gm : Nat) (v : Value) (w : World) (hh : w.heap[g]? = some (.cells (WhC 1 v (.map (some gm))) 63 (0, 0))) :
    Calls Try.prog 21 #[.pointer (some ⟨g, 0, none⟩)] w fun e w' => e = .returned (.map (some gm)) ∧ Below w.heap.size w w' := by
  have hmf : ∀ (fn : Fn) (first cap : Array Value) (w : World), (Instr.makeFunc fn first cap).run Try.prog w = .ok (.func fn first cap) w := fun _ _ _ _ => rfl
  have HH := Aside0.mk hh
  clear hh
  go_enter Try.func21, Try.ntmps21
  go_wp2_with (first
    | ((with_reducible refine gate_dst (N := 1) rfl ?_); refine box_event ?hg (N := 1) ?hd (cs := #[.pointer (some ⟨g, 0, none⟩)]) (t := 23) ?hr ?_; (case hd => rfl); (case hg => rfl); (case hr => first | (go_simp; done) | (go_simp; rfl)); intro g1 hg w1 hbox hb; have B1 := Aside0.mk hbox; have H1 := Aside0.mk (blk_below HH.out hb); have L1 := Aside0.mk hb; clear hb hbox hg; have p1 := (blk_cell B1.out 0).trans rfl; have q4 := (blk_cell H1.out 4).trans rfl)
    | (go_at_call 29; refine (on_do1 g _ v _ _ H1.out).mono ?_; rintro e w' ⟨rfl, rfl⟩))
  go_ret
  exact ⟨rfl, L1.out⟩
end Go.Proofs.Ytljajnednggebaa.P
