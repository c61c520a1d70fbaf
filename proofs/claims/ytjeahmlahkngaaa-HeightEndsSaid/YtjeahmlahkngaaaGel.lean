/- Layer 2, by hand: sync/atomic.Pointer[api.Height]: loaded and stored; a pointer to an element of a row of heights. -/
import Derived.Test.YtjeahmlahkngaaaGmd
import Derived.Test.YtjeahmlahkngaaaP0
namespace Go.Proofs.Ytjeahmlahkngaaa.P
set_option linter.unusedSimpArgs false
set_option linter.unusedVariables false
open Go.RowKit Go.Proofs.YtjeahmlahkngaaaW.PrintWords Go.Proofs.YtjeahmlahkngaaaW.PrintLast Go.Proofs.YtjeahmlahkngaaaW.PrintMore
section
variable {P : Program} {f : FuncId} {fn : Func}
theorem run_call_loadp (hf : P.funcs[f]? = some fn) (hname : (fn.name == "runtime.NumGoroutine") = false) (hb : fn.body.isNone = true) (hn : Extern.findNext fn = none)
    (he : Extern.find fn = some (Extern.Atomic.loadT .ptr)) {a : Addr} {x : Option Addr} {w : World} (hc : w.cell? a = some (.pointer x)) :
    (callFunc f #[.pointer (some a)]).run P w = .ok (.value (.pointer x)) w := by
  rw [run_callFunc_extern hf hname hb hn he]
  change (Sem.run P (do Extern.Atomic.read .ptr (← asAddr (.pointer (some a)))) w).andThen _ = _
  simp [Extern.Atomic.read, asAddr, hc, Result.andThen]
theorem run_call_storep (hf : P.funcs[f]? = some fn) (hname : (fn.name == "runtime.NumGoroutine") = false) (hb : fn.body.isNone = true) (hn : Extern.findNext fn = none)
    (he : Extern.find fn = some Extern.Atomic.storeT) {a : Addr} {q : Option Addr} {u : Value} {w : World} (hc : w.cell? a = some u) (hz : w.frozen? a = false) :
    (callFunc f #[.pointer (some a), .pointer q]).run P w = .ok (.value (.tuple #[])) (w.setCell a (.pointer q)) := by
  rw [run_callFunc_extern hf hname hb hn he]
  change (Sem.run P (do
    store (← asAddr (.pointer (some a))) (.pointer q) .atomic
    pure Extern.Atomic.none_) w).andThen _ = _
  simp [asAddr, hc, hz, run_store P w a (.pointer q) .atomic rfl, Result.andThen, Extern.Atomic.none_]
theorem run_convert_nil_from {src dst t : TypeId} (hs : P.underlying src = some .unsafePointer) (hd : P.underlying dst = some (.pointer t)) (w : World) : (convert src dst (.pointer none)).run P w = .ok (.pointer none) w := by
  simp [convert, Conv.unsafePointer, run_underlying hs, run_underlying hd, Result.andThen]
/-- A variable of type `t` stands there. -/
def ElemOk (P : Program) (w : World) (a : Addr) (t : TypeId) : Prop := a.spot = none ∧ ∃ row cells, w.shape? a.block = some (row, cells) ∧ liesAt P P.depth row (cells / P.cellsOf row) a.off t 1 = true
theorem run_convert_elem {src dst t : TypeId} (hs : P.underlying src = some .unsafePointer) (hd : P.underlying dst = some (.pointer t)) (hsz : (P.info? t).map (fun i => decide (i.size = 0)) = some false) {a : Addr} {w : World} (h : ElemOk P w a t) :
    (convert src dst (.pointer (some a))).run P w = .ok (.pointer (some a)) w := by
  obtain ⟨i, hi, hz0⟩ := Option.map_eq_some_iff.1 hsz
  have hz : i.size ≠ 0 := by simpa using hz0
  obtain ⟨h1, row, cells, hsh, hl⟩ := h
  obtain ⟨b, o, s⟩ := a
  simp only at h1 hsh hl
  subst h1
  simp [convert, Conv.unsafePointer, Conv.seenAt, viewAt, variablesAt, sizeOf, typeInfo, run_underlying hs, run_underlying hd, hi, hz, hsh, hl, Result.andThen]
end
theorem ElemOk.below {P : Program} {w w' : World} {a : Addr} {t : TypeId} (h : ElemOk P w a t) (hb : a.block < w.heap.size) (hB : Below w.heap.size w w') : ElemOk P w' a t := by
  obtain ⟨h1, row, cells, h2, h3⟩ := h
  refine ⟨h1, row, cells, ?_, h3⟩
  unfold World.shape? at h2 ⊢
  rw [hB.block _ hb]
  exact h2
theorem en_load (g : Nat) (x : Option Addr) (w : World) (hc : w.cell? ⟨g, 0, none⟩ = some (.pointer x)) (hx : ∀ a, x = some a → ElemOk Try.prog w a 23) :
    Calls Try.prog 37 #[.pointer (some ⟨g, 0, none⟩)] w fun e w' => e = .returned (.pointer x) ∧ w = w' := by
  have hld := run_call_loadp (P := Try.prog) Try.func43 (by kernel_rfl) (by kernel_rfl) (by kernel_rfl) (by kernel_rfl) hc
  have hcv : (convert 60 56 (.pointer x)).run Try.prog w = .ok (.pointer x) w := by
    cases x with
    | none => exact run_convert_nil_from (P := Try.prog) (src := 60) (dst := 56) Try.underlying60 Try.underlying56 w
    | some a => exact run_convert_elem (P := Try.prog) (src := 60) (dst := 56) Try.underlying60 Try.underlying56 (by kernel_rfl) (hx a rfl)
  clear hx
  go_enter Try.func37, Try.ntmps37
  go_wp2
  go_ret
  exact ⟨rfl, rfl⟩
theorem en_store (g : Nat) (u v : Value) (a : Addr) (w : World) (hc : w.cell? ⟨g, 0, none⟩ = some u) (hz : w.frozen? ⟨g, 0, none⟩ = false) (hv : w.cell? a = some v) :
    Calls Try.prog 38 #[.pointer (some ⟨g, 0, none⟩), .pointer (some a)] w fun e w' => e = .returned (.tuple #[]) ∧ w.setCell ⟨g, 0, none⟩ (.pointer (some a)) = w' := by
  have hst := run_call_storep (P := Try.prog) Try.func44 (by kernel_rfl) (by kernel_rfl) (by kernel_rfl) (by kernel_rfl) (q := some a) hc hz
  have hcv := run_convert_to_unsafe (P := Try.prog) (src := 56) (dst := 60) Try.underlying56 Try.underlying60 (by kernel_rfl) hv
  go_enter Try.func38, Try.ntmps38
  go_wp2
  go_end0
  exact ⟨rfl, rfl⟩
end Go.Proofs.Ytjeahmlahkngaaa.P
