/- sync/atomic.Pointer[api.Errno], by hand: loaded; set where it was nil. -/
import Derived.Test.YtaiklcpmlkpfjaaEwire
namespace Go.Proofs.Ytaiklcpmlkpfjaa.P
open Go.RowKit Go.Proofs.YtaiklcpmlkpfjaaW.PrintWords Go.Proofs.YtaiklcpmlkpfjaaW.PrintLast Go.Proofs.YtaiklcpmlkpfjaaW.PrintMore
set_option linter.unusedVariables false
set_option linter.unusedSimpArgs false
section
variable {P : Program} {f : FuncId} {fn : Func}
theorem run_call_loadp (hf : P.funcs[f]? = some fn) (hname : (fn.name == "runtime.NumGoroutine") = false) (hb : fn.body.isNone = true) (hn : Extern.findNext fn = none)
    (he : Extern.find fn = some (Extern.Atomic.loadT .ptr)) {a : Addr} {x : Option Addr} {w : World} (hc : w.cell? a = some (.pointer x)) :
    (callFunc f #[.pointer (some a)]).run P w = .ok (.value (.pointer x)) w := by
  rw [run_callFunc_extern hf hname hb hn he]
  change (Sem.run P (do Extern.Atomic.read .ptr (← asAddr (.pointer (some a)))) w).andThen _ = _
  simp [Extern.Atomic.read, asAddr, hc, Result.andThen]
theorem run_call_casp (hf : P.funcs[f]? = some fn) (hname : (fn.name == "runtime.NumGoroutine") = false) (hb : fn.body.isNone = true) (hn : Extern.findNext fn = none)
    (he : Extern.find fn = some (Extern.Atomic.casT .ptr)) {a : Addr} {q : Option Addr} {w : World} (hc : w.cell? a = some (.pointer none)) (hz : w.frozen? a = false) :
    (callFunc f #[.pointer (some a), .pointer none, .pointer q]).run P w = .ok (.value (.bool true)) (w.setCell a (.pointer q)) := by
  rw [run_callFunc_extern hf hname hb hn he]
  change (Sem.run P (do
    let a' ← asAddr (.pointer (some a))
    if ← Extern.Atomic.touchesFrozen a' then unsupported (.unsafePointer "a write to bytes that a string shares")
    let eq ← match Extern.Atomic.T.ptr, ← Extern.Atomic.read .ptr a', Value.pointer none with
      | _, .int _ x, .int _ y => pure (x == y)
      | .ptr, .pointer x, .pointer y => samePointer x y
      | .int _, .pointer (some _), .int _ 0 | .int _, .int _ 0, .pointer (some _) => pure false
      | .int _, .pointer (some _), _ | .int _, _, .pointer (some _) => unsupported .addressObserved
      | _, _, _ => stuck "atomic.CompareAndSwap: old is no T"
    if eq then store a' (.pointer q) .atomic
    pure (Value.bool eq)) w).andThen _ = _
  simp [Extern.Atomic.touchesFrozen, Extern.Atomic.read, asAddr, viewAt, samePointer, World.shape?_isSome_of_cell? hc, hc, hz, run_store P w a (.pointer q) .atomic rfl, Result.andThen]
theorem run_convert_nil_to {src dst t : TypeId} (hs : P.underlying src = some (.pointer t)) (hd : P.underlying dst = some .unsafePointer) (w : World) : (convert src dst (.pointer none)).run P w = .ok (.pointer none) w := by
  simp [convert, Conv.unsafePointer, run_underlying hs, run_underlying hd, Result.andThen]
theorem run_convert_nil_from {src dst t : TypeId} (hs : P.underlying src = some .unsafePointer) (hd : P.underlying dst = some (.pointer t)) (w : World) : (convert src dst (.pointer none)).run P w = .ok (.pointer none) w := by
  simp [convert, Conv.unsafePointer, run_underlying hs, run_underlying hd, Result.andThen]
theorem run_convert_from {src dst t : TypeId} (hs : P.underlying src = some .unsafePointer) (hd : P.underlying dst = some (.pointer t)) (hsz : (P.info? t).map (fun i => decide (i.size = 0)) = some false) {g : Nat} {v : Value} (hl : liesAt P P.depth t (1 / P.cellsOf t) 0 t 1 = true)
    {w : World} (hb : w.heap[g]? = some (.cells #[v] t (0, 0))) : (convert src dst (.pointer (some ⟨g, 0, none⟩))).run P w = .ok (.pointer (some ⟨g, 0, none⟩)) w := by
  obtain ⟨i, hi, hz0⟩ := Option.map_eq_some_iff.1 hsz
  have hz : i.size ≠ 0 := by simpa using hz0
  have hsh : w.shape? g = some (t, 1) := by
    unfold World.shape?
    rw [hb]
    rfl
  simp [convert, Conv.unsafePointer, Conv.seenAt, viewAt, variablesAt, sizeOf, typeInfo, run_underlying hs, run_underlying hd, hi, hz, hsh, hl, Result.andThen]
end
end Go.Proofs.Ytaiklcpmlkpfjaa.P
