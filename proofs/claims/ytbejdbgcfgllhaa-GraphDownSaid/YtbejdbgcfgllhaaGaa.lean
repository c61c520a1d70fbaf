/- Layer 25, plain: the document's examples come out as it says. -/
import Derived.Test.YtbejdbgcfgllhaaP10
import Derived.Test.YtbejdbgcfgllhaaEev
namespace Go.Proofs.Ytbejdbgcfgllhaa.P
set_option linter.unusedSimpArgs false
set_option linter.unusedVariables false
open Go.RowKit Go.Proofs.YtbejdbgcfgllhaaW.PrintWords Go.Proofs.YtbejdbgcfgllhaaW.PrintLast Go.Proofs.YtbejdbgcfgllhaaW.PrintMore
theorem awake_k : thalweglaw25_awake.f 40 = some true := by kernel_rfl
theorem awake_ev : Ev (fun k => thalweglaw25_awake.f k) true := Ev.of thalweglaw25_awake.mono awake_k
theorem awake_if {α : Type} {g : Nat → Bool → Option α} {r : α} (h : Ev (fun k => g k true) r) : Ev (fun k => (thalweglaw25_awake.f k).bind (g k)) r := Ev.bind awake_ev h
end Go.Proofs.Ytbejdbgcfgllhaa.P
