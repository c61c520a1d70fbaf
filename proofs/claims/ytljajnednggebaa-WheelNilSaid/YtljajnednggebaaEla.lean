/- Layer 11: WheelNil. -/
import Derived.Test.YtljajnednggebaaEwz
namespace Go.Proofs.Ytljajnednggebaa.P
set_option linter.unusedSimpArgs false
set_option linter.unusedVariables false
open Go.RowKit Go.Maps Go.Proofs.YtljajnednggebaaW.PrintWords Go.Proofs.YtljajnednggebaaW.PrintLast Go.Proofs.YtljajnednggebaaW.PrintMore
def thalweglaw11_WheelNil.f (a0 : Int) (a1 : Int) : Option Bool := some true
set_option maxHeartbeats 8000000 in
set_option maxRecDepth 100000 in
theorem thalweglaw11_WheelNil.calls (a0 : Int) (a1 : Int) (r : Bool) (w : World) (h : thalweglaw11_WheelNil.f a0 a1 = some r) :
    Calls Try.prog 7 #[.int .i64 a0, .int .i64 a1] w fun e w' => e = .returned (.bool r) ∧ Below w.heap.size w w' := by
  have hr : true = r := Option.some.inj h
  subst hr
  clear h
  have hnot : ∀ (x : Bool) (w : World), (Op.unary .not (.bool x)).run Try.prog w = .ok (.bool (!x)) w := fun _ _ => rfl
  go_enter Try.func7, Try.ntmps7
  go_wp2_with (first
    | (go_at_call 13; (with_reducible refine (next_nil _).mono ?_); rintro x_ w_ ⟨rfl, rfl⟩)
    | (go_at_call 9; (with_reducible refine (awake_x _).mono ?_); rintro x_ w1 ⟨rfl, hb⟩; have B1 := Aside0.mk hb; clear hb)
    | (go_at_call 10; (with_reducible refine (set_nil _ a0 a1).mono ?_); rintro x_ w_ ⟨rfl, rfl⟩)
    | (go_at_call 17; (with_reducible refine (stop_nil _ a0).mono ?_); rintro x_ w_ ⟨rfl, rfl⟩)
    | (go_at_call 12; (with_reducible refine (due_nil _ a1).mono ?_); rintro x_ w_ ⟨rfl, rfl⟩)
    | (go_at_call 11; (with_reducible refine (list_nil _).mono ?_); rintro x_ w_ ⟨rfl, rfl⟩))
  go_ret
  exact ⟨rfl, B1.out⟩
end Go.Proofs.Ytljajnednggebaa.P
