/- PacketHops: the plain law: a right packet hops as often as its Ttl says. -/
import Derived.Test.YthfbnlimoagihaaEp08
import Derived.Test.YthfbnlimoagihaaSPacketHops
import Derived.Test.YthfbnlimoagihaaP7
namespace Go.Proofs.Ythfbnlimoagihaa.Pure
set_option linter.unusedSimpArgs false
set_option linter.unusedVariables false
open Go.RowKit Go.Proofs.Ythfbnlimoagihaa.P Go.Proofs.YthfbnlimoagihaaW.PrintWords Go.Proofs.YthfbnlimoagihaaW.PrintLast Go.Proofs.YthfbnlimoagihaaW.PrintMore
theorem hops_l0 (a b c d : Int) (s : ByteArray) (h : RP a b c d s) : ∀ (n : Nat) (i : Int), 0 ≤ i → c - i = n → Ev (fun k => thalweglaw08_PacketHops.l0 k i a b c d s a b (c - i) d s) true := by
  intro n
  have hc := h.2.2.1
  induction n with
  | zero =>
    intro i h0 hn
    have hi : c - i = 0 := by omega
    refine Ev.step (f := fun k => _) (fun k => by simp only [thalweglaw08_PacketHops.l0]; rfl) ?_
    have hr : RP a b 0 d s := ⟨h.1, h.2.1, by decide, h.2.2.2⟩
    rw [hi]
    simp only [if_neg (show ¬ i < c by omega), hop_eq, hopSpec, if_pos hr, if_true, Option.bind_some]
    refine Ev.bind awake08 ?_
    simp only [if_true, beq_self_eq_true]
    exact Ev.now _
  | succ n ih =>
    intro i h0 hn
    refine Ev.step (f := fun k => _) (fun k => by simp only [thalweglaw08_PacketHops.l0]; rfl) ?_
    have hr : RP a b (c - i) d s := ⟨h.1, h.2.1, by omega, h.2.2.2⟩
    simp only [if_pos (show i < c by omega), hop_eq, hopSpec, if_pos hr, if_neg (show ¬ c - i = 0 by omega), Option.bind_some, w64 (x := c - i - 1) (by omega) (by omega), w64 (x := i + 1) (by omega) (by omega), if_true]
    have := ih (i + 1) (by omega) (by omega)
    rw [show c - (i + 1) = c - i - 1 by omega] at this
    exact this
theorem hops_ev (a b c d : Int) (s : ByteArray) : Ev (fun k => thalweglaw08_PacketHops.f k a b c d s) true := by
  have hj : Ev (fun k => thalweglaw08_PacketHops.j0 k true a b c d s) true := by
    refine Ev.step (f := fun k => _) (fun k => by simp only [thalweglaw08_PacketHops.j0]; rfl) ?_
    simp only [if_true]
    exact Ev.bind awake08 (Ev.now _)
  unfold thalweglaw08_PacketHops.f
  by_cases hs : (s.size : Int) > 600
  · simp only [if_pos hs]
    exact hj
  simp only [if_neg hs, pc_eq, Option.bind_some]
  by_cases h : RP a b c d s
  · simp only [if_pos h, bne_self_eq_false]
    refine Ev.step (f := fun k => _) (fun k => by simp only [thalweglaw08_PacketHops.j0]; rfl) ?_
    simp only [Bool.false_eq_true, if_false]
    have := hops_l0 a b c d s h c.toNat 0 (by omega) (by have := h.2.2.1; omega)
    rw [show c - 0 = c by omega] at this
    exact this
  · simp only [if_neg h, show ((1 : Int) != 0) = true by decide]
    exact hj
theorem PacketHops : thalweglaw08_PacketHops.Pure := fun x _ => Ev.rounds (hops_ev _ _ _ _ _)
end Go.Proofs.Ythfbnlimoagihaa.Pure
