/- Layer 8, plain: what packet.Parse tells is what the reference tells. -/
import Derived.Test.YthfbnlimoagihaaEq08
import Derived.Test.YthfbnlimoagihaaErGet
import Derived.Test.YthfbnlimoagihaaP11
namespace Go.Proofs.Ythfbnlimoagihaa.P
set_option linter.unusedSimpArgs false
set_option linter.unusedVariables false
open Go.RowKit Go.Proofs.YthfbnlimoagihaaW.PrintWords Go.Proofs.YthfbnlimoagihaaW.PrintLast Go.Proofs.YthfbnlimoagihaaW.PrintMore
theorem rp5 (l : List Int) (hB : Bytes l) (hl : l.length ≤ 1000000000000) (x0 x1 x2 x3 x4 at_ : Int) (h0 : 0 ≤ at_) (h1 : at_ ≤ l.length) (h4 : 0 ≤ x4 ∧ x4 ≤ 65535) :
    Ev (fun k => thalwegref08_Parse.l0 k l at_ [x0, x1, x2, x3, x4] [1, 1, 1, 2, 2] 5) (pkGo l 0 (x0, x1, x2, x3, x4) at_) := by
  have r0 : rd [x0, x1, x2, x3, x4] 0 = x0 := rfl
  have r1 : rd [x0, x1, x2, x3, x4] 1 = x1 := rfl
  have r2 : rd [x0, x1, x2, x3, x4] 2 = x2 := rfl
  have r3 : rd [x0, x1, x2, x3, x4] 3 = x3 := rfl
  have r4 : rd [x0, x1, x2, x3, x4] 4 = x4 := rfl
  have hlen : (([x0, x1, x2, x3, x4] : List Int).length : Int) = 5 := rfl
  refine Ev.step (f := fun k => _) (fun k => by simp only [thalwegref08_Parse.l0]; rfl) ?_
  simp only [hlen, r0, r1, r2, r3, r4, if_neg (show ¬ (5 : Int) < 5 by decide), if_pos (show (4 : Int) < 5 by decide), if_pos (show (3 : Int) < 5 by decide), if_pos (show (2 : Int) < 5 by decide), if_pos (show (1 : Int) < 5 by decide), if_pos (show (0 : Int) < 5 by decide)]
  rw [w64 (x := (l.length : Int) - at_) (by omega) (by omega)]
  simp only [pkGo, pkFin]
  by_cases c1 : x4 > 256
  · simp only [if_pos c1, if_pos (show 256 < x4 from c1)]
    exact Ev.now _
  simp only [if_neg c1, if_neg (show ¬ 256 < x4 from c1)]
  by_cases c2 : (l.length : Int) - at_ < x4
  · simp only [if_pos c2]
    exact Ev.now _
  simp only [if_neg c2, w64 (x := at_ + x4) (by omega) (by omega), if_pos h0, if_pos (show at_ ≤ at_ + x4 by omega), if_pos (show at_ + x4 ≤ (l.length : Int) by omega)]
  have hd : strOfNums ((l.take (at_ + x4).toNat).drop at_.toNat) = pkData l at_ x4 := by
    unfold pkData
    rw [List.drop_take, show (at_ + x4).toNat - at_.toNat = x4.toNat by omega]
  rw [hd]
  simp only [rr8_eq, Option.bind_some, decide_eq_true_eq]
  by_cases c3 : RP x0 x1 x2 x3 (pkData l at_ x4)
  · simp only [if_pos c3]
    exact Ev.now _
  · simp only [if_neg c3]
    exact Ev.now _
theorem rp_step (l : List Int) (hB : Bytes l) (hl : l.length ≤ 1000000000000) (v : List Int) (i sz at_ : Int) (n : Nat) (x : X5) (hi0 : 0 ≤ i) (hi : i < 5) (hv : v.length ≤ 5) (hsz : rd [1, 1, 1, 2, 2] i = sz) (hk : pkSz n = sz)
    (hs : 1 ≤ sz ∧ sz ≤ 2)
    (next : ∀ y a : Int, 0 ≤ a → a ≤ (l.length : Int) → 0 ≤ y ∧ y ≤ 65535 → Ev (fun k => thalwegref08_Parse.l0 k l a (v ++ [y]) [1, 1, 1, 2, 2] (i + 1)) (pkGo l n (pkPut n x y) a)) :
    Ev (fun k => thalwegref08_Parse.l0 k l at_ v [1, 1, 1, 2, 2] i) (pkGo l (n + 1) x at_) := by
  have hin := get_in l hB at_ sz hs.1 hs.2
  refine Ev.step (f := fun k => _) (fun k => by simp only [thalwegref08_Parse.l0]; rfl) ?_
  simp only [if_pos hi, if_pos hi0, if_pos (show i < (([1, 1, 1, 2, 2] : List Int).length : Int) from hi), hsz]
  refine Ev.bind (refGet_ev l at_ sz hB hl) ?_
  simp only [pkGo, hk]
  by_cases c : (getSpec l at_ sz).2.2 = 0
  · simp only [if_pos c, if_pos (show v.length < 17592186044416 by omega), w64 (x := i + 1) (by omega) (by omega)]
    exact next _ _ (hin c).1 (hin c).2.1 (hin c).2.2
  · simp only [if_neg c]
    exact Ev.now _
theorem rparse_ev (l : List Int) (a : Int) (hB : Bytes l) (hl : l.length ≤ 1000000000000) : Ev (fun k => thalwegref08_Parse.f k l a) (pkGo l 5 (0, 0, 0, 0, 0) a) := by
  unfold thalwegref08_Parse.f
  refine rp_step l hB hl [] 0 1 a 4 (0, 0, 0, 0, 0) (by decide) (by decide) (by simp) rfl rfl (by decide) fun x0 a0 _ _ _ => ?_
  refine rp_step l hB hl [x0] (0 + 1) 1 a0 3 (x0, 0, 0, 0, 0) (by decide) (by decide) (by simp) rfl rfl (by decide) fun x1 a1 _ _ _ => ?_
  refine rp_step l hB hl [x0, x1] (0 + 1 + 1) 1 a1 2 (x0, x1, 0, 0, 0) (by decide) (by decide) (by simp) rfl rfl (by decide) fun x2 a2 _ _ _ => ?_
  refine rp_step l hB hl [x0, x1, x2] (0 + 1 + 1 + 1) 2 a2 1 (x0, x1, x2, 0, 0) (by decide) (by decide) (by simp) rfl rfl (by decide) fun x3 a3 _ _ _ => ?_
  refine rp_step l hB hl [x0, x1, x2, x3] (0 + 1 + 1 + 1 + 1) 2 a3 0 (x0, x1, x2, x3, 0) (by decide) (by decide) (by simp) rfl rfl (by decide) fun x4 a4 h0 h1 h4 => ?_
  exact rp5 l hB hl x0 x1 x2 x3 x4 a4 h0 h1 h4
end Go.Proofs.Ythfbnlimoagihaa.P
