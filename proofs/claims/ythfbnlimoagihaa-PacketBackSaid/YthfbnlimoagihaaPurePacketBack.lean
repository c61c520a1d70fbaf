/- PacketBack: the plain law: bytes and back. -/
import Derived.Test.YthfbnlimoagihaaEq08
import Derived.Test.YthfbnlimoagihaaSPacketBack
import Derived.Test.YthfbnlimoagihaaP13
namespace Go.Proofs.Ythfbnlimoagihaa.Pure
set_option linter.unusedSimpArgs false
set_option linter.unusedVariables false
open Go.RowKit Go.Proofs.Ythfbnlimoagihaa.P Go.Proofs.YthfbnlimoagihaaW.PrintWords Go.Proofs.YthfbnlimoagihaaW.PrintLast Go.Proofs.YthfbnlimoagihaaW.PrintMore
theorem bj1 (a b c d : Int) (s : ByteArray) (F M : List Int) (hF : Bytes F) (hM : Bytes M) (lF : F.length ≤ 200) (lM : M.length ≤ 500) (hs : s.size ≤ 600) : Ev (fun k => thalweglaw08_PacketBack.j1 k F M false a b c d s) true := by
  refine Ev.step (f := fun k => _) (fun k => by simp only [thalweglaw08_PacketBack.j1]; rfl) ?_
  simp only [Bool.false_eq_true, if_false]
  by_cases h : RP a b c d s
  · have hsz := h.2.2.2.2
    have hlen : (pB a b c d s).length = 7 + s.size := by simp only [pB, List.length_append, List.length_cons, List.length_nil, bytesOf_length]
    refine Ev.bind (pb_eq _ _ _ _ _ h) ?_
    have hboth : Ev (fun k => thalwegref01_Both.f k [F, pB a b c d s, M]) (F ++ (pB a b c d s ++ M)) := by
      have := both_ev [F, pB a b c d s, M] (by simp) (by simp [hlen]; omega)
      simpa using this
    refine Ev.bind hboth ?_
    have hBT : Bytes (F ++ (pB a b c d s ++ M)) := hF.append ((pB_bytes a b c d s).append hM)
    simp only [parse_eq _ (F.length : Int) hBT (by simp only [List.length_append, hlen]; omega), parse_put F M a b c d s h, Option.bind_some, if_true]
    refine Ev.bind awake08 ?_
    simp only [if_true, hlen, beq_self_eq_true, Bool.and_self]
    rw [w64 (x := (F.length : Int) + ((7 + s.size : Nat) : Int)) (by omega) (by omega), w64 (x := 7 + (s.size : Int)) (by omega) (by omega)]
    simp only [if_pos (show (F.length : Int) + 7 + (s.size : Int) = (F.length : Int) + ((7 + s.size : Nat) : Int) by omega)]
    refine ev_eq (Ev.now _) ?_
    rw [beq_iff_eq]
    omega
  · refine Ev.bind (pb_no _ _ _ _ _ h) ?_
    have hboth : Ev (fun k => thalwegref01_Both.f k [F, [], M]) (F ++ M) := by
      have := both_ev [F, [], M] (by simp) (by simp; omega)
      simpa using this
    refine Ev.bind hboth ?_
    simp only [parse_eq _ (F.length : Int) (hF.append hM) (by simp only [List.length_append]; omega), Option.bind_some, if_neg (show ¬ (1 : Int) = 0 by decide)]
    refine Ev.bind awake08 ?_
    simp only [if_true]
    exact Ev.now _
theorem bj0 (a b c d : Int) (s : ByteArray) (F M : List Int) (hF : Bytes F) (hM : Bytes M) (lF : F.length ≤ 200) (lM : M.length ≤ 500) (hs : s.size ≤ 600) : Ev (fun k => thalweglaw08_PacketBack.j0 k F M false a b c d s) true := by
  have hj := bj1 a b c d s F M hF hM lF lM hs
  refine Ev.step (f := fun k => _) (fun k => by simp only [thalweglaw08_PacketBack.j0]; rfl) ?_
  obtain ⟨x0, x1, x2, x3, t, i, e, he⟩ : ∃ x0 x1 x2 x3 t i e, pkGo M 5 (0, 0, 0, 0, 0) 0 = (x0, x1, x2, x3, t, i, e) := ⟨_, _, _, _, _, _, _, rfl⟩
  simp only [Bool.false_eq_true, if_false, parse_eq M 0 hM (by omega), he, Option.bind_some]
  by_cases h0 : e = 0
  · subst h0
    obtain ⟨hr, h7, hiM, hpb⟩ := put_parse M hM x0 x1 x2 x3 t i he
    refine Ev.bind (pb_eq _ _ _ _ _ hr) ?_
    simp only [if_true, if_neg (show ¬ i < 7 by omega), if_neg (show ¬ i > (M.length : Int) by omega), if_pos (show 0 ≤ i by omega), if_pos hiM, hpb, bne_self_eq_false]
    exact hj
  · by_cases hr : RP x0 x1 x2 x3 t
    · refine Ev.bind (pb_eq _ _ _ _ _ hr) ?_
      simp only [if_neg h0]
      exact hj
    · refine Ev.bind (pb_no _ _ _ _ _ hr) ?_
      simp only [if_neg h0]
      exact hj
theorem back_ev (a b c d : Int) (s : ByteArray) (F M : List Int) (hF : Bytes F) (hM : Bytes M) : Ev (fun k => thalweglaw08_PacketBack.f k a b c d s F M) true := by
  have yes : Ev (fun k => thalweglaw08_PacketBack.j0 k F M true a b c d s) true := by
    refine Ev.step (f := fun k => _) (fun k => by simp only [thalweglaw08_PacketBack.j0]; rfl) ?_
    simp only [if_true]
    exact Ev.now _
  unfold thalweglaw08_PacketBack.f
  by_cases h1 : (s.size : Int) > 600
  · simp only [if_pos h1]; exact yes
  simp only [if_neg h1]
  by_cases h2 : (F.length : Int) > 200
  · simp only [if_pos h2]; exact yes
  simp only [if_neg h2]
  by_cases h3 : (M.length : Int) > 500
  · rw [decide_eq_true h3]; exact yes
  · rw [decide_eq_false h3]; exact bj0 a b c d s F M hF hM (by omega) (by omega) (by omega)
theorem PacketBack : thalweglaw08_PacketBack.Pure := fun x F M _ _ hF _ hM => Ev.rounds (back_ev _ _ _ _ _ F M (bytes_of hF) (bytes_of hM))
end Go.Proofs.Ythfbnlimoagihaa.Pure
