/- WireSame: what is got is put as the same bytes; the plain law. -/
import Derived.Test.YtfhhjoblfnbnkaaEa01
import Derived.Test.YtfhhjoblfnbnkaaEstr
import Derived.Test.YtfhhjoblfnbnkaaP11
import Derived.WalkArith
namespace Go.Proofs.Ytfhhjoblfnbnkaa.Pure
set_option linter.unusedSimpArgs false
set_option linter.unusedVariables false
open Go.RowKit Go.Proofs.Ytfhhjoblfnbnkaa.P Go.Proofs.YtfhhjoblfnbnkaaW.PrintWords Go.Proofs.YtfhhjoblfnbnkaaW.PrintLast Go.Proofs.YtfhhjoblfnbnkaaW.PrintMore
theorem cut_eq (l : List Int) (a n : Int) (h0 : 0 ≤ a) (hn : 0 ≤ n) : (l.take (a + n).toNat).drop a.toNat = (l.drop a.toNat).take n.toNat := by
  rw [List.drop_take, show (a + n).toNat - a.toNat = n.toNat by omega]
theorem cut_len (l : List Int) (a n : Int) (h0 : 0 ≤ a) (hn : 0 ≤ n) (h : n ≤ (l.length : Int) - a) : ((l.drop a.toNat).take n.toNat).length = n.toNat := by
  rw [List.length_take, List.length_drop]; omega
theorem same_j0 (l : List Int) (a : Int) (hB : Bytes l) (hl : l.length ≤ 1000000000000) : Ev (fun k => thalweglaw01_WireSame.j0 k l a (getIntSpec l a).1 (getIntSpec l a).2.1 (getIntSpec l a).2.2) true := by
  refine Ev.step (f := fun k => _) (fun k => by simp only [thalweglaw01_WireSame.j0]; rfl) ?_
  have aw : Ev (fun k => (thalweglaw01_awake.f k).bind fun t => some t) true := Ev.bind awake01 (Ev.now _)
  unfold getIntSpec numSpec
  by_cases c1 : a < 0 ∨ (l.length : Int) < a
  · rw [if_pos c1]
    simp only [if_neg (show ¬ (1 : Int) = 0 by decide)]
    exact aw
  rw [if_neg c1]
  by_cases c2 : (l.length : Int) - a < 8
  · rw [if_pos c2]
    simp only [if_neg (show ¬ (6 : Int) = 0 by decide)]
    exact aw
  rw [if_neg c2]
  have t1 : wrap64 (a + 8) = a + 8 := w64 (by omega) (by omega)
  have t2 : ¬ a + 8 > (l.length : Int) := by omega
  have t3 : 0 ≤ a := by omega
  have t4 : a ≤ a + 8 := by omega
  have t5 : a + 8 ≤ (l.length : Int) := by omega
  have e : intSpec (wrap64 (bev ((l.drop a.toNat).take (8 : Int).toNat))) = (l.drop a.toNat).take (8 : Int).toNat := by
    have hm := be_bev ((l.drop a.toNat).take (8 : Int).toNat) ((hB.drop _).take _)
    rw [cut_len l a 8 t3 (by decide) (by omega)] at hm
    have hr := bev_range ((l.drop a.toNat).take (8 : Int).toNat) ((hB.drop _).take _)
    rw [cut_len l a 8 t3 (by decide) (by omega), show (256 : Int) ^ (8 : Int).toNat = 18446744073709551616 by decide] at hr
    unfold intSpec
    have hx : wrap64 (bev ((l.drop a.toNat).take (8 : Int).toNat)) % 18446744073709551616 = bev ((l.drop a.toNat).take (8 : Int).toNat) := by
      generalize bev ((l.drop a.toNat).take (8 : Int).toNat) = x at *
      unfold wrap64; omega
    rw [hx]
    exact hm
  simp only [if_true, t1, if_neg t2, wire_Int_eq, Option.bind_some, if_pos t3, if_pos t4, if_pos t5, cut_eq l a 8 t3 (by decide), e]
  exact aw
theorem WireSame : thalweglaw01_WireSame.Pure := by
  intro l a n _ _ hw ha hn
  have hB : Bytes l := bytes_of hw
  have ban := bnd64 ha
  have bn := bnd64 hn
  apply Ev.rounds
  unfold thalweglaw01_WireSame.f
  by_cases c : (l.length : Int) > 500
  · simp only [if_pos c]; exact Ev.now _
  have hl : l.length ≤ 1000000000000 := by omega
  simp only [if_neg c, wire_Get_eq l a n hB hl, wire_GetInt_eq l a hB hl, Option.bind_some]
  have hj := same_j0 l a hB hl
  generalize hg : getIntSpec l a = G at *
  unfold getSpec
  by_cases c0 : n < 1 ∨ 7 < n
  · rw [if_pos c0]
    simp only [if_neg (show ¬ (1 : Int) = 0 by decide)]
    exact hj
  rw [if_neg c0]
  unfold numSpec
  by_cases c1 : a < 0 ∨ (l.length : Int) < a
  · rw [if_pos c1]
    simp only [if_neg (show ¬ (1 : Int) = 0 by decide)]
    exact hj
  rw [if_neg c1]
  by_cases c2 : (l.length : Int) - a < n
  · rw [if_pos c2]
    simp only [if_neg (show ¬ (6 : Int) = 0 by decide)]
    exact hj
  rw [if_neg c2]
  have t1 : wrap64 (a + n) = a + n := w64 (by omega) (by omega)
  have t2 : ¬ a + n > (l.length : Int) := by omega
  have t3 : 0 ≤ a := by omega
  have t4 : a ≤ a + n := by omega
  have t5 : a + n ≤ (l.length : Int) := by omega
  have hlen := cut_len l a n t3 (by omega) (by omega)
  have hm := be_bev ((l.drop a.toNat).take n.toNat) ((hB.drop _).take _)
  have hr := bev_range ((l.drop a.toNat).take n.toNat) ((hB.drop _).take _)
  have hr7 := bev_le7 ((l.drop a.toNat).take n.toNat) ((hB.drop _).take _) (by omega)
  rw [hlen] at hm hr
  have hwf : (Lit.int .i64 (bev ((l.drop a.toNat).take n.toNat))).wf = true := Go.WalkArith.wf_i64 (by omega)
  have hp : putSpec (bev ((l.drop a.toNat).take n.toNat)) n = ((l.drop a.toNat).take n.toNat, 0) := by
    unfold putSpec
    rw [if_pos ⟨by omega, by omega, hr.1, hr.2⟩, hm]
  simp only [if_true, wire_Put_eq _ n hwf, hp, Option.bind_some, t1, if_neg t2, if_pos t3, if_pos t4, if_pos t5, cut_eq l a n t3 (show 0 ≤ n by omega)]
  exact hj
end Go.Proofs.Ytfhhjoblfnbnkaa.Pure
