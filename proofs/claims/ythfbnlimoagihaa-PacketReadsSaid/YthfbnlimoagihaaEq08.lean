/- Layer 8, plain: what is put is parsed, what is parsed is put. -/
import Derived.Test.YthfbnlimoagihaaEpk
namespace Go.Proofs.Ythfbnlimoagihaa.P
set_option linter.unusedSimpArgs false
set_option linter.unusedVariables false
open Go.RowKit Go.Proofs.YthfbnlimoagihaaW.PrintWords Go.Proofs.YthfbnlimoagihaaW.PrintLast Go.Proofs.YthfbnlimoagihaaW.PrintMore
theorem parse_eq (l : List Int) (a : Int) (hB : Bytes l) (hl : l.length ≤ 1000000000000) : packet_Parse.f l a = some (pkGo l 5 (0, 0, 0, 0, 0) a) := by
  unfold packet_Parse.f
  rw [if_pos ⟨hl, hB⟩]
theorem get_at (F T : List Int) (at_ v sz : Int) (j n : Nat) (hat : at_ = (F.length : Int) + j) (hsz : sz = n) (h1 : 1 ≤ n) (h7 : n ≤ 7) (hb : (T.drop j).take n = be n v) (hv : 0 ≤ v ∧ v < 256 ^ n) (hl : j + n ≤ T.length) :
    getSpec (F ++ T) at_ sz = (v, at_ + sz, 0) := by
  subst hat hsz
  unfold getSpec numSpec
  rw [if_neg (by omega), if_neg (by simp only [List.length_append]; omega), if_neg (by simp only [List.length_append]; omega)]
  have hd : (F ++ T).drop ((F.length : Int) + j).toNat = T.drop j := by
    rw [show ((F.length : Int) + j).toNat = F.length + j by omega, ← List.drop_drop, List.drop_left]
  rw [hd, Int.toNat_natCast, hb, bev_be n v hv.1 hv.2]
theorem strOf_bytesOf (s : ByteArray) : strOfNums (bytesOf s) = s := by
  refine ByteArray.ext (Array.toList_inj.1 ?_)
  rw [strOfNums_data, bytesOf, List.map_map]
  conv => rhs; rw [← List.map_id s.data.toList]
  refine List.map_congr_left fun b _ => ?_
  simp
theorem bytesOf_strOf (l : List Int) (h : Bytes l) : bytesOf (strOfNums l) = l := by
  rw [bytesOf, strOfNums_data, List.map_map]
  conv => rhs; rw [← List.map_id l]
  exact List.map_congr_left fun b hb => u8_of b (h b hb)
/-- What was put is parsed. -/
theorem parse_put (F M : List Int) (a b c d : Int) (s : ByteArray) (h : RP a b c d s) : pkGo (F ++ (pB a b c d s ++ M)) 5 (0, 0, 0, 0, 0) (F.length : Int) = (a, b, c, d, s, (F.length : Int) + 7 + s.size, 0) := by
  obtain ⟨ha, hb, hc, hd, hs⟩ := h
  have hsl := bytesOf_length s
  have hT : (pB a b c d s ++ M).length = 7 + s.size + M.length := by simp only [pB, List.length_append, List.length_cons, List.length_nil, hsl]
  have g0 := get_at F (pB a b c d s ++ M) (F.length : Int) a 1 0 1 (by omega) rfl (by omega) (by omega) (by simp [pB, be]) (by simp; omega) (by omega)
  have g1 := get_at F (pB a b c d s ++ M) ((F.length : Int) + 1) b 1 1 1 (by omega) rfl (by omega) (by omega) (by simp [pB, be]) (by simp; omega) (by omega)
  have g2 := get_at F (pB a b c d s ++ M) ((F.length : Int) + 1 + 1) c 1 2 1 (by omega) rfl (by omega) (by omega) (by simp [pB, be]) (by simp; omega) (by omega)
  have g3 := get_at F (pB a b c d s ++ M) ((F.length : Int) + 1 + 1 + 1) d 2 3 2 (by omega) rfl (by omega) (by omega) (by simp [pB, be]) (by simp; omega) (by omega)
  have g4 := get_at F (pB a b c d s ++ M) ((F.length : Int) + 1 + 1 + 1 + 2) (s.size : Int) 2 5 2 (by omega) rfl (by omega) (by omega) (by simp [pB, be]) (by simp; omega) (by omega)
  have hdat : pkData (F ++ (pB a b c d s ++ M)) ((F.length : Int) + 1 + 1 + 1 + 2 + 2) (s.size : Int) = s := by
    unfold pkData
    rw [show ((F.length : Int) + 1 + 1 + 1 + 2 + 2).toNat = F.length + 7 by omega, ← List.drop_drop, List.drop_left, Int.toNat_natCast]
    have : ((pB a b c d s ++ M).drop 7).take s.size = bytesOf s := by
      simp only [pB, List.cons_append, List.nil_append, List.drop_succ_cons, List.drop_zero]
      rw [← hsl, List.take_left]
    rw [this, strOf_bytesOf]
  simp only [pkGo, pkSz, pkPut, g0, g1, g2, g3, g4, if_true, pkFin, hdat]
  rw [if_neg (by omega), if_neg (by simp only [List.length_append, hT]; omega), if_pos ⟨ha, hb, hc, hd, hs⟩]
  simp only [Prod.mk.injEq, true_and, and_true]
  omega
theorem get_ok (l : List Int) (at_ sz : Int) (h1 : 1 ≤ sz) (h7 : sz ≤ 7) (h : (getSpec l at_ sz).2.2 = 0) : (0 ≤ at_ ∧ at_ + sz ≤ l.length) ∧ getSpec l at_ sz = (bev ((l.drop at_.toNat).take sz.toNat), at_ + sz, 0) := by
  unfold getSpec numSpec at h ⊢
  rw [if_neg (by omega)] at h ⊢
  split at h
  · exact absurd h (by decide)
  rename_i g1
  rw [if_neg g1]
  split at h
  · exact absurd h (by decide)
  rename_i g2
  rw [if_neg g2]
  exact ⟨by omega, rfl⟩
/-- What is parsed is put. -/
theorem put_parse (l : List Int) (hB : Bytes l) (x0 x1 x2 x3 : Int) (s : ByteArray) (i : Int) (h : pkGo l 5 (0, 0, 0, 0, 0) 0 = (x0, x1, x2, x3, s, i, 0)) : RP x0 x1 x2 x3 s ∧ 7 ≤ i ∧ i ≤ l.length ∧ pB x0 x1 x2 x3 s = l.take i.toNat := by
  have nope : ∀ e : Int, ¬ e = 0 → pkNo e = (x0, x1, x2, x3, s, i, 0) → False := by
    intro e he g
    simp only [pkNo, Prod.mk.injEq] at g
    exact he g.2.2.2.2.2.2
  simp only [pkGo, pkSz, pkPut] at h
  split at h
  rotate_left
  · rename_i c; exact (nope _ c h).elim
  rename_i c0
  obtain ⟨b0, e0⟩ := get_ok l 0 1 (by decide) (by decide) c0
  simp only [e0] at h
  split at h
  rotate_left
  · rename_i c; exact (nope _ c h).elim
  rename_i c1
  obtain ⟨b1, e1⟩ := get_ok l (0 + 1) 1 (by decide) (by decide) c1
  simp only [e1] at h
  split at h
  rotate_left
  · rename_i c; exact (nope _ c h).elim
  rename_i c2
  obtain ⟨b2, e2⟩ := get_ok l (0 + 1 + 1) 1 (by decide) (by decide) c2
  simp only [e2] at h
  split at h
  rotate_left
  · rename_i c; exact (nope _ c h).elim
  rename_i c3
  obtain ⟨b3, e3⟩ := get_ok l (0 + 1 + 1 + 1) 2 (by decide) (by decide) c3
  simp only [e3] at h
  split at h
  rotate_left
  · rename_i c; exact (nope _ c h).elim
  rename_i c4
  obtain ⟨b4, e4⟩ := get_ok l (0 + 1 + 1 + 1 + 2) 2 (by decide) (by decide) c4
  simp only [e4, pkFin] at h
  have hn : ∀ j n : Nat, j + n ≤ l.length → be n (bev ((l.drop j).take n)) = (l.drop j).take n := by
    intro j n hjn
    have hl : ((l.drop j).take n).length = n := by rw [List.length_take, List.length_drop]; omega
    have := be_bev ((l.drop j).take n) ((hB.drop j).take n)
    rwa [hl] at this
  have n0 := hn 0 1 (by omega)
  have n1 := hn 1 1 (by omega)
  have n2 := hn 2 1 (by omega)
  have n3 := hn 3 2 (by omega)
  have n4 := hn 5 2 (by omega)
  simp only [show (0 : Int).toNat = 0 from rfl, show (0 + 1 : Int).toNat = 1 from rfl, show (0 + 1 + 1 : Int).toNat = 2 from rfl, show (0 + 1 + 1 + 1 : Int).toNat = 3 from rfl, show (0 + 1 + 1 + 1 + 2 : Int).toNat = 5 from rfl, show (1 : Int).toNat = 1 from rfl, show (2 : Int).toNat = 2 from rfl] at h
  have r4 := bev_range ((l.drop 5).take 2) ((hB.drop 5).take 2)
  generalize bev ((l.drop 0).take 1) = y0 at h n0
  generalize bev ((l.drop 1).take 1) = y1 at h n1
  generalize bev ((l.drop 2).take 1) = y2 at h n2
  generalize bev ((l.drop 3).take 2) = y3 at h n3
  generalize bev ((l.drop 5).take 2) = y4 at h n4 r4
  split at h
  · exact (nope _ (by decide) h).elim
  rename_i c5
  split at h
  · exact (nope _ (by decide) h).elim
  rename_i c6
  split at h
  rotate_left
  · exact (nope _ (by decide) h).elim
  rename_i c7
  simp only [Prod.mk.injEq, and_true] at h
  obtain ⟨rfl, rfl, rfl, rfl, hs, rfl⟩ := h
  obtain ⟨m, rfl⟩ := Int.eq_ofNat_of_zero_le r4.1
  have hs2 : s = strOfNums ((l.drop 7).take m) := by
    rw [← hs]
    unfold pkData
    rw [show (0 + 1 + 1 + 1 + 2 + 2 : Int).toNat = 7 from rfl, Int.toNat_natCast]
  rw [hs] at c7
  have hlm : ((l.drop 7).take m).length = m := by rw [List.length_take, List.length_drop]; omega
  have hsz : s.size = m := by rw [hs2, strOfNums_size, hlm]
  have hbo : bytesOf s = (l.drop 7).take m := by rw [hs2, bytesOf_strOf _ ((hB.drop 7).take m)]
  refine ⟨c7, by omega, by omega, ?_⟩
  rw [show (0 + 1 + 1 + 1 + 2 + 2 + (m : Int)).toNat = 0 + 1 + 1 + 1 + 2 + 2 + m by omega]
  simp only [List.take_add, List.drop_drop]
  simp only [Nat.zero_add, Nat.reduceAdd, List.take_zero, List.nil_append] at n0 ⊢
  rw [← n0, ← n1, ← n2, ← n3, ← n4, ← hbo]
  simp only [pB, be, hsz, List.nil_append, List.cons_append, List.append_assoc]
end Go.Proofs.Ythfbnlimoagihaa.P
