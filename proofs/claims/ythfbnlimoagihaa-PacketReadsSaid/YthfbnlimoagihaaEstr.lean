/- Strings of bytes, plain: two are the same where the bytes are; the order of strings is that of the numbers. -/
import Derived.Test.YthfbnlimoagihaaEev
import Derived.Laws.BytesArg
namespace Go.Proofs.Ythfbnlimoagihaa.P
set_option linter.unusedSimpArgs false
set_option linter.unusedVariables false
open Go.RowKit Go.Proofs.YthfbnlimoagihaaW.PrintWords Go.Proofs.YthfbnlimoagihaaW.PrintLast Go.Proofs.YthfbnlimoagihaaW.PrintMore
theorem str_list (l : List Int) : (strOfNums l).toList = l.map fun n => UInt8.ofNat n.toNat := by rw [ByteArray.toList_eq, strOfNums_data]
theorem u8_of (x : Int) (h : 0 ≤ x ∧ x ≤ 255) : ((UInt8.ofNat x.toNat).toNat : Int) = x := by
  rw [UInt8.toNat_ofNat']
  omega
theorem map_inj {l m : List Int} (hl : Bytes l) (hm : Bytes m) (h : l.map (fun n => UInt8.ofNat n.toNat) = m.map fun n => UInt8.ofNat n.toNat) : l = m := by
  induction l generalizing m with
  | nil => cases m with
    | nil => rfl
    | cons y m => simp at h
  | cons x l ih => cases m with
    | nil => simp at h
    | cons y m =>
      simp only [List.map_cons, List.cons.injEq] at h
      have h1 := u8_of x hl.cons.1
      have h2 := u8_of y hm.cons.1
      rw [h.1] at h1
      rw [ih hl.cons.2 hm.cons.2 h.2, show x = y by omega]
theorem str_inj {l m : List Int} (hl : Bytes l) (hm : Bytes m) (h : (strOfNums l).toList = (strOfNums m).toList) : l = m := by
  rw [str_list, str_list] at h
  exact map_inj hl hm h
theorem bytes_less {l m : List Int} (hl : Bytes l) (hm : Bytes m) (h : l.length = m.length) : Op.bytesLess (strOfNums l).toList (strOfNums m).toList = decide (bev l < bev m) := by
  rw [str_list, str_list]
  induction l generalizing m with
  | nil => cases m with
    | nil => simp [Op.bytesLess, bev_nil]
    | cons y m => simp at h
  | cons x l ih => cases m with
    | nil => simp at h
    | cons y m =>
      have hlen : l.length = m.length := by simpa using h
      have h1 := u8_of x hl.cons.1
      have h2 := u8_of y hm.cons.1
      have r1 := bev_range l hl.cons.2
      have r2 := bev_range m hm.cons.2
      simp only [List.map_cons, Op.bytesLess]
      rw [ih hl.cons.2 hm.cons.2 hlen, bev_cons, bev_cons, hlen]
      rw [hlen] at r1
      have hp := pow256_pos m.length
      generalize (256 : Int) ^ m.length = p at *
      rw [Bool.eq_iff_iff]
      simp only [Bool.or_eq_true, Bool.and_eq_true, decide_eq_true_eq, beq_iff_eq, UInt8.lt_iff_toNat_lt, ← UInt8.toNat_inj]
      have e : ∀ a b : Int, a < b → a * p + p ≤ b * p := fun a b hab => by
        have := Int.mul_le_mul_of_nonneg_right (show a + 1 ≤ b by omega) (Int.le_of_lt hp)
        rw [Int.add_mul, Int.one_mul] at this
        exact this
      rcases Int.lt_trichotomy x y with hxy | hxy | hxy
      · have := e x y hxy
        constructor
        · intro _; omega
        · intro _; left; omega
      · subst hxy
        constructor
        · rintro (hh | ⟨_, hh⟩)
          · omega
          · omega
        · intro hh; right; exact ⟨rfl, by omega⟩
      · have := e y x hxy
        constructor
        · rintro (hh | ⟨hh, _⟩) <;> omega
        · intro hh; omega
end Go.Proofs.Ythfbnlimoagihaa.P
