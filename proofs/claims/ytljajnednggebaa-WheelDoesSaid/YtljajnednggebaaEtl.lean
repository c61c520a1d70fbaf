/- Timers by their times, then by their keys: put in, taken out; the map of their keys. -/
import Derived.Test.YtljajnednggebaaEts
import Derived.Test.YtljajnednggebaaEtc
import Derived.Maps.OwnSet
import Derived.Maps.Views
namespace Go.Proofs.Ytljajnednggebaa.P
set_option linter.unusedSimpArgs false
set_option linter.unusedVariables false
open Go.RowKit Go.Maps Go.Proofs.YtljajnednggebaaW.PrintWords Go.Proofs.YtljajnednggebaaW.PrintLast Go.Proofs.YtljajnednggebaaW.PrintMore
def tlt (x y : S35) : Prop := x.f0 < y.f0 ∨ (x.f0 = y.f0 ∧ x.f1 < y.f1)
instance (x y : S35) : Decidable (tlt x y) := by unfold tlt; infer_instance
theorem tcmp_lt (x y : S35) : tcmp x y < 0 ↔ tlt x y := by
  unfold tcmp ccmp tlt
  by_cases h1 : x.f0 < y.f0
  · simp [h1]
  · by_cases h2 : x.f0 > y.f0
    · simp [h1, h2]; omega
    · have : x.f0 = y.f0 := by omega
      by_cases h3 : x.f1 < y.f1
      · simp [this, h3]
      · by_cases h4 : x.f1 > y.f1 <;> simp [this, h3, h4]
theorem tlt_trans {x y z : S35} (h : tlt x y) (k : tlt y z) : tlt x z := by unfold tlt at *; omega
theorem tlt_irrefl (x : S35) : ¬ tlt x x := by unfold tlt; omega
theorem tlt_or (x y : S35) (h : ¬ tlt x y) : tlt y x ∨ x = y := by
  obtain ⟨a, b⟩ := x
  obtain ⟨c, d⟩ := y
  unfold tlt at *
  simp only [S35.mk.injEq] at *
  omega
abbrev TS (L : List S35) : Prop := L.Pairwise tlt
abbrev KD (L : List S35) : Prop := L.Pairwise (fun a b => a.f1 ≠ b.f1)
def dropL (L : List S35) (key : Int) : List S35 := L.filter fun o => !(o.f1 == key)
def putL : List S35 → S35 → List S35
  | [], T => [T]
  | o :: r, T => if tlt o T then o :: putL r T else T :: o :: r
def tm : List S35 → Int → Option Int
  | [], _ => none
  | o :: r, key => if o.f1 = key then some o.f0 else tm r key
def setL (L : List S35) (key a : Int) : List S35 := putL (dropL L key) ⟨a, key⟩
theorem tm_some {key a : Int} : ∀ (L : List S35), tm L key = some a → (⟨a, key⟩ : S35) ∈ L := by
  intro L
  induction L with
  | nil => intro h; simp [tm] at h
  | cons o r ih =>
    intro h
    simp only [tm] at h
    split at h
    · rename_i e
      injection h with h
      subst h; subst e
      exact List.mem_cons_self ..
    · exact List.mem_cons_of_mem _ (ih h)
theorem tm_none {key : Int} : ∀ (L : List S35), tm L key = none ↔ ∀ o ∈ L, o.f1 ≠ key := by
  intro L
  induction L with
  | nil => simp [tm]
  | cons o r ih =>
    simp only [tm]
    split
    · rename_i e; simp [e]
    · rename_i e; rw [ih]; simp [e]
theorem tm_mem {key a : Int} : ∀ (L : List S35), KD L → (⟨a, key⟩ : S35) ∈ L → tm L key = some a := by
  intro L
  induction L with
  | nil => intro _ h; simp at h
  | cons o r ih =>
    intro hk h
    have h0 := List.pairwise_cons.1 hk
    simp only [tm]
    rcases List.mem_cons.1 h with h | h
    · subst h; simp
    · rw [if_neg (h0.1 _ h), ih h0.2 h]
theorem mem_dropL {L : List S35} {key : Int} {o : S35} : o ∈ dropL L key ↔ o ∈ L ∧ o.f1 ≠ key := by simp [dropL]
theorem ts_dropL {L : List S35} (key : Int) (h : TS L) : TS (dropL L key) := h.filter _
theorem kd_dropL {L : List S35} (key : Int) (h : KD L) : KD (dropL L key) := h.filter _
theorem drop_none {L : List S35} {key : Int} (h : tm L key = none) : dropL L key = L := by
  unfold dropL
  rw [List.filter_eq_self]
  intro o ho
  have := (tm_none L).1 h o ho
  simpa using this
theorem drop_length (L : List S35) (key : Int) : (dropL L key).length ≤ L.length := List.length_filter_le _ _
theorem mem_putL {T : S35} : ∀ (L : List S35) (o : S35), o ∈ putL L T ↔ o = T ∨ o ∈ L := by
  intro L
  induction L with
  | nil => intro o; simp [putL]
  | cons a r ih =>
    intro o
    simp only [putL]
    split
    · simp only [List.mem_cons, ih]
      constructor
      · rintro (h | h | h)
        · exact .inr (.inl h)
        · exact .inl h
        · exact .inr (.inr h)
      · rintro (h | h | h)
        · exact .inr (.inl h)
        · exact .inl h
        · exact .inr (.inr h)
    · simp
theorem putL_length (T : S35) : ∀ (L : List S35), (putL L T).length = L.length + 1 := by
  intro L
  induction L with
  | nil => rfl
  | cons a r ih => simp only [putL]; split <;> simp [ih]
theorem ts_putL {T : S35} : ∀ (L : List S35), TS L → (∀ o ∈ L, o.f1 ≠ T.f1) → TS (putL L T) := by
  intro L
  induction L with
  | nil => intro _ _; simp [putL, TS]
  | cons a r ih =>
    intro h hk
    have h0 := List.pairwise_cons.1 h
    simp only [putL]
    split
    · rename_i hl
      refine List.pairwise_cons.2 ⟨fun o ho => ?_, ih h0.2 (fun o ho => hk o (List.mem_cons_of_mem _ ho))⟩
      rcases (mem_putL r o).1 ho with rfl | ho
      · exact hl
      · exact h0.1 o ho
    · rename_i hl
      have ha : tlt T a := by
        rcases tlt_or a T hl with h | h
        · exact h
        · exact absurd (by rw [h]) (hk a (List.mem_cons_self ..))
      refine List.pairwise_cons.2 ⟨fun o ho => ?_, h⟩
      rcases List.mem_cons.1 ho with rfl | ho
      · exact ha
      · exact tlt_trans ha (h0.1 o ho)
theorem kd_putL {T : S35} : ∀ (L : List S35), KD L → (∀ o ∈ L, o.f1 ≠ T.f1) → KD (putL L T) := by
  intro L
  induction L with
  | nil => intro _ _; simp [putL, KD]
  | cons a r ih =>
    intro h hk
    have h0 := List.pairwise_cons.1 h
    simp only [putL]
    split
    · refine List.pairwise_cons.2 ⟨fun o ho => ?_, ih h0.2 (fun o ho => hk o (List.mem_cons_of_mem _ ho))⟩
      rcases (mem_putL r o).1 ho with rfl | ho
      · exact hk a (List.mem_cons_self ..)
      · exact h0.1 o ho
    · exact List.pairwise_cons.2 ⟨fun o ho => (hk o ho).symm, h⟩
theorem trd_nat (Y : List S35) (t : Nat) (h : t < Y.length) : rd_T35 Y (t : Int) = Y[t] := by
  unfold rd_T35
  rw [Int.toNat_natCast, List.getD_eq_getElem?_getD, List.getElem?_eq_getElem h]
  rfl
theorem tsF_spec (T : S35) (Y : List S35) (hs : TS Y) : ∀ (k : Nat) (i j : Nat), i ≤ j → j ≤ Y.length → j - i < k → (∀ t (ht : t < Y.length), t < i → tlt (Y[t]) T) → (∀ t (ht : t < Y.length), j ≤ t → ¬ tlt (Y[t]) T) →
    ∃ r : Nat, tsF T Y k i j = r ∧ r ≤ Y.length ∧ (∀ t (ht : t < Y.length), t < r → tlt (Y[t]) T) ∧ (∀ t (ht : t < Y.length), r ≤ t → ¬ tlt (Y[t]) T) := by
  intro k
  induction k with
  | zero => intro i j h1 h2 h3; omega
  | succ k ih =>
    intro i j h1 h2 h3 h4 h5
    simp only [tsF]
    split
    · rename_i hij
      have hm : ((i : Int) + (j : Int)) / 2 = (((i + j) / 2 : Nat) : Int) := by omega
      have hml : (i + j) / 2 < Y.length := by omega
      rw [hm, trd_nat Y _ hml]
      split
      · rename_i hlt
        rw [tcmp_lt] at hlt
        rw [show (((i + j) / 2 : Nat) : Int) + 1 = (((i + j) / 2 + 1 : Nat) : Int) by omega]
        refine ih ((i + j) / 2 + 1) j (by omega) h2 (by omega) (fun t ht htl => ?_) h5
        rcases Nat.lt_or_ge t ((i + j) / 2) with h | h
        · exact tlt_trans (List.pairwise_iff_getElem.1 hs t ((i + j) / 2) ht hml h) hlt
        · obtain rfl : t = (i + j) / 2 := by omega
          exact hlt
      · rename_i hge
        rw [tcmp_lt] at hge
        refine ih i ((i + j) / 2) (by omega) (by omega) (by omega) h4 (fun t ht htl => ?_)
        rcases Nat.lt_or_ge ((i + j) / 2) t with h | h
        · have := List.pairwise_iff_getElem.1 hs ((i + j) / 2) t hml ht h
          exact fun hh => hge (tlt_trans this hh)
        · obtain rfl : t = (i + j) / 2 := by omega
          exact hge
    · exact ⟨i, rfl, by omega, h4, fun t ht htl => h5 t ht (by omega)⟩
theorem ts_parts (T : S35) (Y : List S35) (hs : TS Y) : ∃ L R : List S35, Y = L ++ R ∧ tsAt Y T = L.length ∧ (∀ o ∈ L, tlt o T) ∧ (∀ o ∈ R, ¬ tlt o T) := by
  obtain ⟨r, h1, h2, h3, h4⟩ := tsF_spec T Y hs (Y.length + 1) 0 Y.length (Nat.zero_le _) (Nat.le_refl _) (by omega) (fun t _ h => by omega) (fun t ht h => by omega)
  refine ⟨Y.take r, Y.drop r, (List.take_append_drop r Y).symm, by rw [List.length_take, Nat.min_eq_left h2]; exact h1, fun o ho => ?_, fun o ho => ?_⟩
  · obtain ⟨t, ht, rfl⟩ := List.mem_iff_getElem.1 ho
    rw [List.length_take] at ht
    rw [List.getElem_take]
    exact h3 t (by omega) (by omega)
  · obtain ⟨t, ht, rfl⟩ := List.mem_iff_getElem.1 ho
    rw [List.length_drop] at ht
    rw [List.getElem_drop]
    exact h4 (r + t) (by omega) (by omega)
theorem putL_app (T : S35) : ∀ (L R : List S35), (∀ o ∈ L, tlt o T) → putL (L ++ R) T = L ++ putL R T := by
  intro L R
  induction L with
  | nil => intro _; rfl
  | cons o r ih => intro h; simp only [List.cons_append, putL]; rw [if_pos (h o (List.mem_cons_self ..)), ih (fun x hx => h x (List.mem_cons_of_mem _ hx))]
/-- where one is put in -/
theorem put_at (T : S35) (Y : List S35) (hs : TS Y) : ∃ k : Nat, tsAt Y T = k ∧ k ≤ Y.length ∧ Y.take k ++ T :: Y.drop k = putL Y T := by
  obtain ⟨L, R, rfl, hb, hL, hR⟩ := ts_parts T Y hs
  refine ⟨L.length, hb, by simp, ?_⟩
  rw [putL_app T L R hL]
  have : putL R T = T :: R := by
    cases R with
    | nil => rfl
    | cons o r => simp only [putL]; rw [if_neg (hR o (List.mem_cons_self ..))]
  rw [this]
  simp
/-- where one is taken out -/
theorem drop_at (key a : Int) (Y : List S35) (hs : TS Y) (hk : KD Y) (hm : tm Y key = some a) : ∃ k : Nat, tsAt Y ⟨a, key⟩ = k ∧ k < Y.length ∧ Y.eraseIdx k = dropL Y key := by
  obtain ⟨L, R, rfl, hb, hL, hR⟩ := ts_parts ⟨a, key⟩ Y hs
  have hin := tm_some _ hm
  have hnL : (⟨a, key⟩ : S35) ∉ L := fun h => tlt_irrefl _ (hL _ h)
  have hinR : (⟨a, key⟩ : S35) ∈ R := (List.mem_append.1 hin).resolve_left hnL
  cases R with
  | nil => simp at hinR
  | cons o r =>
    have ho : o = ⟨a, key⟩ := by
      rcases List.mem_cons.1 hinR with h | h
      · exact h.symm
      · have := (List.pairwise_cons.1 (List.pairwise_append.1 hs).2.1).1 _ h
        exact absurd this (hR o (List.mem_cons_self ..))
    subst ho
    refine ⟨L.length, hb, by simp, ?_⟩
    rw [List.eraseIdx_append_of_length_le (Nat.le_refl _)]
    have k1 := List.pairwise_append.1 hk
    have hl : ∀ x ∈ L, (!(x.f1 == key)) = true := fun x hx => by
      have := k1.2.2 x hx ⟨a, key⟩ (List.mem_cons_self ..)
      simpa using this
    have hr : ∀ x ∈ r, (!(x.f1 == key)) = true := fun x hx => by
      have := (List.pairwise_cons.1 k1.2.1).1 x hx
      simpa using this.symm
    unfold dropL
    rw [List.filter_append, List.filter_eq_self.2 hl, List.filter_cons_of_neg (by simp), List.filter_eq_self.2 hr]
    simp
/-! the map -/
abbrev KI (key : Int) : Lit := .int .i64 key
def MapOf (D : DataW Unit) (L : List S35) : Prop := ∀ key : Int, (Lit.int .i64 key).wf = true →
  (∀ a, tm L key = some a → Maps.has D (KI key) = true ∧ D.atKey (KI key) (.lit (.int .i64 0)) = .lit (.int .i64 a)) ∧ (tm L key = none → Maps.has D (KI key) = false)
theorem tm_drop_same (L : List S35) (key : Int) : tm (dropL L key) key = none := (tm_none _).2 fun o ho => (mem_dropL.1 ho).2
theorem tm_drop_other (L : List S35) (key k2 : Int) (h : k2 ≠ key) : tm (dropL L key) k2 = tm L k2 := by
  induction L with
  | nil => rfl
  | cons o r ih =>
    unfold dropL at ih ⊢
    rw [List.filter_cons]
    by_cases he : o.f1 = key
    · rw [if_neg (by simp [he]), ih]
      simp only [tm]
      rw [if_neg (by omega)]
    · rw [if_pos (by simp [he])]
      simp only [tm, ih]
theorem tm_put {T : S35} : ∀ (L : List S35) (k2 : Int), (∀ o ∈ L, o.f1 ≠ T.f1) → tm (putL L T) k2 = if T.f1 = k2 then some T.f0 else tm L k2 := by
  intro L
  induction L with
  | nil => intro k2 _; simp [putL, tm]
  | cons o r ih =>
    intro k2 h
    have ho := h o (List.mem_cons_self ..)
    have hr := fun x hx => h x (List.mem_cons_of_mem _ hx)
    simp only [putL]
    split
    · simp only [tm, ih k2 hr]
      by_cases e1 : o.f1 = k2
      · rw [if_pos e1, if_pos e1, if_neg (by omega)]
      · rw [if_neg e1, if_neg e1]
    · simp only [tm]
end Go.Proofs.Ytljajnednggebaa.P
