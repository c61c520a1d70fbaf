/- Layer 11: what the laws ask of a wheel. -/
import Derived.Test.YtljajnednggebaaEwz
namespace Go.Proofs.Ytljajnednggebaa.P
set_option linter.unusedSimpArgs false
set_option linter.unusedVariables false
open Go.RowKit Go.Maps Go.Proofs.YtljajnednggebaaW.PrintWords Go.Proofs.YtljajnednggebaaW.PrintLast Go.Proofs.YtljajnednggebaaW.PrintMore
open Classical
def Rg (L : List S35) : Prop := ∀ o ∈ L, 0 ≤ o.f0 ∧ o.f0 ≤ 1000000000000 ∧ 0 ≤ o.f1
theorem Rg.nil : Rg [] := fun o h => by cases h
theorem rg_set {L : List S35} (h : Rg L) (key t : Int) : Rg (setR L key t) := by
  unfold setR
  split
  · rename_i e
    intro o ho
    unfold setL at ho
    rcases (mem_putL _ o).1 ho with rfl | ho
    · unfold setE at e
      split at e
      · cases e
      · rename_i hn
        simp only [not_or] at hn
        exact ⟨by show 0 ≤ t; omega, by show t ≤ _; omega, by show 0 ≤ key; omega⟩
    · exact h o (mem_dropL.1 ho).1
  · exact h
/-- a script's calls can be laid: its numbers are numbers -/
def OkS (X : List S29) : Prop := ∀ o ∈ X, wf64 o.f1 ∧ wf64 o.f2
theorem OkS.at {X : List S29} (h : OkS X) {x : Int} (h0 : 0 ≤ x) (h1 : x < (X.length : Int)) : wf64 (rd_T29 X x).f1 ∧ wf64 (rd_T29 X x).f2 := by
  have hx : x.toNat < X.length := by omega
  have : rd_T29 X x = X[x.toNat] := by unfold rd_T29; simp [List.getD_eq_getElem?_getD, hx]
  rw [this]
  exact h _ (List.getElem_mem hx)
theorem due_all {L : List S35} (h : Rg L) : dueN L 1000000000000 = L.length := by
  exact due_at L _ L.length (Nat.le_refl _) (fun j hj _ => (h _ (List.getElem_mem hj)).2.1) (.inl rfl)
theorem all_due {w0 w : World} {F : Nat → Prop} {g N : Nat} {L : List S35} (h : Wst w0 F w g N L) (hr : Rg L) :
    Calls Try.prog 12 #[.pointer (some ⟨g, 0, none⟩), .int .i64 1000000000000] w fun e w' => ∃ A c F', e = .returned (.slice A L.length c) ∧ (∀ k, F' k → F k ∨ w.heap.size ≤ k) ∧ Fr w F w' ∧ Wst w0 F' w' g N [] ∧ (Kd.int .i64).C w' A L.length (L.map S35.f1) ∧ L.length ≤ c := by
  refine (due_w h 1000000000000).mono ?_
  rintro e w' ⟨v, Ax, cx, rfl, F', h1, h2, h3, _, h5⟩
  rw [due_all hr] at h3 h5
  rw [List.take_length] at h5
  rw [List.drop_length] at h3
  obtain ⟨A, c, rfl, hlc, hC⟩ := Kd.R_reads h5
  rw [List.length_map] at hlc hC
  exact ⟨A, c, F', by rw [List.length_map], h1, h2, h3, hC, hlc⟩
theorem next_e {w0 w : World} {F : Nat → Prop} {g N : Nat} {L : List S35} {a : Int} {b : Bool} (h : Wst w0 F w g N L) (hn : nextL L = (a, b)) :
    Calls Try.prog 13 #[.pointer (some ⟨g, 0, none⟩)] w fun e w' => e = .returned (.tuple #[.int .i64 a, .bool b]) ∧ w = w' := by
  have := next_w h
  rw [hn] at this
  exact this
theorem list_n {w0 w : World} {F : Nat → Prop} {g N n : Nat} {L : List S35} (h : Wst w0 F w g N L) (hn : L.length = n) :
    Calls Try.prog 11 #[.pointer (some ⟨g, 0, none⟩)] w fun e w' => ∃ A c, e = .returned (.slice A n c) ∧ k35.C w' A n L ∧ n ≤ c ∧ Below w.heap.size w w' := by
  subst hn
  refine (list_w h).mono ?_
  rintro e w' ⟨v, rfl, ho, hb⟩
  obtain ⟨A, c, rfl, hlc, hC⟩ := Kd.R_reads ho
  exact ⟨A, c, rfl, hC, hlc, hb⟩
theorem ints_n {A0 : Option Addr} {c0 : Nat} {A1 : Option Addr} {c1 n : Nat} {L : List Int} {w : World} (hr0 : Kd.C (Kd.int .i64) w A0 n L) (hc0 : n ≤ c0) (hr1 : Kd.C (Kd.int .i64) w A1 n L) (hc1 : n ≤ c1) (hn : L.length = n) (hL : n ≤ 1000000000000) :
    Calls Try.prog 14 #[.slice A0 n c0, .slice A1 n c1] w fun e w' => e = .returned (.bool true) ∧ Drawn0 w w' := by
  subst hn
  exact ints_same A0 c0 A1 c1 L w hr0 hc0 hr1 hc1 hL
theorem row_n {α : Type} {d : Kd α} {t : Nat} {w : World} {base n : Nat} {ok : Nat → Prop} {v : Value} {X : List α} (h : d.R t w base ok v X) (hn : X.length = n) : ∃ A c, v = .slice A n c ∧ n ≤ c := by
  subst hn
  obtain ⟨A, c, e, h, _⟩ := Kd.R_reads h
  exact ⟨A, c, e, h⟩
theorem row_C {α : Type} {d : Kd α} {t : Nat} {w : World} {base n c : Nat} {ok : Nat → Prop} {A : Option Addr} {X : List α} (h : d.R t w base ok (.slice A n c) X) (hn : X.length = n) : d.C w A n X := by
  subst hn
  exact (Kd.R_reads' h).2.2
theorem rd35_at {L : List S35} {x : Int} (h0 : 0 ≤ x) (h1 : x < (L.length : Int)) : rd_T35 L x = L[x.toNat]'(by omega) := by
  rw [← trd_nat L x.toNat (by omega)]; congr 1; omega
theorem next_pos {L : List S35} (h : 0 < L.length) : nextL L = ((rd_T35 L 0).f0, true) := by
  cases L with
  | nil => simp at h
  | cons o r => rfl
theorem next_zero {L : List S35} (h : L.length = 0) : nextL L = (0, false) := by
  cases L with
  | nil => rfl
  | cons o r => simp at h
theorem DuS.read {w0 w wr : World} {F : Nat → Prop} {g N i j : Nat} {L : List S35} {Ax : Option Addr} {cx : Nat} {v5 : Value} (h : DuS w0 w F wr g N L i j Ax cx v5) : Kd.C k35 wr Ax L.length L := by
  obtain ⟨F', _, _, _, h4, _⟩ := h
  exact (Kd.R_reads' h4).2.2
end Go.Proofs.Ytljajnednggebaa.P
