/- Layer 4, plain: check and size of an object. -/
import Derived.Test.YtmcmemknikineaaEpInt
import Derived.Test.YtmcmemknikineaaP5
import Derived.Test.YtmcmemknikineaaP6
import Derived.Test.YtmcmemknikineaaP9
import Derived.Test.YtmcmemknikineaaP7
import Derived.Test.YtmcmemknikineaaP10
import Derived.Test.YtmcmemknikineaaP20
import Derived.Test.YtmcmemknikineaaP11
namespace Go.Proofs.Ytmcmemknikineaa.P
set_option linter.unusedSimpArgs false
set_option linter.unusedVariables false
open Go.RowKit Go.Proofs.YtmcmemknikineaaW.PrintWords Go.Proofs.YtmcmemknikineaaW.PrintLast Go.Proofs.YtmcmemknikineaaW.PrintMore
theorem awake04 : Ev (fun k => thalweglaw04_awake.f k) true := Ev.of (fun k => thalweglaw04_awake.mono k) (k := 10) (by decide +kernel)
theorem hc_ev (n : Bool) (a b c d e : Int) : ∃ r, (r = 0 ∨ r = 1) ∧ Ev (fun k => height_Check.f k n a b c d e) r := by
  have hj : ∀ x, ∃ r, (r = 0 ∨ r = 1) ∧ Ev (fun k => height_Check.j0 k x n a b c d e) r := by
    intro x
    have h : ∃ r, (r = 0 ∨ r = 1) ∧ ∀ k, height_Check.j0 (k + 1) x n a b c d e = some r := by
      simp only [height_Check.j0, height_Null.f, Option.bind_some]
      repeat' split
      all_goals first
        | exact ⟨0, .inl rfl, fun _ => rfl⟩
        | exact ⟨1, .inr rfl, fun _ => rfl⟩
    obtain ⟨r, hr, h⟩ := h
    exact ⟨r, hr, Ev.from 1 h⟩
  unfold height_Check.f
  by_cases h : e ≥ 0
  · simp only [if_pos h]; exact hj _
  · simp only [if_neg h]; exact hj _
theorem oc1_ev (x4 : Bool) (a0 a1 : Int) (a2 : Bool) (a3 a4 a5 a6 a7 a8 a9 a10 a11 b0 b1 : Int) (b2 : Bool) (b3 b4 b5 b6 b7 b8 b9 b10 b11 : Int) :
    ∃ r, (r = 0 ∨ r = 1) ∧ Ev (fun k => object_Check.j1 k x4 a0 a1 a2 a3 a4 a5 a6 a7 a8 a9 a10 a11 b0 b1 b2 b3 b4 b5 b6 b7 b8 b9 b10 b11) r ∧ (r = 0 → x4 = true ∧ Ev (fun k => height_Check.f k a2 a3 a4 a5 a6 a7) 0) := by
  cases x4 with
  | false => exact ⟨1, .inr rfl, Ev.from 1 (fun k => by simp only [object_Check.j1]; rfl), fun h => by omega⟩
  | true =>
    obtain ⟨c, hc, he⟩ := hc_ev a2 a3 a4 a5 a6 a7
    rcases hc with rfl | rfl
    · by_cases hq : (!(b0 == 0) || (!(b1 == 0) || ((!(b8 == 0) || (!(b9 == 0) || (!(b10 == 0)))) || (!(b11 == 0))))) = true
      · refine ⟨1, .inr rfl, ?_, fun h => by omega⟩
        refine Ev.step (f := fun k => _) (fun k => by simp only [object_Check.j1]; rfl) ?_
        simp only [if_true]
        refine Ev.bind he ?_
        simp only [if_true, if_pos hq]
        exact Ev.now _
      · refine ⟨0, .inl rfl, ?_, fun _ => ⟨rfl, he⟩⟩
        refine Ev.step (f := fun k => _) (fun k => by simp only [object_Check.j1]; rfl) ?_
        simp only [if_true]
        refine Ev.bind he ?_
        simp only [if_true, if_neg hq]
        exact Ev.now _
    · refine ⟨1, .inr rfl, ?_, fun h => by omega⟩
      refine Ev.step (f := fun k => _) (fun k => by simp only [object_Check.j1]; rfl) ?_
      simp only [if_true]
      refine Ev.bind he ?_
      simp only [if_neg (show ¬ (1 : Int) = 0 by decide)]
      exact Ev.now _
theorem ha_ev (a b c d e : Int) : ∃ t, Ev (fun k => height_At.f k a b c d e) t := by
  obtain ⟨r, _, hr⟩ := hc_ev false a b c d e
  unfold height_At.f
  by_cases h : r = 0
  · subst h
    exact ⟨_, Ev.bind hr (by simp only [if_true]; exact Ev.now _)⟩
  · exact ⟨_, Ev.bind hr (by simp only [if_neg h]; exact Ev.now _)⟩
/-- What an object that is right is like. -/
def RightO (a0 : Int) (a2 : Bool) (a3 a4 a5 a6 a7 : Int) : Prop := a0 = 1 ∨ a0 = 3 ∨ ((a0 = 2 ∨ (a0 = 4 ∧ a2 = false)) ∧ Ev (fun k => height_Check.f k a2 a3 a4 a5 a6 a7) 0)
theorem oc0_ev (x4 : Bool) (a0 a1 : Int) (a2 : Bool) (a3 a4 a5 a6 a7 a8 a9 a10 a11 b0 b1 : Int) (b2 : Bool) (b3 b4 b5 b6 b7 b8 b9 b10 b11 : Int) :
    ∃ r, Ev (fun k => object_Check.j0 k x4 a0 a1 a2 a3 a4 a5 a6 a7 a8 a9 a10 a11 b0 b1 b2 b3 b4 b5 b6 b7 b8 b9 b10 b11) r ∧ (r = 0 → RightO a0 a2 a3 a4 a5 a6 a7) := by
  by_cases h1 : a0 = 1
  · have h : ∃ r, ∀ k, object_Check.j0 (k + 1) x4 a0 a1 a2 a3 a4 a5 a6 a7 a8 a9 a10 a11 b0 b1 b2 b3 b4 b5 b6 b7 b8 b9 b10 b11 = some r := by
      simp only [object_Check.j0, if_pos h1]
      repeat' split
      all_goals first
        | exact ⟨0, fun _ => rfl⟩
        | exact ⟨1, fun _ => rfl⟩
    obtain ⟨r, h⟩ := h
    exact ⟨r, Ev.from 1 h, fun _ => .inl h1⟩
  by_cases h4 : a0 = 4
  · have hfin : ∀ x2 : Bool, ∀ r, Ev (fun k => object_Check.j1 k x4 a0 a1 a2 a3 a4 a5 a6 a7 a8 a9 a10 a11 b0 b1 b2 b3 b4 b5 b6 b7 b8 b9 b10 b11) r → True := fun _ _ _ => trivial
    cases x4 with
    | false =>
      obtain ⟨r, _, he, hz⟩ := oc1_ev false a0 a1 a2 a3 a4 a5 a6 a7 a8 a9 a10 a11 b0 b1 b2 b3 b4 b5 b6 b7 b8 b9 b10 0
      refine ⟨r, ?_, fun h => by have := (hz h).1; cases this⟩
      refine Ev.step (f := fun k => _) (fun k => by simp only [object_Check.j0]; rfl) ?_
      simp only [if_neg h1, if_pos h4, Bool.false_eq_true, if_false]
      exact he
    | true =>
      cases a2 with
      | true =>
        obtain ⟨r, _, he, hz⟩ := oc1_ev false a0 a1 true a3 a4 a5 a6 a7 a8 a9 a10 a11 b0 b1 b2 b3 b4 b5 b6 b7 b8 b9 b10 0
        refine ⟨r, ?_, fun h => by have := (hz h).1; cases this⟩
        refine Ev.step (f := fun k => _) (fun k => by simp only [object_Check.j0]; rfl) ?_
        simp only [if_neg h1, if_pos h4, if_true]
        exact he
      | false =>
        by_cases h11 : a11 ≥ 0
        · obtain ⟨r, _, he, hz⟩ := oc1_ev (decide (a11 ≤ 65535)) a0 a1 false a3 a4 a5 a6 a7 a8 a9 a10 a11 b0 b1 b2 b3 b4 b5 b6 b7 b8 b9 b10 0
          refine ⟨r, ?_, fun h => .inr (.inr ⟨.inr ⟨h4, rfl⟩, (hz h).2⟩)⟩
          refine Ev.step (f := fun k => _) (fun k => by simp only [object_Check.j0]; rfl) ?_
          simp only [if_neg h1, if_pos h4, if_true, Bool.false_eq_true, if_false, if_pos h11]
          exact he
        · obtain ⟨r, _, he, hz⟩ := oc1_ev false a0 a1 false a3 a4 a5 a6 a7 a8 a9 a10 a11 b0 b1 b2 b3 b4 b5 b6 b7 b8 b9 b10 0
          refine ⟨r, ?_, fun h => by have := (hz h).1; cases this⟩
          refine Ev.step (f := fun k => _) (fun k => by simp only [object_Check.j0]; rfl) ?_
          simp only [if_neg h1, if_pos h4, if_true, Bool.false_eq_true, if_false, if_neg h11]
          exact he
  by_cases h2 : a0 = 2
  · obtain ⟨r, _, he, hz⟩ := oc1_ev x4 a0 a1 a2 a3 a4 a5 a6 a7 a8 a9 a10 a11 b0 b1 b2 b3 b4 b5 b6 b7 b8 b9 b10 b11
    refine ⟨r, ?_, fun h => .inr (.inr ⟨.inl h2, (hz h).2⟩)⟩
    refine Ev.step (f := fun k => _) (fun k => by simp only [object_Check.j0]; rfl) ?_
    simp only [if_neg h1, if_neg h4, if_pos h2]
    exact he
  by_cases h3 : a0 = 3
  · obtain ⟨t, ht⟩ := ha_ev a8 a9 a10 0 0
    have h : ∃ r : Int, ∀ k : Nat, (fun (_ : Nat) (bt115 : Bool × Int × Int × Int × Int × Int × Int) => if x4 = true then (if bt115.2.2.2.2.2.2 = 0 then (if (!(b0 == 0) || (!(b1 == 0) || ((b2 || (!(b3 == 0) || (!(b4 == 0) || (!(b5 == 0) || (!(b6 == 0) || (!(b7 == 0))))))) || (!(b11 == 0))))) = true then some (1 : Int) else some 0) else some 1) else some 1) k t = some r := by
      dsimp only
      repeat' split
      all_goals first
        | exact ⟨0, fun _ => rfl⟩
        | exact ⟨1, fun _ => rfl⟩
    obtain ⟨r, h⟩ := h
    refine ⟨r, ?_, fun _ => .inr (.inl h3)⟩
    refine Ev.step (f := fun k => _) (fun k => by simp only [object_Check.j0]; rfl) ?_
    simp only [if_neg h1, if_neg h4, if_neg h2, if_pos h3]
    exact Ev.bind ht (Ev.const h)
  · refine ⟨1, ?_, fun h => by omega⟩
    refine Ev.step (f := fun k => _) (fun k => by simp only [object_Check.j0]; rfl) ?_
    simp only [if_neg h1, if_neg h4, if_neg h2, if_neg h3]
    exact Ev.now _
theorem oc_ev (a0 a1 : Int) (a2 : Bool) (a3 a4 a5 a6 a7 a8 a9 a10 a11 : Int) :
    ∃ r, Ev (fun k => object_Check.f k a0 a1 a2 a3 a4 a5 a6 a7 a8 a9 a10 a11) r ∧ (r = 0 → RightO a0 a2 a3 a4 a5 a6 a7) := by
  unfold object_Check.f
  by_cases h : a1 ≥ 0
  · simp only [if_pos h]; exact oc0_ev _ _ _ _ _ _ _ _ _ _ _ _ _ _ _ _ _ _ _ _ _ _ _ _ _
  · simp only [if_neg h]; exact oc0_ev _ _ _ _ _ _ _ _ _ _ _ _ _ _ _ _ _ _ _ _ _ _ _ _ _
theorem intSpec_length (v : Int) : (intSpec v).length = 8 := be_length _ _
theorem hb_ev (n : Bool) (a b c d e : Int) (h : Ev (fun k => height_Check.f k n a b c d e) 0) : ∃ out, Ev (fun k => height_Bytes.f k n a b c d e) (out, 0) ∧ out.length = if n = true then 2 else 20 := by
  unfold height_Bytes.f
  cases n with
  | true =>
    refine ⟨[0, e % 256], Ev.bind h ?_, ?_⟩
    · simp only [if_true, List.length_nil, List.nil_append, Option.bind_some, List.length_singleton]
      simp only [show (0 : Nat) < 140737488355328 by decide, show (1 : Nat) < 140737488355328 by decide, if_true]
      exact Ev.now _
    · rfl
  | false =>
    refine ⟨[1] ++ intSpec a ++ [b % 256, c % 256] ++ intSpec d ++ [e % 256], Ev.bind h ?_, ?_⟩
    · simp only [if_true, Bool.false_eq_true, if_false, List.length_nil, List.nil_append, Option.bind_some, List.length_singleton, wire_Int_eq, List.length_append, intSpec_length, List.length_cons]
      simp only [show (0 : Nat) < 140737488355328 by decide, Nat.reduceAdd, Nat.reduceLT, if_true]
      exact Ev.now _
    · simp only [List.length_append, intSpec_length, List.length_cons, List.length_nil]
      rfl
/-- How many bytes an object has. -/
def sizeO (a0 : Int) (a2 : Bool) : Nat := if a0 = 1 then 2 else if a0 = 3 then 12 else if a0 = 4 then 24 else if a2 = true then 4 else 22
theorem ob_ev (a0 a1 : Int) (a2 : Bool) (a3 a4 a5 a6 a7 a8 a9 a10 a11 : Int) (h : Ev (fun k => object_Check.f k a0 a1 a2 a3 a4 a5 a6 a7 a8 a9 a10 a11) 0) (hr : RightO a0 a2 a3 a4 a5 a6 a7) :
    ∃ out, Ev (fun k => object_Bytes.f k a0 a1 a2 a3 a4 a5 a6 a7 a8 a9 a10 a11) (out, 0) ∧ out.length = sizeO a0 a2 := by
  unfold object_Bytes.f
  rcases hr with rfl | rfl | ⟨hk, hh⟩
  · refine ⟨[1 % 256, a1 % 256], Ev.bind h ?_, ?_⟩
    · simp only [if_true, Option.bind_some, if_neg (show ¬ (1 : Int) = 2 by decide), show ((1 : Int) == 4) = false by decide]
      refine Ev.step (f := fun k => _) (fun k => by simp only [object_Bytes.j0]; rfl) ?_
      simp only [Bool.false_eq_true, if_false, if_neg (show ¬ (1 : Int) = 3 by decide), if_neg (show ¬ (1 : Int) = 4 by decide)]
      exact Ev.now _
    · rfl
  · refine ⟨[3 % 256, a1 % 256] ++ intSpec a8 ++ [a9 % 256, a10 % 256], Ev.bind h ?_, ?_⟩
    · simp only [if_true, Option.bind_some, if_neg (show ¬ (3 : Int) = 2 by decide), show ((3 : Int) == 4) = false by decide]
      refine Ev.step (f := fun k => _) (fun k => by simp only [object_Bytes.j0]; rfl) ?_
      simp only [Bool.false_eq_true, if_false, if_true, wire_Int_eq, Option.bind_some, List.length_append, intSpec_length, List.length_cons, List.length_nil, Nat.reduceAdd, Nat.reduceLT, if_neg (show ¬ (3 : Int) = 4 by decide)]
      exact Ev.now _
    · simp only [List.length_append, intSpec_length, List.length_cons, List.length_nil]
      rfl
  · obtain ⟨b, hb, hl⟩ := hb_ev a2 a3 a4 a5 a6 a7 hh
    rcases hk with rfl | ⟨rfl, rfl⟩
    · refine ⟨[2 % 256, a1 % 256] ++ b, Ev.bind h ?_, ?_⟩
      · simp only [if_true, Option.bind_some, show ((2 : Int) == 2) = true by decide]
        refine Ev.step (f := fun k => _) (fun k => by simp only [object_Bytes.j0]; rfl) ?_
        simp only [if_true]
        refine Ev.bind hb ?_
        have : [2 % 256, a1 % 256].length + b.length < 140737488355328 := by rw [hl]; simp; split <;> omega
        simp only [if_true, if_pos this, Option.bind_some, if_neg (show ¬ (2 : Int) = 4 by decide)]
        exact Ev.now _
      · rw [List.length_append, hl]; cases a2 <;> rfl
    · refine ⟨([4 % 256, a1 % 256] ++ b) ++ [(a11 / 256) % 256, a11 % 256], Ev.bind h ?_, ?_⟩
      · simp only [if_true, Option.bind_some, if_neg (show ¬ (4 : Int) = 2 by decide), show ((4 : Int) == 4) = true by decide]
        refine Ev.step (f := fun k => _) (fun k => by simp only [object_Bytes.j0]; rfl) ?_
        simp only [if_true]
        refine Ev.bind hb ?_
        have h20 : b.length = 20 := by simpa using hl
        simp only [List.length_append, List.length_cons, List.length_nil, h20, Nat.reduceAdd, Nat.reduceLT, if_true, Option.bind_some]
        exact Ev.now _
      · rw [List.length_append, List.length_append, hl]; rfl
theorem ob_no (a0 a1 : Int) (a2 : Bool) (a3 a4 a5 a6 a7 a8 a9 a10 a11 c : Int) (h : Ev (fun k => object_Check.f k a0 a1 a2 a3 a4 a5 a6 a7 a8 a9 a10 a11) c) (hc : c ≠ 0) :
    Ev (fun k => object_Bytes.f k a0 a1 a2 a3 a4 a5 a6 a7 a8 a9 a10 a11) ([], c) := by
  unfold object_Bytes.f
  refine Ev.bind h ?_
  simp only [if_neg hc]
  exact Ev.now _
theorem os_ev (a0 a1 : Int) (a2 : Bool) (a3 a4 a5 a6 a7 a8 a9 a10 a11 : Int) (out : List Int × Int) (h : Ev (fun k => object_Bytes.f k a0 a1 a2 a3 a4 a5 a6 a7 a8 a9 a10 a11) out) :
    Ev (fun k => object_Size.f k a0 a1 a2 a3 a4 a5 a6 a7 a8 a9 a10 a11) (out.1.length : Int) := by
  unfold object_Size.f
  exact Ev.bind h (Ev.now _)
end Go.Proofs.Ytmcmemknikineaa.P
