/- PacketApart: the plain law: two packets' bytes tell them apart, none is the beginning of the other's. -/
import Derived.Test.YthfbnlimoagihaaEp08
import Derived.Test.YthfbnlimoagihaaSPacketApart
import Derived.Test.YthfbnlimoagihaaP8
namespace Go.Proofs.Ythfbnlimoagihaa.P
set_option linter.unusedSimpArgs false
set_option linter.unusedVariables false
open Go.RowKit Go.Proofs.YthfbnlimoagihaaW.PrintWords Go.Proofs.YthfbnlimoagihaaW.PrintLast Go.Proofs.YthfbnlimoagihaaW.PrintMore
/-- As far as both go they are alike. -/
def Pre (X Y : List Int) : Prop := X.take (min X.length Y.length) = Y.take (min X.length Y.length)
theorem Pre.cons {x y : Int} {X Y : List Int} (h : Pre (x :: X) (y :: Y)) : x = y ∧ Pre X Y := by
  unfold Pre at h ⊢
  rw [List.length_cons, List.length_cons, show min (X.length + 1) (Y.length + 1) = min X.length Y.length + 1 by omega, List.take_succ_cons, List.take_succ_cons] at h
  exact List.cons.inj h
theorem Pre.same {X Y : List Int} (h : Pre X Y) (hl : X.length = Y.length) : X = Y := by
  unfold Pre at h
  rw [hl, Nat.min_self, List.take_length, ← hl, List.take_length] at h
  exact h
theorem Pre.refl (X : List Int) : Pre X X := rfl
theorem pB_pre {a b c d a' b' c' d' : Int} {s s' : ByteArray} (h : RP a b c d s) (h' : RP a' b' c' d' s') (hp : Pre (pB a b c d s) (pB a' b' c' d' s')) : a = a' ∧ b = b' ∧ c = c' ∧ d = d' ∧ s = s' := by
  unfold pB at hp
  simp only [List.cons_append, List.nil_append] at hp
  obtain ⟨e0, hp⟩ := hp.cons
  obtain ⟨e1, hp⟩ := hp.cons
  obtain ⟨e2, hp⟩ := hp.cons
  obtain ⟨e3, hp⟩ := hp.cons
  obtain ⟨e4, hp⟩ := hp.cons
  obtain ⟨e5, hp⟩ := hp.cons
  obtain ⟨e6, hp⟩ := hp.cons
  obtain ⟨k0, k1, k2, k3, k4⟩ := h
  obtain ⟨j0, j1, j2, j3, j4⟩ := h'
  refine ⟨by omega, by omega, by omega, by omega, ?_⟩
  have hs : s.size = s'.size := by omega
  exact bytesOf_inj (hp.same (by rw [bytesOf_length, bytesOf_length, hs]))
end Go.Proofs.Ythfbnlimoagihaa.P
namespace Go.Proofs.Ythfbnlimoagihaa.Pure
set_option linter.unusedSimpArgs false
set_option linter.unusedVariables false
open Go.RowKit Go.Proofs.Ythfbnlimoagihaa.P Go.Proofs.YthfbnlimoagihaaW.PrintWords Go.Proofs.YthfbnlimoagihaaW.PrintLast Go.Proofs.YthfbnlimoagihaaW.PrintMore
theorem bytes_take {l : List Int} (h : Bytes l) (n : Nat) : Bytes (l.take n) := fun x hx => h x (List.mem_of_mem_take hx)
theorem apart_ev (a b c d : Int) (s : ByteArray) (a' b' c' d' : Int) (s' : ByteArray) : Ev (fun k => thalweglaw08_PacketApart.f k a b c d s a' b' c' d' s') true := by
  have bad : ∀ X Y, Ev (fun k => thalweglaw08_PacketApart.j1 k X Y true a b c d s a' b' c' d' s') true := by
    intro X Y
    refine Ev.step (f := fun k => _) (fun k => by simp only [thalweglaw08_PacketApart.j1]; rfl) ?_
    simp only [if_true]
    exact Ev.bind awake08 (Ev.now _)
  have hj : ∀ t : Bool, Ev (fun k => thalweglaw08_PacketApart.j0 k t a b c d s a' b' c' d' s') true := by
    intro t
    refine Ev.step (f := fun k => _) (fun k => by simp only [thalweglaw08_PacketApart.j0]; rfl) ?_
    cases t with
    | true =>
      simp only [if_true]
      exact Ev.now _
    | false =>
      simp only [Bool.false_eq_true, if_false]
      by_cases ha : RP a b c d s
      · refine Ev.bind (pb_eq _ _ _ _ _ ha) ?_
        by_cases hb : RP a' b' c' d' s'
        · refine Ev.bind (pb_eq _ _ _ _ _ hb) ?_
          simp only [if_true, bne_self_eq_false]
          have h1 := pB_bytes a b c d s
          have h2 := pB_bytes a' b' c' d' s'
          have hap := pB_pre ha hb
          have hsm : (a = a' ∧ b = b' ∧ c = c' ∧ d = d' ∧ s = s') → Pre (pB a b c d s) (pB a' b' c' d' s') := by
            rintro ⟨rfl, rfl, rfl, rfl, rfl⟩
            exact Pre.refl _
          generalize pB a b c d s = X at h1 hap hsm
          generalize pB a' b' c' d' s' = Y at h2 hap hsm
          refine Ev.step (f := fun k => _) (fun k => by simp only [thalweglaw08_PacketApart.j1]; rfl) ?_
          simp only [Bool.false_eq_true, if_false]
          refine Ev.bind awake08 ?_
          have hm : mn (X.length : Int) (Y.length : Int) = ((min X.length Y.length : Nat) : Int) := by
            unfold mn
            split <;> omega
          simp only [if_true, hm, if_pos (show (0 : Int) ≤ ((min X.length Y.length : Nat) : Int) by omega), if_pos (show ((min X.length Y.length : Nat) : Int) ≤ (X.length : Int) by omega), if_pos (show ((min X.length Y.length : Nat) : Int) ≤ (Y.length : Int) by omega), Int.toNat_natCast]
          refine ev_eq (Ev.now _) ?_
          rw [beq_iff_eq, Bool.eq_iff_iff]
          simp only [Bool.and_eq_true, beq_iff_eq]
          constructor
          · intro h
            obtain ⟨u0, u1, u2, u3, u4⟩ := hap (str_inj (bytes_take h1 _) (bytes_take h2 _) h)
            exact ⟨u0, u1, u2, u3, by rw [u4]⟩
          · rintro ⟨u0, u1, u2, u3, u4⟩
            have u5 : s = s' := by
              rw [ByteArray.toList_eq, ByteArray.toList_eq] at u4
              exact ByteArray.ext (Array.toList_inj.1 u4)
            have : X.take (min X.length Y.length) = Y.take (min X.length Y.length) := hsm ⟨u0, u1, u2, u3, u5⟩
            rw [this]
        · refine Ev.bind (pb_no _ _ _ _ _ hb) ?_
          simp only [if_true, show ((1 : Int) != 0) = true by decide]
          exact bad _ _
      · refine Ev.bind (pb_no _ _ _ _ _ ha) ?_
        by_cases hb : RP a' b' c' d' s'
        · refine Ev.bind (pb_eq _ _ _ _ _ hb) ?_
          simp only [if_neg (show ¬ (1 : Int) = 0 by decide)]
          exact bad _ _
        · refine Ev.bind (pb_no _ _ _ _ _ hb) ?_
          simp only [if_neg (show ¬ (1 : Int) = 0 by decide)]
          exact bad _ _
  unfold thalweglaw08_PacketApart.f
  by_cases hs : (s.size : Int) > 600
  · simp only [if_pos hs]
    exact hj _
  · simp only [if_neg hs]
    exact hj _
theorem PacketApart : thalweglaw08_PacketApart.Pure := fun x y _ _ => Ev.rounds (apart_ev _ _ _ _ _ _ _ _ _ _)
end Go.Proofs.Ythfbnlimoagihaa.Pure
