/- ObjectApart: two objects' bytes tell them apart, none is the beginning of the other's; the plain law. -/
import Derived.Test.YtmcmemknikineaaEb04
import Derived.Test.YtmcmemknikineaaSObjectApart
import Derived.Test.YtmcmemknikineaaP12
namespace Go.Proofs.Ytmcmemknikineaa.P
set_option linter.unusedSimpArgs false
set_option linter.unusedVariables false
open Go.RowKit Go.Proofs.YtmcmemknikineaaW.PrintWords Go.Proofs.YtmcmemknikineaaW.PrintLast Go.Proofs.YtmcmemknikineaaW.PrintMore
/-- As far as both go they are alike. -/
def Pre (X Y : List Int) : Prop := X.take (min X.length Y.length) = Y.take (min X.length Y.length)
theorem Pre.cons {x y : Int} {X Y : List Int} (h : Pre (x :: X) (y :: Y)) : x = y ∧ Pre X Y := by
  unfold Pre at h ⊢
  rw [List.length_cons, List.length_cons, show min (X.length + 1) (Y.length + 1) = min X.length Y.length + 1 by omega, List.take_succ_cons, List.take_succ_cons] at h
  exact List.cons.inj h
theorem Pre.same {X Y : List Int} (h : Pre X Y) (hl : X.length = Y.length) : X = Y := by
  unfold Pre at h
  rw [hl, Nat.min_self, List.take_length, ← hl, List.take_length] at h
  exact h
theorem Pre.refl (X : List Int) : Pre X X := rfl
theorem intSpec_inj {v w : Int} (hv : (Lit.int .i64 v).wf = true) (hw : (Lit.int .i64 w).wf = true) (h : intSpec v = intSpec w) : v = w := by
  have bv := bnd64 hv
  have bw := bnd64 hw
  have := be_inj 8 _ _ (by omega) (by omega) h
  omega
theorem hB_inj {n : Bool} {a b c d e a' b' c' d' e' : Int} (wa : (Lit.int .i64 a).wf = true) (wd : (Lit.int .i64 d).wf = true) (wa' : (Lit.int .i64 a').wf = true) (wd' : (Lit.int .i64 d').wf = true)
    (h : RH n a b c d e) (h' : RH n a' b' c' d' e') (he : hB n a b c d e = hB n a' b' c' d' e') : a = a' ∧ b = b' ∧ c = c' ∧ d = d' ∧ e = e' := by
  obtain ⟨g, g2⟩ := h
  obtain ⟨k, k2⟩ := h'
  cases n with
  | true =>
    rcases g2 with ⟨_, rfl, rfl, rfl, rfl⟩ | ⟨h, _⟩
    · rcases k2 with ⟨_, rfl, rfl, rfl, rfl⟩ | ⟨h, _⟩
      · refine ⟨rfl, rfl, rfl, rfl, ?_⟩
        have : e % 256 = e' % 256 := by
          simp only [hB, if_true, List.cons.injEq, and_true, true_and] at he
          exact he
        omega
      · cases h
    · cases h
  | false =>
    rcases g2 with ⟨h, _⟩ | ⟨_, g3⟩
    · cases h
    rcases k2 with ⟨h, _⟩ | ⟨_, k3⟩
    · cases h
    simp only [hB, Bool.false_eq_true, if_false] at he
    obtain ⟨e1, e2⟩ := List.append_inj he (by simp [intSpec_length])
    obtain ⟨e3, e4⟩ := List.append_inj e1 (by simp [intSpec_length])
    obtain ⟨e5, e6⟩ := List.append_inj e3 (by simp [intSpec_length])
    obtain ⟨_, e8⟩ := List.append_inj e5 rfl
    have ea := intSpec_inj wa wa' e8
    have ed := intSpec_inj wd wd' e4
    simp only [List.cons.injEq, and_true] at e6 e2
    obtain ⟨u, v⟩ := e6
    exact ⟨ea, by omega, by omega, ed, by omega⟩
theorem hB_pre {n n' : Bool} {a b c d e a' b' c' d' e' : Int} (h : Pre (hB n a b c d e) (hB n' a' b' c' d' e')) : n = n' := by
  unfold hB at h
  cases n <;> cases n' <;> simp only [if_true, Bool.false_eq_true, if_false, List.cons_append, List.nil_append] at h <;> first | rfl | (exact absurd h.cons.1 (by decide))
/-- Objects that are right, and whose bytes are alike as far as both go, are the same. -/
theorem apart {a0 a1 : Int} {a2 : Bool} {a3 a4 a5 a6 a7 a8 a9 a10 a11 b0 b1 : Int} {b2 : Bool} {b3 b4 b5 b6 b7 b8 b9 b10 b11 : Int}
    (wa3 : (Lit.int .i64 a3).wf = true) (wa6 : (Lit.int .i64 a6).wf = true) (wa8 : (Lit.int .i64 a8).wf = true)
    (wb3 : (Lit.int .i64 b3).wf = true) (wb6 : (Lit.int .i64 b6).wf = true) (wb8 : (Lit.int .i64 b8).wf = true)
    (ha : RO a0 a1 a2 a3 a4 a5 a6 a7 a8 a9 a10 a11) (hb : RO b0 b1 b2 b3 b4 b5 b6 b7 b8 b9 b10 b11)
    (h : Pre (oB a0 a1 a2 a3 a4 a5 a6 a7 a8 a9 a10 a11) (oB b0 b1 b2 b3 b4 b5 b6 b7 b8 b9 b10 b11)) :
    a0 = b0 ∧ a1 = b1 ∧ (a2 = b2 ∧ a3 = b3 ∧ a4 = b4 ∧ a5 = b5 ∧ a6 = b6 ∧ a7 = b7) ∧ (a8 = b8 ∧ a9 = b9 ∧ a10 = b10) ∧ a11 = b11 := by
  unfold oB at h
  simp only [List.cons_append, List.nil_append] at h
  obtain ⟨e0, h⟩ := h.cons
  obtain ⟨e1, h⟩ := h.cons
  obtain ⟨ra, ha⟩ := ha
  obtain ⟨rb, hb⟩ := hb
  have k1 : a1 = b1 := by omega
  have ka : a0 = 1 ∨ a0 = 2 ∨ a0 = 3 ∨ a0 = 4 := by
    rcases ha with ⟨h, _⟩ | ⟨h, _⟩ | ⟨h, _⟩ | ⟨h, _⟩ <;> omega
  have kb : b0 = 1 ∨ b0 = 2 ∨ b0 = 3 ∨ b0 = 4 := by
    rcases hb with ⟨h, _⟩ | ⟨h, _⟩ | ⟨h, _⟩ | ⟨h, _⟩ <;> omega
  have k0 : a0 = b0 := by omega
  subst k0
  refine ⟨rfl, k1, ?_⟩
  rcases ka with rfl | rfl | rfl | rfl
  · rcases ha with ⟨_, ⟨rfl, rfl, rfl⟩, ⟨rfl, rfl, rfl, rfl, rfl, rfl⟩, rfl⟩ | ⟨h, _⟩ | ⟨h, _⟩ | ⟨h, _⟩
    · rcases hb with ⟨_, ⟨rfl, rfl, rfl⟩, ⟨rfl, rfl, rfl, rfl, rfl, rfl⟩, rfl⟩ | ⟨h, _⟩ | ⟨h, _⟩ | ⟨h, _⟩
      · exact ⟨⟨rfl, rfl, rfl, rfl, rfl, rfl⟩, ⟨rfl, rfl, rfl⟩, rfl⟩
      all_goals (exact absurd h (by decide))
    all_goals (exact absurd h (by decide))
  · rcases ha with ⟨h, _⟩ | ⟨_, ⟨rfl, rfl, rfl⟩, rfl, ga⟩ | ⟨h, _⟩ | ⟨h, _⟩
    · exact absurd h (by decide)
    · rcases hb with ⟨h, _⟩ | ⟨_, ⟨rfl, rfl, rfl⟩, rfl, gb⟩ | ⟨h, _⟩ | ⟨h, _⟩
      · exact absurd h (by decide)
      · simp only [if_neg (show ¬ (2 : Int) = 1 by decide), if_neg (show ¬ (2 : Int) = 3 by decide), if_neg (show ¬ (2 : Int) = 4 by decide)] at h
        have hn := hB_pre h
        subst hn
        have he := h.same (by rw [hB_length, hB_length])
        obtain ⟨u3, u4, u5, u6, u7⟩ := hB_inj wa3 wa6 wb3 wb6 ga gb he
        exact ⟨⟨rfl, u3, u4, u5, u6, u7⟩, ⟨rfl, rfl, rfl⟩, rfl⟩
      all_goals (exact absurd ‹(2 : Int) = _› (by decide))
    all_goals (exact absurd ‹(2 : Int) = _› (by decide))
  · rcases ha with ⟨h, _⟩ | ⟨h, _⟩ | ⟨_, ⟨rfl, rfl, rfl, rfl, rfl, rfl⟩, rfl, ga⟩ | ⟨h, _⟩
    · exact absurd h (by decide)
    · exact absurd h (by decide)
    · rcases hb with ⟨h, _⟩ | ⟨h, _⟩ | ⟨_, ⟨rfl, rfl, rfl, rfl, rfl, rfl⟩, rfl, gb⟩ | ⟨h, _⟩
      · exact absurd h (by decide)
      · exact absurd h (by decide)
      · simp only [if_neg (show ¬ (3 : Int) = 1 by decide), if_true] at h
        have he := h.same (by simp [intSpec_length])
        obtain ⟨e3, e4⟩ := List.append_inj he (by simp [intSpec_length])
        have u8 := intSpec_inj wa8 wb8 e3
        simp only [List.cons.injEq, and_true] at e4
        obtain ⟨u, v⟩ := e4
        have g1 := ga.2
        have g2 := gb.2
        simp only [Bool.false_eq_true, false_and, false_or, true_and] at g1 g2
        exact ⟨⟨rfl, rfl, rfl, rfl, rfl, rfl⟩, ⟨u8, by omega, by omega⟩, rfl⟩
      · exact absurd h (by decide)
    · exact absurd h (by decide)
  · rcases ha with ⟨h, _⟩ | ⟨h, _⟩ | ⟨h, _⟩ | ⟨_, ⟨rfl, rfl, rfl⟩, n0, n1, ga, rfl⟩
    · exact absurd h (by decide)
    · exact absurd h (by decide)
    · exact absurd h (by decide)
    · rcases hb with ⟨h, _⟩ | ⟨h, _⟩ | ⟨h, _⟩ | ⟨_, ⟨rfl, rfl, rfl⟩, m0, m1, gb, rfl⟩
      · exact absurd h (by decide)
      · exact absurd h (by decide)
      · exact absurd h (by decide)
      · simp only [if_neg (show ¬ (4 : Int) = 1 by decide), if_neg (show ¬ (4 : Int) = 3 by decide), if_true] at h
        have he := h.same (by simp [hB_length])
        obtain ⟨e3, e4⟩ := List.append_inj he (by simp [hB_length])
        obtain ⟨u3, u4, u5, u6, u7⟩ := hB_inj wa3 wa6 wb3 wb6 ga gb e3
        simp only [List.cons.injEq, and_true] at e4
        obtain ⟨u, v⟩ := e4
        exact ⟨⟨rfl, u3, u4, u5, u6, u7⟩, ⟨rfl, rfl, rfl⟩, by omega⟩
end Go.Proofs.Ytmcmemknikineaa.P
namespace Go.Proofs.Ytmcmemknikineaa.Pure
set_option linter.unusedSimpArgs false
set_option linter.unusedVariables false
open Go.RowKit Go.Proofs.Ytmcmemknikineaa.P Go.Proofs.YtmcmemknikineaaW.PrintWords Go.Proofs.YtmcmemknikineaaW.PrintLast Go.Proofs.YtmcmemknikineaaW.PrintMore
theorem bytes_take {l : List Int} (h : Bytes l) (n : Nat) : Bytes (l.take n) := fun x hx => h x (List.mem_of_mem_take hx)
theorem apart_ev (a0 a1 : Int) (a2 : Bool) (a3 a4 a5 a6 a7 a8 a9 a10 a11 b0 b1 : Int) (b2 : Bool) (b3 b4 b5 b6 b7 b8 b9 b10 b11 : Int)
    (wa3 : (Lit.int .i64 a3).wf = true) (wa6 : (Lit.int .i64 a6).wf = true) (wa8 : (Lit.int .i64 a8).wf = true)
    (wb3 : (Lit.int .i64 b3).wf = true) (wb6 : (Lit.int .i64 b6).wf = true) (wb8 : (Lit.int .i64 b8).wf = true) :
    Ev (fun k => thalweglaw04_ObjectApart.f k a0 a1 a2 a3 a4 a5 a6 a7 a8 a9 a10 a11 b0 b1 b2 b3 b4 b5 b6 b7 b8 b9 b10 b11) true := by
  have bad : ∀ X Y, Ev (fun k => thalweglaw04_ObjectApart.j0 k X Y true a0 a1 a2 a3 a4 a5 a6 a7 a8 a9 a10 a11 b0 b1 b2 b3 b4 b5 b6 b7 b8 b9 b10 b11) true := by
    intro X Y
    refine Ev.step (f := fun k => _) (fun k => by simp only [thalweglaw04_ObjectApart.j0]; rfl) ?_
    simp only [if_true]
    exact Ev.bind awake04 (Ev.now _)
  unfold thalweglaw04_ObjectApart.f
  by_cases ha : RO a0 a1 a2 a3 a4 a5 a6 a7 a8 a9 a10 a11
  · refine Ev.bind (obx _ _ _ _ _ _ _ _ _ _ _ _ ha) ?_
    by_cases hb : RO b0 b1 b2 b3 b4 b5 b6 b7 b8 b9 b10 b11
    · refine Ev.bind (obx _ _ _ _ _ _ _ _ _ _ _ _ hb) ?_
      simp only [if_true, bne_self_eq_false]
      have h1 := oB_bytes a0 a1 a2 a3 a4 a5 a6 a7 a8 a9 a10 a11
      have h2 := oB_bytes b0 b1 b2 b3 b4 b5 b6 b7 b8 b9 b10 b11
      have hap := apart wa3 wa6 wa8 wb3 wb6 wb8 ha hb
      have hsm : (a0 = b0 ∧ a1 = b1 ∧ (a2 = b2 ∧ a3 = b3 ∧ a4 = b4 ∧ a5 = b5 ∧ a6 = b6 ∧ a7 = b7) ∧ (a8 = b8 ∧ a9 = b9 ∧ a10 = b10) ∧ a11 = b11) → Pre (oB a0 a1 a2 a3 a4 a5 a6 a7 a8 a9 a10 a11) (oB b0 b1 b2 b3 b4 b5 b6 b7 b8 b9 b10 b11) := by
        rintro ⟨rfl, rfl, ⟨rfl, rfl, rfl, rfl, rfl, rfl⟩, ⟨rfl, rfl, rfl⟩, rfl⟩
        exact Pre.refl _
      generalize oB a0 a1 a2 a3 a4 a5 a6 a7 a8 a9 a10 a11 = X at h1 hap hsm
      generalize oB b0 b1 b2 b3 b4 b5 b6 b7 b8 b9 b10 b11 = Y at h2 hap hsm
      refine Ev.step (f := fun k => _) (fun k => by simp only [thalweglaw04_ObjectApart.j0]; rfl) ?_
      simp only [Bool.false_eq_true, if_false]
      refine Ev.bind awake04 ?_
      have hm : mn (X.length : Int) (Y.length : Int) = ((min X.length Y.length : Nat) : Int) := by
        unfold mn
        split <;> omega
      simp only [if_true, hm, if_pos (show (0 : Int) ≤ ((min X.length Y.length : Nat) : Int) by omega), if_pos (show ((min X.length Y.length : Nat) : Int) ≤ (X.length : Int) by omega), if_pos (show ((min X.length Y.length : Nat) : Int) ≤ (Y.length : Int) by omega), Int.toNat_natCast]
      refine ev_eq (Ev.now _) ?_
      rw [beq_iff_eq, Bool.eq_iff_iff]
      simp only [Bool.and_eq_true, beq_iff_eq]
      constructor
      · intro h
        obtain ⟨u0, u1, u2, u3, u4⟩ := hap (str_inj (bytes_take h1 _) (bytes_take h2 _) h)
        exact ⟨u0, u1, u2, u3, u4⟩
      · rintro ⟨u0, u1, u2, u3, u4⟩
        have : X.take (min X.length Y.length) = Y.take (min X.length Y.length) := hsm ⟨u0, u1, u2, u3, u4⟩
        rw [this]
    · refine Ev.bind (obn _ _ _ _ _ _ _ _ _ _ _ _ hb) ?_
      simp only [if_true, show ((1 : Int) != 0) = true by decide]
      exact bad _ _
  · refine Ev.bind (obn _ _ _ _ _ _ _ _ _ _ _ _ ha) ?_
    by_cases hb : RO b0 b1 b2 b3 b4 b5 b6 b7 b8 b9 b10 b11
    · refine Ev.bind (obx _ _ _ _ _ _ _ _ _ _ _ _ hb) ?_
      simp only [if_neg (show ¬ (1 : Int) = 0 by decide)]
      exact bad _ _
    · refine Ev.bind (obn _ _ _ _ _ _ _ _ _ _ _ _ hb) ?_
      simp only [if_neg (show ¬ (1 : Int) = 0 by decide)]
      exact bad _ _
theorem ObjectApart : thalweglaw04_ObjectApart.Pure := fun x y h g => Ev.rounds (apart_ev _ _ _ _ _ _ _ _ _ _ _ _ _ _ _ _ _ _ _ _ _ _ _ _ h.2.2.1.2.1 h.2.2.1.2.2.2.2.1 h.2.2.2.1.1 g.2.2.1.2.1 g.2.2.1.2.2.2.2.1 g.2.2.2.1.1)
end Go.Proofs.Ytmcmemknikineaa.Pure
