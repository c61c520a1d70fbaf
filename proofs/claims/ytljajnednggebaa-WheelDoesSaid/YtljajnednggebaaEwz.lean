/- Layer 11: the wheel that is nil; a wheel as a thing of its own; the document's examples. -/
import Derived.Test.YtljajnednggebaaEwy
import Derived.Test.YtljajnednggebaaP2
import Derived.Test.YtljajnednggebaaEev
import Derived.Test.YtljajnednggebaaWGuard
namespace Go.Proofs.Ytljajnednggebaa.P
set_option linter.unusedSimpArgs false
set_option linter.unusedVariables false
open Go.RowKit Go.Maps Go.Proofs.YtljajnednggebaaW.PrintWords Go.Proofs.YtljajnednggebaaW.PrintLast Go.Proofs.YtljajnednggebaaW.PrintMore
set_option maxHeartbeats 8000000 in
set_option maxRecDepth 100000 in
theorem set_nil (w : World) (key t : Int) :
    Calls Try.prog 10 #[.pointer none, .int .i64 key, .int .i64 t] w fun e w' => e = .returned (.int .i64 3) ∧ w = w' := by
  go_enter Try.func10, Try.ntmps10
  go_wp2
  first
    | go_ret
    | go_ret2
  exact ⟨rfl, rfl⟩
set_option maxHeartbeats 8000000 in
set_option maxRecDepth 100000 in
theorem stop_nil (w : World) (key : Int) :
    Calls Try.prog 17 #[.pointer none, .int .i64 key] w fun e w' => e = .returned (.int .i64 3) ∧ w = w' := by
  go_enter Try.func17, Try.ntmps17
  go_wp2
  first
    | go_ret
    | go_ret2
  exact ⟨rfl, rfl⟩
set_option maxHeartbeats 8000000 in
set_option maxRecDepth 100000 in
theorem due_nil (w : World) (t : Int) :
    Calls Try.prog 12 #[.pointer none, .int .i64 t] w fun e w' => e = .returned (.slice none 0 0) ∧ w = w' := by
  go_enter Try.func12, Try.ntmps12
  go_wp2
  first
    | go_ret
    | go_ret2
  exact ⟨rfl, rfl⟩
set_option maxHeartbeats 8000000 in
set_option maxRecDepth 100000 in
theorem next_nil (w : World) :
    Calls Try.prog 13 #[.pointer none] w fun e w' => e = .returned (.tuple #[.int .i64 0, .bool false]) ∧ w = w' := by
  go_enter Try.func13, Try.ntmps13
  go_wp2
  first
    | go_ret
    | go_ret2
  exact ⟨rfl, rfl⟩
set_option maxHeartbeats 8000000 in
set_option maxRecDepth 100000 in
theorem list_nil (w : World) :
    Calls Try.prog 11 #[.pointer none] w fun e w' => e = .returned (.slice none 0 0) ∧ w = w' := by
  go_enter Try.func11, Try.ntmps11
  go_wp2
  first
    | go_ret
    | go_ret2
  exact ⟨rfl, rfl⟩
theorem drawn_below {w w' : World} (h : Drawn0 w w') : Below w.heap.size w w' := by
  obtain ⟨m, rfl⟩ := h
  exact pw_below_drewN (Below.refl _ _) m
theorem ints_go (L : List Int) (hL : L.length ≤ 1000000000000) : ∀ (n i : Nat), i + n = L.length → ∀ k, thalwegref03_Ints.l0 (k + (n + 1)) L L (i : Int) = some true := by
  intro n
  induction n with
  | zero =>
    intro i hi k
    simp only [thalwegref03_Ints.l0, Nat.add_eq, Nat.add_zero]
    rw [if_neg (by omega)]
  | succ n ih =>
    intro i hi k
    have hh := ih (i + 1) (by omega) k
    rw [show ((i + 1 : Nat) : Int) = (i : Int) + 1 by omega] at hh
    obtain ⟨m, hm⟩ : ∃ m, m = k + (n + 1) := ⟨_, rfl⟩
    rw [← hm] at hh
    rw [show k + (n + 1 + 1) = m + 1 by omega]
    simp only [thalwegref03_Ints.l0]
    rw [if_pos (by omega), if_pos (by omega), if_pos (by omega), if_pos trivial, w64 (by omega) (by omega)]
    exact hh
theorem ints_f (L : List Int) (hL : L.length ≤ 1000000000000) : thalwegref03_Ints.f (L.length + 1) L L = some true := by
  unfold thalwegref03_Ints.f
  rw [if_pos rfl]
  simpa using ints_go L hL L.length 0 (by omega) 0
theorem ints_same (A0 : Option Addr) (c0 : Nat) (A1 : Option Addr) (c1 : Nat) (L : List Int) (w : World) (hr0 : Kd.C (Kd.int .i64) w A0 L.length L) (hc0 : L.length ≤ c0) (hr1 : Kd.C (Kd.int .i64) w A1 L.length L) (hc1 : L.length ≤ c1) (hL : L.length ≤ 1000000000000 := by decide) :
    Calls Try.prog 14 #[.slice A0 L.length c0, .slice A1 L.length c1] w fun e w' => e = .returned (.bool true) ∧ Drawn0 w w' :=
  thalwegref03_Ints.calls _ A0 c0 L A1 c1 L true w hr0 hc0 hr1 hc1 (ints_f L hL)
/-- a wheel, wherever it is -/
def WS (w0 w : World) (g N : Nat) (L : List S35) : Prop := ∃ F, Wst w0 F w g N L
theorem WS.below {w0 w w' : World} {g N : Nat} {L : List S35} (h : WS w0 w g N L) (hb : Below w.heap.size w w') : WS w0 w' g N L := by
  obtain ⟨F, h⟩ := h
  exact ⟨F, h.below hb⟩
theorem WS.bl {w0 w : World} {g N : Nat} {L : List S35} (h : WS w0 w g N L) : Below w0.heap.size w0 w := by
  obtain ⟨F, h⟩ := h
  exact h.2.bl
theorem Nx.ws {w0 w w' : World} {F : Nat → Prop} {g N : Nat} {L : List S35} (h : Nx w0 F w w' g N L) : WS w0 w' g N L := by
  obtain ⟨F', _, _, h⟩ := h
  exact ⟨F', h⟩
theorem new_x {w0 w : World} (hb : Below w0.heap.size w0 w) :
    Calls Try.prog 8 #[] w fun e w' => ∃ g, e = .returned (.pointer (some ⟨g, 0, none⟩)) ∧ WS w0 w' g 0 [] := by
  refine (new_w hb).mono ?_
  rintro e w' ⟨g, rfl, hn, _⟩
  exact ⟨g, rfl, hn.ws⟩
theorem set_x {w0 w : World} {g N : Nat} {L : List S35} (h : WS w0 w g N L) (hN : N ≤ 1000000000) (key t : Int) (hk : wf64 key) (ht : wf64 t) :
    Calls Try.prog 10 #[.pointer (some ⟨g, 0, none⟩), .int .i64 key, .int .i64 t] w fun e w' => e = .returned (.int .i64 (setE L key t)) ∧ WS w0 w' g (N + 1) (setR L key t) := by
  obtain ⟨F, h⟩ := h
  refine (set_w h hN key t hk ht).mono ?_
  rintro e w' ⟨rfl, hn⟩
  exact ⟨rfl, hn.ws⟩
theorem twoI_C {w : World} {h : Nat} {x y : Int} (hv : w.heap[h]? = some (.cells #[.int .i64 x, .int .i64 y] 3 (0, 0))) : (Kd.int .i64).C w (some ⟨h, 0, none⟩) 2 [x, y] := by
  refine ⟨rfl, by omega, fun _ => ⟨_, rfl, fun j p hp => ⟨[.int .i64 p], rfl, rfl, fun i u hu => ?_⟩⟩⟩
  have hi : i = 0 := by have := (List.getElem?_eq_some_iff.1 hu).1; simpa using this
  subst hi
  have hu' : Value.int .i64 p = u := by simpa using hu
  subst hu'
  have hj : j = 0 ∨ j = 1 := by have := (List.getElem?_eq_some_iff.1 hp).1; simp at this; omega
  rcases hj with rfl | rfl
  · obtain rfl : x = p := by simpa using hp
    rw [show (0 * (Kd.int .i64).sz + 0) = 0 by omega, show (⟨h, 0, none⟩ : Addr).add 0 = ⟨h, 0, none⟩ from add_plain h 0]
    simp [World.cell?, hv]
  · obtain rfl : y = p := by simpa using hp
    rw [show (1 * (Kd.int .i64).sz + 0) = 1 by rfl, show (⟨h, 0, none⟩ : Addr).add 1 = ⟨h, 1, none⟩ from add_plain h 1]
    simp [World.cell?, hv]
theorem aw_e0 : setE ([] : List S35) 7 5 = 0 := by decide
theorem aw_r0 : setR ([] : List S35) 7 5 = [⟨5, 7⟩] := by rfl
theorem aw_e1 : setE ([⟨5, 7⟩] : List S35) 3 5 = 0 := by decide
theorem aw_r1 : setR ([⟨5, 7⟩] : List S35) 3 5 = [⟨5, 3⟩, ⟨5, 7⟩] := by rfl
theorem aw_e2 : setE ([⟨5, 3⟩, ⟨5, 7⟩] : List S35) 9 2 = 0 := by decide
theorem aw_r2 : setR ([⟨5, 3⟩, ⟨5, 7⟩] : List S35) 9 2 = [⟨2, 9⟩, ⟨5, 3⟩, ⟨5, 7⟩] := by rfl
theorem aw_e3 : setE ([⟨2, 9⟩, ⟨5, 3⟩, ⟨5, 7⟩] : List S35) 9 6 = 0 := by decide
theorem aw_r3 : setR ([⟨2, 9⟩, ⟨5, 3⟩, ⟨5, 7⟩] : List S35) 9 6 = [⟨5, 3⟩, ⟨5, 7⟩, ⟨6, 9⟩] := by rfl
theorem aw_s0 {w0 w : World} {g : Nat} (h : WS w0 w g 0 []) : Calls Try.prog 10 #[.pointer (some ⟨g, 0, none⟩), .int .i64 7, .int .i64 5] w fun e w' => e = .returned (.int .i64 0) ∧ WS w0 w' g 1 [⟨5, 7⟩] := by
  refine (set_x h (by decide) 7 5 (by decide) (by decide)).mono ?_
  rintro e w' ⟨rfl, hn⟩
  rw [aw_r0] at hn
  exact ⟨by rw [aw_e0], hn⟩
theorem aw_s1 {w0 w : World} {g : Nat} (h : WS w0 w g 1 [⟨5, 7⟩]) : Calls Try.prog 10 #[.pointer (some ⟨g, 0, none⟩), .int .i64 3, .int .i64 5] w fun e w' => e = .returned (.int .i64 0) ∧ WS w0 w' g 2 [⟨5, 3⟩, ⟨5, 7⟩] := by
  refine (set_x h (by decide) 3 5 (by decide) (by decide)).mono ?_
  rintro e w' ⟨rfl, hn⟩
  rw [aw_r1] at hn
  exact ⟨by rw [aw_e1], hn⟩
theorem aw_s2 {w0 w : World} {g : Nat} (h : WS w0 w g 2 [⟨5, 3⟩, ⟨5, 7⟩]) : Calls Try.prog 10 #[.pointer (some ⟨g, 0, none⟩), .int .i64 9, .int .i64 2] w fun e w' => e = .returned (.int .i64 0) ∧ WS w0 w' g 3 [⟨2, 9⟩, ⟨5, 3⟩, ⟨5, 7⟩] := by
  refine (set_x h (by decide) 9 2 (by decide) (by decide)).mono ?_
  rintro e w' ⟨rfl, hn⟩
  rw [aw_r2] at hn
  exact ⟨by rw [aw_e2], hn⟩
theorem aw_s3 {w0 w : World} {g : Nat} (h : WS w0 w g 3 [⟨2, 9⟩, ⟨5, 3⟩, ⟨5, 7⟩]) : Calls Try.prog 10 #[.pointer (some ⟨g, 0, none⟩), .int .i64 9, .int .i64 6] w fun e w' => e = .returned (.int .i64 0) ∧ WS w0 w' g 4 [⟨5, 3⟩, ⟨5, 7⟩, ⟨6, 9⟩] := by
  refine (set_x h (by decide) 9 6 (by decide) (by decide)).mono ?_
  rintro e w' ⟨rfl, hn⟩
  rw [aw_r3] at hn
  exact ⟨by rw [aw_e3], hn⟩
theorem aw_n : dueN ([⟨5, 3⟩, ⟨5, 7⟩, ⟨6, 9⟩] : List S35) 5 = 2 := by decide
theorem aw_due {w0 w : World} {g : Nat} (h : WS w0 w g 4 [⟨5, 3⟩, ⟨5, 7⟩, ⟨6, 9⟩]) :
    Calls Try.prog 12 #[.pointer (some ⟨g, 0, none⟩), .int .i64 5] w fun e w' => ∃ A c, e = .returned (.slice A 2 c) ∧ WS w0 w' g 4 [⟨6, 9⟩] ∧ (Kd.int .i64).C w' A 2 [3, 7] ∧ 2 ≤ c := by
  obtain ⟨F, h⟩ := h
  refine (due_w h 5).mono ?_
  rintro e w' ⟨v, Ax, cx, rfl, F', _, _, h3, _, h5⟩
  rw [aw_n] at h3 h5
  obtain ⟨A, c, rfl, hlc, hC⟩ := Kd.R_reads h5
  exact ⟨A, c, rfl, ⟨F', h3⟩, hC, hlc⟩
theorem aw_next {w0 w : World} {g : Nat} (h : WS w0 w g 4 [⟨6, 9⟩]) :
    Calls Try.prog 13 #[.pointer (some ⟨g, 0, none⟩)] w fun e w' => e = .returned (.tuple #[.int .i64 6, .bool true]) ∧ w = w' := by
  obtain ⟨F, h⟩ := h
  exact next_w h
theorem aw_ints {w : World} (A : Option Addr) (c gl : Nat) (h : (Kd.int .i64).C w A 2 [3, 7]) (hc : 2 ≤ c) (hb : w.heap[gl]? = some (.cells #[.int .i64 3, .int .i64 7] 3 (0, 0))) :
    Calls Try.prog 14 #[.slice A 2 c, .slice (some ⟨gl, 0, none⟩) 2 2] w fun e w' => e = .returned (.bool true) ∧ Drawn0 w w' :=
  ints_same A c (some ⟨gl, 0, none⟩) 2 [3, 7] w h hc (twoI_C hb) (Nat.le_refl _)
set_option maxHeartbeats 8000000 in
set_option maxRecDepth 100000 in
theorem awake_x (w : World) : Calls Try.prog 9 #[] w fun e w' => e = .returned (.bool true) ∧ Below w.heap.size w w' := by
  go_enter Try.func9, Try.ntmps9
  go_wp2_with (first
    | (go_at_call 8; (with_reducible refine (new_x (Below.refl _ _)).mono ?_); rintro x_ w1 ⟨g, rfl, hn⟩; have M0 := Aside0.mk hn; clear hn)
    | (go_at_call 10; (with_reducible refine (aw_s0 M0.out).mono ?_); rintro x_ w2 ⟨rfl, hn⟩; have M1 := Aside0.mk hn; clear hn)
    | (go_at_call 10; (with_reducible refine (aw_s1 M1.out).mono ?_); rintro x_ w3 ⟨rfl, hn⟩; have M2 := Aside0.mk hn; clear hn)
    | (go_at_call 10; (with_reducible refine (aw_s2 M2.out).mono ?_); rintro x_ w4 ⟨rfl, hn⟩; have M3 := Aside0.mk hn; clear hn)
    | (go_at_call 10; (with_reducible refine (aw_s3 M3.out).mono ?_); rintro x_ w5 ⟨rfl, hn⟩; have M4 := Aside0.mk hn; clear hn)
    | (go_at_call 12; (with_reducible refine (aw_due M4.out).mono ?_); rintro x_ w6 ⟨A3, c3, rfl, hn, ho, hlc⟩; have M5 := Aside0.mk hn; have HO := Aside0.mk ho; have HLC := Aside0.mk hlc; clear hn ho hlc)
    | (go_at_call 13; (with_reducible refine (aw_next M5.out).mono ?_); rintro x_ w7 ⟨rfl, rfl⟩)
    | ((with_reducible refine gate_dst (N := 28) rfl ?_); (try (refine gate_guard (by rfl) ?_; dsimp only)); refine lit1_event ?hg (N := 28) ?hd (cs := #[.int .i64 3, .int .i64 7]) (t := 3) (n := 2) ?hr ?_; (case hd => rfl); (case hg => rfl); (case hr => first | (go_simp; done) | (go_simp; rfl)); intro gl hg w8 hbox hb; have M6 := Aside0.mk (M5.out.below hb); have HO2 := Aside0.mk (Kd.C_below HO.out hb); have BL := Aside0.mk hbox; clear hb hbox hg)
    | (go_at_call 14; (with_reducible refine (aw_ints A3 c3 gl HO2.out HLC.out BL.out).mono ?_); rintro x_ w9 ⟨rfl, hd⟩; have M7 := Aside0.mk (M6.out.below (drawn_below hd)); clear hd))
  go_ret
  exact ⟨rfl, M7.out.bl⟩
end Go.Proofs.Ytljajnednggebaa.P
