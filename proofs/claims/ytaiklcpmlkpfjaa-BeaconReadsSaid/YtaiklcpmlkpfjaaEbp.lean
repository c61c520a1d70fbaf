/- Layer 6, by hand: beacon.Parse. -/
import Derived.Test.YtaiklcpmlkpfjaaEbn
import Derived.Test.YtaiklcpmlkpfjaaEbc
namespace Go.Proofs.Ytaiklcpmlkpfjaa.P
set_option linter.unusedSimpArgs false
set_option linter.unusedVariables false
open Go.RowKit Go.Proofs.YtaiklcpmlkpfjaaW.PrintWords Go.Proofs.YtaiklcpmlkpfjaaW.PrintLast Go.Proofs.YtaiklcpmlkpfjaaW.PrintMore
open Classical
def rbN (l : List Int) (n at_ e : Int) : Int × Int × Int := if e = 0 then (if (getSpec l at_ n).2.2 = 0 then ((getSpec l at_ n).1, (getSpec l at_ n).2.1, 0) else (0, at_, (getSpec l at_ n).2.2)) else (0, at_, e)
/-- what the reader's pointer says: nothing went wrong, or what. -/
def PE (w : World) (p : Option Addr) (e : Int) : Prop := (p = none ∧ e = 0) ∨ ∃ gb, p = some ⟨gb, 0, none⟩ ∧ ¬ e = 0 ∧ w.heap[gb]? = some (.cells #[.int .i64 e] 26 (0, 0))
theorem PE.nil (w : World) : PE w none 0 := Or.inl ⟨rfl, rfl⟩
theorem bn_number (g : Nat) (A : Option Addr) (c : Nat) (l : List Int) (at_ e sz v at2 e2 : Int) (p : Option Addr) (w : World) (hN : rbN l sz at_ e = (v, at2, e2)) (hB : Bytes l) (hl : l.length ≤ 1000000000000) (hr : Kd.C (Kd.int .u8) w A l.length l) (hc : l.length ≤ c)
    (hb : w.heap[g]? = some (.cells (RdB A l.length c at_ p) 56 (0, 0))) (hp : PE w p e) :
    Calls Try.prog 24 #[.pointer (some ⟨g, 0, none⟩), .int .i64 sz] w fun x w' => x = .returned (.int .i64 v) ∧ ∃ p2, w'.heap[g]? = some (.cells (RdB A l.length c at2 p2) 56 (0, 0)) ∧ PE w' p2 e2 ∧ w.grownBy w' (some g) := by
  unfold rbN at hN
  rcases hp with ⟨rfl, he⟩ | ⟨gb, rfl, he, hgb⟩
  · rw [if_pos he] at hN
    obtain ⟨s1, s2, s3, hG⟩ : ∃ s1 s2 s3, getSpec l at_ sz = (s1, s2, s3) := ⟨_, _, _, rfl⟩
    rw [hG] at hN
    by_cases hs : s3 = 0
    · rw [if_pos hs] at hN
      simp only [Prod.mk.injEq] at hN
      obtain ⟨rfl, rfl, rfl⟩ := hN
      refine (bn_ok g A c l at_ sz s1 s2 s3 w hG hs hB hl hr hc hb).mono ?_
      rintro x w' ⟨rfl, h1, h2⟩
      exact ⟨rfl, none, h1, .inl ⟨rfl, rfl⟩, h2⟩
    · rw [if_neg hs] at hN
      simp only [Prod.mk.injEq] at hN
      obtain ⟨rfl, rfl, rfl⟩ := hN
      refine (bn_x g A c l at_ sz s1 s2 s3 w hG hs hB hl hr hc hb).mono ?_
      rintro x w' ⟨rfl, gb, h1, h3, _, h2⟩
      exact ⟨rfl, _, h1, .inr ⟨gb, rfl, hs, h3⟩, h2⟩
  · rw [if_neg he] at hN
    simp only [Prod.mk.injEq] at hN
    obtain ⟨rfl, rfl, rfl⟩ := hN
    refine (bn_E g gb A l.length c at_ e sz w hb hgb).mono ?_
    rintro x w' ⟨rfl, rfl⟩
    exact ⟨rfl, _, hb, .inr ⟨gb, rfl, he, hgb⟩, rfl, rfl, rfl, Nat.le_refl _, fun _ _ _ => rfl⟩
def blL (l : List Int) : Nat → List S59 → Int → Int → List S59 × Int × Int
  | 0, Y, at_, e => (Y, at_, e)
  | m + 1, Y, at_, e => blL l m (Y ++ [⟨(rbN l 1 at_ e).1, (rbN l 4 (rbN l 1 at_ e).2.1 (rbN l 1 at_ e).2.2).1⟩]) (rbN l 4 (rbN l 1 at_ e).2.1 (rbN l 1 at_ e).2.2).2.1 (rbN l 4 (rbN l 1 at_ e).2.1 (rbN l 1 at_ e).2.2).2.2
def bnFin (n : Int) (Y : List S59) (at_ e : Int) : Int × List S59 × Int × Int := if e = 0 then (if RBn n Y then (n, Y, at_, 0) else (0, [], 0, 4)) else (0, [], 0, e)
def bnRest (l : List Int) (n m p2 e2 : Int) : Int × List S59 × Int × Int := bnFin n (blL l m.toNat [] p2 e2).1 (blL l m.toNat [] p2 e2).2.1 (blL l m.toNat [] p2 e2).2.2
def bnGo (l : List Int) (a : Int) : Int × List S59 × Int × Int := bnRest l (rbN l 4 a 0).1 (rbN l 1 (rbN l 4 a 0).2.1 (rbN l 4 a 0).2.2).1 (rbN l 1 (rbN l 4 a 0).2.1 (rbN l 4 a 0).2.2).2.1 (rbN l 1 (rbN l 4 a 0).2.1 (rbN l 4 a 0).2.2).2.2
instance (l : List Int) : Decidable (Bytes l) := by unfold Bytes; exact List.decidableBAll _ _
def beacon_Parse.f (l : List Int) (a : Int) : Option (Int × List S59 × Int × Int) := if l.length ≤ 1000000000000 ∧ Bytes l then some (bnGo l a) else none
theorem rbN_one {l : List Int} (hB : Bytes l) {a e v p f : Int} (h : rbN l 1 a e = (v, p, f)) : 0 ≤ v ∧ v ≤ 255 := by
  unfold rbN at h
  split at h
  · split at h
    · rename_i h0
      have hw := get_was l hB a 1 (by omega) (by omega) h0
      simp only [Prod.mk.injEq] at h
      obtain ⟨rfl, _, _⟩ := h
      rw [show ((1 : Nat) : Int) = 1 from rfl, show (256 : Int) ^ 1 = 256 by decide] at hw
      omega
    · simp only [Prod.mk.injEq] at h; omega
  · simp only [Prod.mk.injEq] at h; omega
theorem PE.below {w w' : World} {p : Option Addr} {e : Int} (h : PE w p e) (hb : Below w.heap.size w w') : PE w' p e := by
  rcases h with h | ⟨gb, h1, h2, h3⟩
  · exact .inl h
  · exact .inr ⟨gb, h1, h2, blk_below h3 hb⟩
theorem PE.grown {w w' : World} {p : Option Addr} {e : Int} {b : Option Nat} (h : PE w p e) (hg : w.grownBy w' b) (hb : ∀ gb o, w.heap[gb]? = some (.cells o 26 (0, 0)) → some gb ≠ b) : PE w' p e := by
  rcases h with h | ⟨gb, h1, h2, h3⟩
  · exact .inl h
  · exact .inr ⟨gb, h1, h2, blk_grown h3 hg (hb gb _ h3)⟩
theorem PE.set {w : World} {p : Option Addr} {e : Int} {g i : Nat} {u : Value} (h : PE w p e) (hb : ∀ gb o, w.heap[gb]? = some (.cells o 26 (0, 0)) → gb ≠ g) : PE (w.setCell ⟨g, i, none⟩ u) p e := by
  rcases h with h | ⟨gb, h1, h2, h3⟩
  · exact .inl h
  · exact .inr ⟨gb, h1, h2, blk_far (p := ⟨g, i, none⟩) h3 (hb gb _ h3) _⟩
structure BnSt (w0 w : World) (A : Option Addr) (n c g4 g7 g8 : Nat) (at_ e N : Int) (u : Value) (Y : List S59) : Prop where
  bl : Below w0.heap.size w0 w
  b4 : w.heap[g4]? = some (.cells #[.int .i64 0, .slice none 0 0] 25 (0, 0))
  br : ∃ p, w.heap[g7]? = some (.cells (RdB A n c at_ p) 56 (0, 0)) ∧ PE w p e
  b8 : w.heap[g8]? = some (.cells #[.int .i64 N, u] 25 (0, 0))
  row : Kd.R k59 59 w w0.heap.size (fun _ => True) u Y
  n4 : w0.heap.size ≤ g4
  n7 : w0.heap.size ≤ g7
  n8 : w0.heap.size ≤ g8
  d48 : g4 ≠ g8
theorem BnSt.below {w0 w : World} {A : Option Addr} {n c g4 g7 g8 : Nat} {at_ e N : Int} {u : Value} {Y : List S59} {w' : World} (h : BnSt w0 w A n c g4 g7 g8 at_ e N u Y) (hb : Below w.heap.size w w') : BnSt w0 w' A n c g4 g7 g8 at_ e N u Y := by
  obtain ⟨p, h1, h2⟩ := h.br
  exact ⟨below_step h.bl hb, blk_below h.b4 hb, ⟨p, blk_below h1 hb, h2.below hb⟩, blk_below h.b8 hb, Kd.R_below h.row hb, h.n4, h.n7, h.n8, h.d48⟩
theorem BnSt.drew {w0 w : World} {A : Option Addr} {n c g4 g7 g8 : Nat} {at_ e N : Int} {u : Value} {Y : List S59} (h : BnSt w0 w A n c g4 g7 g8 at_ e N u Y) : BnSt w0 w.drew A n c g4 g7 g8 at_ e N u Y := h.below (below_drew (Below.refl _ _))
theorem BnSt.call {w0 w : World} {A : Option Addr} {n c g4 g7 g8 : Nat} {at_ e N : Int} {u : Value} {Y : List S59} {w' : World} {at2 e2 : Int} {p2 : Option Addr} (h : BnSt w0 w A n c g4 g7 g8 at_ e N u Y) (hb : w'.heap[g7]? = some (.cells (RdB A n c at2 p2) 56 (0, 0))) (hp : PE w' p2 e2) (hg : w.grownBy w' (some g7)) : BnSt w0 w' A n c g4 g7 g8 at2 e2 N u Y := by
  obtain ⟨p, h1, h2⟩ := h.br
  exact ⟨pw_below_grown h.bl (some g7) (below_size h.bl) hg (fun k_ e_ => by cases e_; exact h.n7), blk_grown h.b4 hg (fun e_ => blk_ne h.b4 h1 (by decide) (Option.some.inj e_)), ⟨p2, hb, hp⟩, blk_grown h.b8 hg (fun e_ => blk_ne h.b8 h1 (by decide) (Option.some.inj e_)),
    Kd.R_mono (Kd.R_grown (Kd.R_types h.row h1 (by decide)) hg (fun k hk e_ => hk.2 (Option.some.inj e_))) (fun _ _ => trivial), h.n4, h.n7, h.n8, h.d48⟩
theorem BnSt.set0 {w0 w : World} {A : Option Addr} {n c g4 g7 g8 : Nat} {at_ e N : Int} {u : Value} {Y : List S59} (h : BnSt w0 w A n c g4 g7 g8 at_ e N u Y) (N2 : Int) : BnSt w0 (w.setCell ⟨g8, 0, none⟩ (.int .i64 N2)) A n c g4 g7 g8 at_ e N2 u Y := by
  obtain ⟨p, h1, h2⟩ := h.br
  exact ⟨below_set h.bl h.n8, blk_far (p := ⟨g8, 0, none⟩) h.b4 h.d48 _, ⟨p, blk_far (p := ⟨g8, 0, none⟩) h1 (blk_ne h1 h.b8 (by decide)) _, h2.set (fun gb o ho => blk_ne ho h.b8 (by decide))⟩, blk_put h.b8 0 _ rfl,
    Kd.R_mono (Kd.R_set h.row h.b8 (by decide) 0 _) (fun _ _ => trivial), h.n4, h.n7, h.n8, h.d48⟩
theorem BnSt.set1 {w0 w : World} {A : Option Addr} {n c g4 g7 g8 : Nat} {at_ e N : Int} {u : Value} {Y : List S59} (h : BnSt w0 w A n c g4 g7 g8 at_ e N u Y) {u2 : Value} {Y2 : List S59} (hr : Kd.R k59 59 w w0.heap.size (fun _ => True) u2 Y2) : BnSt w0 (w.setCell ⟨g8, 1, none⟩ u2) A n c g4 g7 g8 at_ e N u2 Y2 := by
  obtain ⟨p, h1, h2⟩ := h.br
  exact ⟨below_set h.bl h.n8, blk_far (p := ⟨g8, 1, none⟩) h.b4 h.d48 _, ⟨p, blk_far (p := ⟨g8, 1, none⟩) h1 (blk_ne h1 h.b8 (by decide)) _, h2.set (fun gb o ho => blk_ne ho h.b8 (by decide))⟩, blk_put h.b8 1 _ rfl,
    Kd.R_mono (Kd.R_set hr h.b8 (by decide) 1 _) (fun _ _ => trivial), h.n4, h.n7, h.n8, h.d48⟩
theorem BnSt.app8 {w0 w : World} {A : Option Addr} {n c g4 g7 g8 : Nat} {at_ e N : Int} {u : Value} {Y : List S59} {w' : World} (h : BnSt w0 w A n c g4 g7 g8 at_ e N u Y) (hg : w.grownBy w' u.ownBlock) : w'.heap[g8]? = some (.cells #[.int .i64 N, u] 25 (0, 0)) := blk_grown h.b8 hg (Kd.R_ne h.row h.b8 (by decide))
theorem BnSt.app {w0 w : World} {A : Option Addr} {n c g4 g7 g8 : Nat} {at_ e N : Int} {u : Value} {Y : List S59} {w' : World} {u2 : Value} {Y2 : List S59} (h : BnSt w0 w A n c g4 g7 g8 at_ e N u Y) (hr : Kd.R k59 59 w' w0.heap.size (fun _ => True) u2 Y2) (hb : Below w0.heap.size w0 w') (hg : w.grownBy w' u.ownBlock) : BnSt w0 (w'.setCell ⟨g8, 1, none⟩ u2) A n c g4 g7 g8 at_ e N u2 Y2 := by
  obtain ⟨p, h1, h2⟩ := h.br
  have b8 := h.app8 hg
  have b4 := blk_grown h.b4 hg (Kd.R_ne h.row h.b4 (by decide))
  have b7 := blk_grown h1 hg (Kd.R_ne h.row h1 (by decide))
  have pe := h2.grown hg (fun gb o ho => Kd.R_ne h.row ho (by decide))
  exact ⟨below_set hb h.n8, blk_far (p := ⟨g8, 1, none⟩) b4 h.d48 _, ⟨p, blk_far (p := ⟨g8, 1, none⟩) b7 (blk_ne b7 b8 (by decide)) _, pe.set (fun gb o ho => blk_ne ho b8 (by decide))⟩, blk_put b8 1 _ rfl,
    Kd.R_mono (Kd.R_set hr b8 (by decide) 1 _) (fun _ _ => trivial), h.n4, h.n7, h.n8, h.d48⟩
/-- a new echo beside it -/
structure BnEc (w0 w : World) (A : Option Addr) (n c g4 g7 g8 g9 : Nat) (at_ e N : Int) (u : Value) (Y : List S59) (x y : Int) : Prop where
  st : BnSt w0 w A n c g4 g7 g8 at_ e N u Y
  b9 : w.heap[g9]? = some (.cells #[.int .i64 x, .int .i64 y] 59 (0, 0))
  away : Kd.R k59 59 w w0.heap.size (fun k => True ∧ k ≠ g9) u Y
  n9 : w0.heap.size ≤ g9
theorem BnEc.new {w0 w : World} {A : Option Addr} {n c g4 g7 g8 : Nat} {at_ e N : Int} {u : Value} {Y : List S59} {w' : World} {g9 : Nat} (h : BnSt w0 w A n c g4 g7 g8 at_ e N u Y) (hb : Below w.heap.size w w') (h9 : w'.heap[g9]? = some (.cells #[.int .i64 0, .int .i64 0] 59 (0, 0))) (hg : w.heap.size ≤ g9) : BnEc w0 w' A n c g4 g7 g8 g9 at_ e N u Y 0 0 :=
  ⟨h.below hb, h9, Kd.R_below (Kd.R_elderB h.row g9 hg) hb, Nat.le_trans (below_size h.bl) hg⟩
theorem BnEc.set {w0 w : World} {A : Option Addr} {n c g4 g7 g8 : Nat} {at_ e N : Int} {u : Value} {Y : List S59} {g9 : Nat} {x y x2 y2 : Int} (h : BnEc w0 w A n c g4 g7 g8 g9 at_ e N u Y x y) (i : Nat) (z : Int) (hs : (#[Value.int .i64 x, .int .i64 y] : Array Value).setIfInBounds i (.int .i64 z) = #[.int .i64 x2, .int .i64 y2]) : BnEc w0 (w.setCell ⟨g9, i, none⟩ (.int .i64 z)) A n c g4 g7 g8 g9 at_ e N u Y x2 y2 := by
  obtain ⟨p, h1, h2⟩ := h.st.br
  have far := Kd.R_far (p := ⟨g9, i, none⟩) h.away (fun _ hk => hk.2) (.int .i64 z)
  exact ⟨⟨below_set h.st.bl h.n9, blk_far (p := ⟨g9, i, none⟩) h.st.b4 (blk_ne h.st.b4 h.b9 (by decide)) _, ⟨p, blk_far (p := ⟨g9, i, none⟩) h1 (blk_ne h1 h.b9 (by decide)) _, h2.set (fun gb o ho => blk_ne ho h.b9 (by decide))⟩, blk_far (p := ⟨g9, i, none⟩) h.st.b8 (blk_ne h.st.b8 h.b9 (by decide)) _,
    Kd.R_mono far (fun _ _ => trivial), h.st.n4, h.st.n7, h.st.n8, h.st.d48⟩, blk_put h.b9 i _ hs, far, h.n9⟩
theorem BnEc.call {w0 w : World} {A : Option Addr} {n c g4 g7 g8 : Nat} {at_ e N : Int} {u : Value} {Y : List S59} {g9 : Nat} {x y : Int} {w' : World} {at2 e2 : Int} {p2 : Option Addr} (h : BnEc w0 w A n c g4 g7 g8 g9 at_ e N u Y x y) (hb : w'.heap[g7]? = some (.cells (RdB A n c at2 p2) 56 (0, 0))) (hp : PE w' p2 e2) (hg : w.grownBy w' (some g7)) : BnEc w0 w' A n c g4 g7 g8 g9 at2 e2 N u Y x y := by
  obtain ⟨p, h1, h2⟩ := h.st.br
  exact ⟨h.st.call hb hp hg, blk_grown h.b9 hg (fun e_ => blk_ne h.b9 h1 (by decide) (Option.some.inj e_)), Kd.R_mono (Kd.R_grown (Kd.R_types h.away h1 (by decide)) hg (fun k hk e_ => hk.2 (Option.some.inj e_))) (fun _ hk => hk.1), h.n9⟩

def beacon_Parse.T11 : Bool × List (List Nat × List Nat) := (true, [([], []), ([], []), ([1], [1]), ([2], [2]), ([0, 0], [0]), ([4, 0, 4], []), ([3, 5, 0, 1, 2, 3, 4, 5], [3])])
def beacon_Parse.B11 : List Nat := [0, 0, 2, 6, 1, 17, 63]
theorem beacon_Parse.tab11 : rtab .any (opsOf Try.f8 11) = beacon_Parse.T11 := by kernel_rfl
theorem beacon_Parse.bits11 : waitsOk beacon_Parse.T11.2 beacon_Parse.B11 = true := by kernel_rfl
def beacon_Parse.T14 : Bool × List (List Nat × List Nat) := (true, [([], []), ([], []), ([1], [1]), ([2], [2]), ([3], [3]), ([0, 0], [0]), ([4, 5, 0, 1, 2, 3, 4, 5], [4]), ([6, 0, 1, 2, 3, 4, 5, 6], [])])
def beacon_Parse.B14 : List Nat := [0, 0, 2, 6, 14, 1, 63, 127]
theorem beacon_Parse.tab14 : rtab .any (opsOf Try.f8 14) = beacon_Parse.T14 := by kernel_rfl
theorem beacon_Parse.bits14 : waitsOk beacon_Parse.T14.2 beacon_Parse.B14 = true := by kernel_rfl
set_option maxHeartbeats 8000000 in
set_option maxRecDepth 100000 in
theorem beacon_Parse.calls (A0 : Option Addr) (c0 : Nat) (l0 : List Int) (a1 : Int) (r1 : Int) (r2 : List S59) (r3 r4 : Int) (w : World) (hr0 : Kd.C (Kd.int .u8) w A0 l0.length l0) (hc0 : l0.length ≤ c0) (h : beacon_Parse.f l0 a1 = some (r1, r2, r3, r4)) :
    Calls Try.prog 8 #[.slice A0 l0.length c0, .int .i64 a1] w fun e w' => ∃ v1_ : Value, e = .returned (.tuple #[.agg #[.int .i64 r1, v1_], .int .i64 r3, .int .i64 r4]) ∧ Kd.R k59 59 w' w.heap.size (fun _ => True) v1_ r2 ∧ Below w.heap.size w w' := by
  have hu25 := Try.underlying25
  have hu59 := Try.underlying59
  have hu56 := Try.underlying56
  obtain ⟨hL, hB, hP⟩ : l0.length ≤ 1000000000000 ∧ Bytes l0 ∧ bnGo l0 a1 = (r1, r2, r3, r4) := by
    unfold beacon_Parse.f at h
    split at h
    · rename_i hc
      exact ⟨hc.1, hc.2, Option.some.inj h⟩
    · exact absurd h (by simp)
  clear h
  unfold bnGo at hP
  obtain ⟨n, p1, e1, h1⟩ : ∃ n p e, rbN l0 4 a1 0 = (n, p, e) := ⟨_, _, _, rfl⟩
  rw [h1] at hP
  simp only at hP
  obtain ⟨m, p2, e2, h2⟩ : ∃ n p e, rbN l0 1 p1 e1 = (n, p, e) := ⟨_, _, _, rfl⟩
  rw [h2] at hP
  simp only [bnRest] at hP
  have hm := rbN_one hB h2
  obtain ⟨M, rfl⟩ := Int.eq_ofNat_of_zero_le hm.1
  rw [Int.toNat_natCast] at hP
  obtain ⟨Y, at3, e3, hz⟩ : ∃ Y at3 e3, blL l0 M [] p2 e2 = (Y, at3, e3) := ⟨_, _, _, rfl⟩
  rw [hz] at hP
  simp only [bnFin] at hP
  have HL := Aside0.mk hL
  have HY := Aside0.mk hB
  have HR0 := Aside0.mk hr0
  have HC0 := Aside0.mk hc0
  have H1 := Aside0.mk h1
  have H2 := Aside0.mk h2
  have HZ := Aside0.mk hz
  have HP := Aside0.mk hP
  have HM := Aside0.mk hm.2
  clear hL hB hr0 hc0 h1 h2 hz hP hm
  go_enter Try.func8, Try.ntmps8
  go_upto_region 3 with (first
    | ((with_reducible refine gate_dst (N := 4) rfl ?_); refine box_event ?hg (N := 4) ?hd (cs := #[.int .i64 0, .slice none 0 0]) (t := 25) ?hr ?_; (case hd => rfl); (case hg => rfl); (case hr => first | (go_simp; done) | (go_simp; rfl)); intro g4 hg w4 hbox hb; have HB4 := Aside0.mk hb; have G4 := Aside0.mk (Nat.le_of_eq hg.symm); have B4 := Aside0.mk hbox; clear hb hbox hg)
    | ((with_reducible refine gate_dst (N := 14) rfl ?_); refine box_event ?hg (N := 14) ?hd (cs := RdB A0 l0.length c0 a1 none) (t := 56) ?hr ?_; (case hd => rfl); (case hg => rfl); (case hr => first | (go_simp; done) | (go_simp; rfl)); intro g7 hg w5 hbox hb; have HB5 := Aside0.mk (below_step HB4.out hb); have G7 := Aside0.mk (show w.heap.size ≤ g7 by rw [hg]; exact below_size HB4.out); have B45 := Aside0.mk (blk_below B4.out hb); have BR := Aside0.mk hbox; clear hb hbox hg HB4 B4)
    | (go_at_call 24; (with_reducible refine (bn_number g7 A0 c0 l0 a1 0 4 _ _ _ none _ H1.out HY.out HL.out (Kd.C_below HR0.out HB5.out) HC0.out BR.out (PE.nil w5)).mono ?_); rintro x_ w16 ⟨rfl, pp1, hbx, hpx, hgr⟩; have HB6 := Aside0.mk (pw_below_grown HB5.out (some g7) (below_size HB5.out) hgr (fun k_ e_ => by cases e_; exact G7.out)); have B46 := Aside0.mk (blk_grown B45.out hgr (fun e_ => blk_ne B45.out BR.out (by decide) (Option.some.inj e_))); have BR6 := Aside0.mk hbx; have PE6 := Aside0.mk hpx; clear hbx hpx hgr HB5 B45 BR)
    | ((with_reducible refine gate_dst (N := 8) rfl ?_); refine box_event ?hg (N := 8) ?hd (cs := #[.int .i64 0, .slice none 0 0]) (t := 25) ?hr ?_; (case hd => rfl); (case hg => rfl); (case hr => first | (go_simp; done) | (go_simp; rfl)); intro g8 hg w8 hbox hb; have ST0 := Aside0.mk (BnSt.mk (c := c0) (below_step HB6.out hb) (blk_below B46.out hb) ⟨pp1, blk_below BR6.out hb, PE.below PE6.out hb⟩ hbox (Kd.R_nil _ _ _ _ _) G4.out G7.out (by rw [hg]; exact below_size HB6.out) (by rw [hg]; exact Nat.ne_of_lt (blk_lt B46.out))); clear hb hbox hg; have u0 := (blk_cell ST0.out.b8 0).trans rfl; have u1 := (blk_cell ST0.out.b8 1).trans rfl; have uf0 := blk_frozen ST0.out.b8 0; have uf1 := blk_frozen ST0.out.b8 1))
  have ST := Aside0.mk ((ST0.out.set0 n).set1 (u2 := .slice none 0 0) (Y2 := []) (Kd.R_nil _ _ _ _ _))
  clear ST0 u0 u1 uf0 uf1
  generalize ((w8.setCell ⟨g8, 0, none⟩ (.int .i64 n)).setCell ⟨g8, 1, none⟩ (.slice none 0 0)) = wq at ST ⊢
  obtain ⟨pp, hbr, hpe⟩ := ST.out.br
  go_wp2_with ((go_at_call 24; (with_reducible refine (bn_number g7 A0 c0 l0 p1 e1 1 _ _ _ _ _ H2.out HY.out HL.out (Kd.C_below HR0.out ST.out.bl) HC0.out hbr hpe).mono ?_); rintro x_ w19 ⟨rfl, pp2, hbx, hpx, hgr⟩; have STn := Aside0.mk (ST.out.call hbx hpx hgr); clear hbx hpx hgr))
  clear ST hbr hpe
  have ST := STn
  clear STn
  go_loopg [20] M (fun kq v20 wr => ∃ (i : Nat) (at_ e : Int) (u : Value) (Z : List S59), v20 = .int .i64 i ∧ Aside0 (i + kq = M) ∧ Aside0 (blL l0 kq Z at_ e = (Y, at3, e3)) ∧ Aside0 (Z.length = i) ∧ Aside0 (BnSt w wr A0 l0.length c0 g4 g7 g8 at_ e n u Z))
  case atStart => exact ⟨0, p2, e2, .slice none 0 0, [], rfl, ⟨by omega⟩, HZ, ⟨rfl⟩, ST⟩
  case round =>
    clear ST HZ
    obtain ⟨i, at_, e, u, Z, rfl, HI, HZ, HN, ST⟩ := hrel
    cases gk with
    | zero =>
      obtain rfl : i = M := by have := HI.out; omega
      have hz := HZ.out
      simp only [blL, Prod.mk.injEq] at hz
      obtain ⟨rfl, rfl, rfl⟩ := hz
      clear HZ HI
      obtain ⟨pp, hbr, hpe⟩ := ST.out.br
      obtain ⟨Au, cu, eu⟩ := Kd.R_slice ST.out.row
      subst eu
      rcases hpe with ⟨rfl, he⟩ | ⟨gb, rfl, he, hgb⟩
      · subst he
        have hP := HP.out
        rw [if_pos rfl] at hP
        have h2 : wr.cell? ⟨g7, 2, none⟩ = some (.pointer none) := (blk_cell hbr 2).trans rfl
        have k0 : wr.cell? ⟨g8, 0, none⟩ = some (.int .i64 n) := (blk_cell ST.out.b8 0).trans rfl
        have k1 : wr.cell? ⟨g8, 1, none⟩ = some (.slice Au Z.length cu) := (blk_cell ST.out.b8 1).trans rfl
        obtain ⟨K, hK⟩ := (bncheck_ev n Z (by have := HN.out; have := HM.out; omega)).rounds
        by_cases hR : RBn n Z
        · rw [if_pos hR] at hP hK
          simp only [Prod.mk.injEq] at hP
          obtain ⟨rfl, rfl, rfl, rfl⟩ := hP
          have HK := Aside0.mk hK
          clear hK hR HP
          go_upto_region 14 with (first
            | (go_at_call 25; (with_reducible refine (bp_load0 g7 _ h2).mono ?_); rintro _ _ ⟨rfl, rfl⟩)
            | (go_at_call 22; (with_reducible refine (beacon_Check.calls K n Au cu Z 0 _ (Kd.R_reads' ST.out.row).2.2 (Kd.R_reads' ST.out.row).2.1 HK.out).mono ?_); rintro x_ ws ⟨rfl, hb⟩; have STn := Aside0.mk (ST.out.below hb); clear hb; have y0 := (blk_cell STn.out.b4 0).trans rfl; have y1 := (blk_cell STn.out.b4 1).trans rfl; have yf0 := blk_frozen STn.out.b4 0; have yf1 := blk_frozen STn.out.b4 1))
          clear y0 y1 yf0 yf1 k0 k1 h2 hbr ST
          have ST := Aside0.mk STn.out.drew
          clear STn
          obtain ⟨pp7, hb7, hp7⟩ := ST.out.br
          refine start_ (n := 8) (S := fun w' => w'.cell? ⟨g8, 0, none⟩ = some (.int .i64 n) ∧ w'.cell? ⟨g8, 1, none⟩ = some (.slice Au Z.length cu) ∧ w'.cell? ⟨g7, 1, none⟩ = some (.int .i64 at_)) (ds := []) #[false, false, false, false, false, false, false, false] (by kernel_rfl) rfl rfl ⟨(blk_cell ST.out.b8 0).trans rfl, (blk_cell ST.out.b8 1).trans rfl, (blk_cell hb7 1).trans rfl⟩ (fun hHeld => ?_); refine with_tabW beacon_Parse.tab14 beacon_Parse.bits14 (fun HT_ HW_ => ?_)
          generalize ws.drew = wd at ST hHeld ⊢
          have o0 : wd.cell? ⟨g4, 0, none⟩ = some (.int .i64 0) := (blk_cell ST.out.b4 0).trans rfl
          have o1 : wd.cell? ⟨g4, 1, none⟩ = some (.slice none 0 0) := (blk_cell ST.out.b4 1).trans rfl
          have of0 := blk_frozen ST.out.b4 0
          have of1 := blk_frozen ST.out.b4 1
          have n84 : g8 ≠ g4 := ST.out.d48.symm
          have n74 : g7 ≠ g4 := by obtain ⟨_, h7, _⟩ := ST.out.br; exact blk_ne h7 ST.out.b4 (by decide)
          refine pure_ (i := 1) (N := some 52) (v := ?_) (a' := ?_) #[false, true, false, false, false, false, false, false] rfl rfl (any_of HT_.out (by kernel_rfl)) (fun _ _ _ h => h) (Or.inl ⟨by rfl, ?_⟩) ?_ ?_
          rotate_left
          · intro w'
            go_simp
            with_reducible rfl
          rotate_left
          · simp only [Act.put, List.setIfInBounds_toArray, List.set_cons_zero, List.set_cons_succ, i64_w, i32_w]
            rfl
          refine pure_ (i := 2) (N := some 53) (v := ?_) (a' := ?_) #[false, true, true, false, false, false, false, false] rfl rfl (any_of HT_.out (by kernel_rfl)) (fun _ _ _ h => h) (Or.inl ⟨by rfl, ?_⟩) ?_ ?_
          rotate_left
          · intro w'
            go_simp
            with_reducible rfl
          rotate_left
          · simp only [Act.put, List.setIfInBounds_toArray, List.set_cons_zero, List.set_cons_succ, i64_w, i32_w]
            rfl
          refine pure_ (i := 3) (N := some 54) (v := ?_) (a' := ?_) #[false, true, true, true, false, false, false, false] rfl rfl (any_of HT_.out (by kernel_rfl)) (fun _ _ _ h => h) (Or.inl ⟨by rfl, ?_⟩) ?_ ?_
          rotate_left
          · intro w'
            go_simp
            with_reducible rfl
          rotate_left
          · simp only [Act.put, List.setIfInBounds_toArray, List.set_cons_zero, List.set_cons_succ, i64_w, i32_w]
            rfl
          refine take_ (i := 0) (N := some 51) (v := ?_) (a' := ?_) #[true, true, true, true, false, false, false, false] rfl rfl (take_ofW HT_.out HW_.out (by kernel_rfl)) (fun _ _ _ h => h) (Or.inl ⟨by rfl, ?_⟩) hHeld ?_ ?_
          rotate_left
          · rintro w' ⟨s0, s1, s2⟩
            go_simp
            with_reducible rfl
          rotate_left
          · simp only [Act.put, List.setIfInBounds_toArray, List.set_cons_zero, List.set_cons_succ, i64_w, i32_w]
            rfl
          refine take_ (i := 4) (N := some 55) (v := ?_) (a' := ?_) #[true, true, true, true, true, false, false, false] rfl rfl (take_ofW HT_.out HW_.out (by kernel_rfl)) (fun _ _ _ h => h) (Or.inl ⟨by rfl, ?_⟩) hHeld ?_ ?_
          rotate_left
          · rintro w' ⟨s0, s1, s2⟩
            go_simp
            with_reducible rfl
          rotate_left
          · simp only [Act.put, List.setIfInBounds_toArray, List.set_cons_zero, List.set_cons_succ, i64_w, i32_w]
            rfl
          refine one_ (i := 5) (N := none) #[true, true, true, true, true, true, false, false] rfl rfl (one_of HT_.out (by kernel_rfl)) (by decide) (fun K hK => ?_)
          refine skip_ (w1 := ?_) (by rfl) rfl ?_ ?_
          rotate_left
          · go_simp
            rfl
          refine hK.out _ _ ?_ (fun hHeld2 => ?_)
          · refine ⟨?_, ?_, ?_⟩
            · (repeat (first | refine (cell_far n84 _).trans ?_ | refine (cell_far n74 _).trans ?_)); exact hHeld.1
            · (repeat (first | refine (cell_far n84 _).trans ?_ | refine (cell_far n74 _).trans ?_)); exact hHeld.2.1
            · (repeat (first | refine (cell_far n84 _).trans ?_ | refine (cell_far n74 _).trans ?_)); exact hHeld.2.2
          clear hHeld
          have hHeld := hHeld2
          clear hHeld2
          clear hK K
          refine pure_ (i := 6) (N := some 5) (v := ?_) (a' := ?_) #[true, true, true, true, true, true, true, false] rfl rfl (any_of HT_.out (by kernel_rfl)) (fun _ _ _ h => h) (Or.inl ⟨by rfl, ?_⟩) ?_ ?_
          rotate_left
          · intro w'
            go_simp
            with_reducible rfl
          rotate_left
          · simp only [Act.put, List.setIfInBounds_toArray, List.set_cons_zero, List.set_cons_succ, i64_w, i32_w]
            rfl
          refine pure_ (i := 7) (N := some 6) (v := ?_) (a' := ?_) #[true, true, true, true, true, true, true, true] rfl rfl (any_of HT_.out (by kernel_rfl)) (fun _ _ _ h => h) (Or.inl ⟨by rfl, ?_⟩) ?_ ?_
          rotate_left
          · intro w'
            go_simp
            with_reducible rfl
          rotate_left
          · simp only [Act.put, List.setIfInBounds_toArray, List.set_cons_zero, List.set_cons_succ, i64_w, i32_w]
            rfl
          refine done_ (done_of HT_.out (by kernel_rfl)) ?_
          clear HT_ HW_
          try go_wp2
          refine bodyPost_ret (results_ctt rfl _ _ g4 25 #[.int .i64 n, .slice Au Z.length cu] (0, 0) _ rfl (blk_put (blk_put ST.out.b4 0 (.int .i64 n) (cs' := #[.int .i64 n, .slice none 0 0]) rfl) 1 (.slice Au Z.length cu) (cs' := #[.int .i64 n, .slice Au Z.length cu]) rfl) Try.underlying25 rfl (by kernel_rfl)) rfl ?_
          exact ⟨_, rfl, Kd.R_mono (Kd.R_far (p := ⟨g4, 1, none⟩) (Kd.R_far (p := ⟨g4, 0, none⟩) (Kd.R_types ST.out.row ST.out.b4 (by decide)) (fun _ hk => hk.2) _) (fun _ hk => hk.2) _) (fun _ _ => trivial), below_set (below_set ST.out.bl ST.out.n4) ST.out.n4⟩
        · rw [if_neg hR] at hP hK
          simp only [Prod.mk.injEq] at hP
          obtain ⟨rfl, rfl, rfl, rfl⟩ := hP
          have HK := Aside0.mk hK
          clear hK hR HP
          go_wp2_with (first
            | (go_at_call 25; (with_reducible refine (bp_load0 g7 _ h2).mono ?_); rintro _ _ ⟨rfl, rfl⟩)
            | (go_at_call 22; (with_reducible refine (beacon_Check.calls K n Au cu Z 1 _ (Kd.R_reads' ST.out.row).2.2 (Kd.R_reads' ST.out.row).2.1 HK.out).mono ?_); rintro x_ ws ⟨rfl, hb⟩; have STn := Aside0.mk (ST.out.below hb); clear hb; have y0 := (blk_cell STn.out.b4 0).trans rfl; have y1 := (blk_cell STn.out.b4 1).trans rfl; have yf0 := blk_frozen STn.out.b4 0; have yf1 := blk_frozen STn.out.b4 1))
          clear ST
          have ST := STn
          refine bodyPost_ret (results_ctt rfl _ _ g4 25 #[.int .i64 0, .slice none 0 0] (0, 0) _ rfl (blk_put (blk_put ST.out.b4 0 (.int .i64 0) (cs' := #[.int .i64 0, .slice none 0 0]) rfl) 1 (.slice none 0 0) (cs' := #[.int .i64 0, .slice none 0 0]) rfl) Try.underlying25 rfl (by kernel_rfl)) rfl ?_
          exact ⟨_, rfl, Kd.R_nil _ _ _ _ _, below_set (below_set ST.out.bl ST.out.n4) ST.out.n4⟩
      · have hP := HP.out
        rw [if_neg he] at hP
        simp only [Prod.mk.injEq] at hP
        obtain ⟨rfl, rfl, rfl, rfl⟩ := hP
        have GB := Aside0.mk hgb
        have h2 : wr.cell? ⟨g7, 2, none⟩ = some (.pointer (some ⟨gb, 0, none⟩)) := (blk_cell hbr 2).trans rfl
        clear hgb hbr he HP
        go_upto_region 11 with ((go_at_call 25; (with_reducible refine (bp_load1 g7 gb e _ h2 GB.out).mono ?_); rintro _ _ ⟨rfl, rfl⟩))
        clear h2
        have STd := Aside0.mk ST.out.drew
        clear ST
        have ST := STd
        clear STd
        have GBd := Aside0.mk (show wr.drew.heap[gb]? = _ from GB.out)
        clear GB
        have GB := GBd
        clear GBd
        refine start_ (n := 7) (S := fun w' => w'.cell? ⟨gb, 0, none⟩ = some (.int .i64 e)) (ds := []) #[false, false, false, false, false, false, false] (by kernel_rfl) rfl rfl ((blk_cell GB.out 0).trans rfl) (fun hHeld => ?_); refine with_tabW beacon_Parse.tab11 beacon_Parse.bits11 (fun HT_ HW_ => ?_)
        generalize wr.drew = wd at ST hHeld GB ⊢
        have o0 : wd.cell? ⟨g4, 0, none⟩ = some (.int .i64 0) := (blk_cell ST.out.b4 0).trans rfl
        have o1 : wd.cell? ⟨g4, 1, none⟩ = some (.slice none 0 0) := (blk_cell ST.out.b4 1).trans rfl
        have of0 := blk_frozen ST.out.b4 0
        have of1 := blk_frozen ST.out.b4 1
        have nb4 : gb ≠ g4 := blk_ne GB.out ST.out.b4 (by decide)
        refine pure_ (i := 0) (N := some 42) (v := ?_) (a' := ?_) #[true, false, false, false, false, false, false] rfl rfl (any_of HT_.out (by kernel_rfl)) (fun _ _ _ h => h) (Or.inl ⟨by rfl, ?_⟩) ?_ ?_
        rotate_left
        · intro w'
          go_simp
          with_reducible rfl
        rotate_left
        · simp only [Act.put, List.setIfInBounds_toArray, List.set_cons_zero, List.set_cons_succ, i64_w, i32_w]
          rfl
        refine pure_ (i := 1) (N := some 43) (v := ?_) (a' := ?_) #[true, true, false, false, false, false, false] rfl rfl (any_of HT_.out (by kernel_rfl)) (fun _ _ _ h => h) (Or.inl ⟨by rfl, ?_⟩) ?_ ?_
        rotate_left
        · intro w'
          go_simp
          with_reducible rfl
        rotate_left
        · simp only [Act.put, List.setIfInBounds_toArray, List.set_cons_zero, List.set_cons_succ, i64_w, i32_w]
          rfl
        refine pure_ (i := 2) (N := some 44) (v := ?_) (a' := ?_) #[true, true, true, false, false, false, false] rfl rfl (any_of HT_.out (by kernel_rfl)) (fun _ _ _ h => h) (Or.inl ⟨by rfl, ?_⟩) ?_ ?_
        rotate_left
        · intro w'
          go_simp
          with_reducible rfl
        rotate_left
        · simp only [Act.put, List.setIfInBounds_toArray, List.set_cons_zero, List.set_cons_succ, i64_w, i32_w]
          rfl
        refine take_ (i := 3) (N := some 45) (v := ?_) (a' := ?_) #[true, true, true, true, false, false, false] rfl rfl (take_ofW HT_.out HW_.out (by kernel_rfl)) (fun _ _ _ h => h) (Or.inl ⟨by rfl, ?_⟩) hHeld ?_ ?_
        rotate_left
        · intro w' s0
          go_simp
          with_reducible rfl
        rotate_left
        · simp only [Act.put, List.setIfInBounds_toArray, List.set_cons_zero, List.set_cons_succ, i64_w, i32_w]
          rfl
        refine one_ (i := 4) (N := none) #[true, true, true, true, true, false, false] rfl rfl (one_of HT_.out (by kernel_rfl)) (by decide) (fun K hK => ?_)
        refine skip_ (w1 := ?_) (by rfl) rfl ?_ ?_
        rotate_left
        · go_simp
          rfl
        refine hK.out _ _ ?_ (fun hHeld2 => ?_)
        · (repeat (first | refine (cell_far nb4 _).trans ?_)); exact hHeld
        clear hHeld
        have hHeld := hHeld2
        clear hHeld2
        clear hK K
        refine pure_ (i := 5) (N := some 5) (v := ?_) (a' := ?_) #[true, true, true, true, true, true, false] rfl rfl (any_of HT_.out (by kernel_rfl)) (fun _ _ _ h => h) (Or.inl ⟨by rfl, ?_⟩) ?_ ?_
        rotate_left
        · intro w'
          go_simp
          with_reducible rfl
        rotate_left
        · simp only [Act.put, List.setIfInBounds_toArray, List.set_cons_zero, List.set_cons_succ, i64_w, i32_w]
          rfl
        refine pure_ (i := 6) (N := some 6) (v := ?_) (a' := ?_) #[true, true, true, true, true, true, true] rfl rfl (any_of HT_.out (by kernel_rfl)) (fun _ _ _ h => h) (Or.inl ⟨by rfl, ?_⟩) ?_ ?_
        rotate_left
        · intro w'
          go_simp
          with_reducible rfl
        rotate_left
        · simp only [Act.put, List.setIfInBounds_toArray, List.set_cons_zero, List.set_cons_succ, i64_w, i32_w]
          rfl
        refine done_ (done_of HT_.out (by kernel_rfl)) ?_
        clear HT_ HW_
        try go_wp2
        refine bodyPost_ret (results_ctt rfl _ _ g4 25 #[.int .i64 0, .slice none 0 0] (0, 0) _ rfl (blk_put (blk_put ST.out.b4 0 (.int .i64 0) (cs' := #[.int .i64 0, .slice none 0 0]) rfl) 1 (.slice none 0 0) (cs' := #[.int .i64 0, .slice none 0 0]) rfl) Try.underlying25 rfl (by kernel_rfl)) rfl ?_
        exact ⟨_, rfl, Kd.R_nil _ _ _ _ _, below_set (below_set ST.out.bl ST.out.n4) ST.out.n4⟩
    | succ k1 =>
      have hz := HZ.out
      simp only [blL] at hz
      obtain ⟨x, q1, f1, hx⟩ : ∃ x q f, rbN l0 1 at_ e = (x, q, f) := ⟨_, _, _, rfl⟩
      rw [hx] at hz
      simp only at hz
      obtain ⟨y, q2, f2, hy⟩ : ∃ x q f, rbN l0 4 q1 f1 = (x, q, f) := ⟨_, _, _, rfl⟩
      rw [hy] at hz
      simp only at hz
      clear HZ
      have HZ := Aside0.mk hz
      have HX := Aside0.mk hx
      have HV := Aside0.mk hy
      clear hz hx hy
      have hlt : decide ((i : Int) < (M : Int)) = true := decide_eq_true (by have := HI.out; omega)
      have hltn : decide (i < M) = true := decide_eq_true (by have := HI.out; omega)
      have hi0 : (0 : Int) ≤ (i : Int) := by omega
      have hi1 : (i : Int) < 256 := by have := HI.out; have := HM.out; omega
      obtain ⟨pp, hbr, hpe⟩ := ST.out.br
      go_upto_region 6 with (first
        | (go_at_call 24; (with_reducible refine (bn_number g7 A0 c0 l0 at_ e 1 _ _ _ _ _ HX.out HY.out HL.out (Kd.C_below HR0.out ST.out.bl) HC0.out hbr hpe).mono ?_); rintro x_ w23 ⟨rfl, pp3, hbx, hpx, hgr⟩; have STn := Aside0.mk (ST.out.call hbx hpx hgr); clear hbx hpx hgr ST hbr hpe; have ST := STn; clear STn)
        | ((with_reducible refine gate_dst (N := 9) rfl ?_); refine box_event ?hg (N := 9) ?hd (cs := #[.int .i64 0, .int .i64 0]) (t := 59) ?hr ?_; (case hd => rfl); (case hg => rfl); (case hr => first | (go_simp; done) | (go_simp; rfl)); intro g9 hg w9 hbox hb; have E9 := Aside0.mk (BnEc.new ST.out hb hbox (Nat.le_of_eq hg.symm)); clear hb hbox hg ST; have v0 := (blk_cell E9.out.b9 0).trans rfl; have v1 := (blk_cell E9.out.b9 1).trans rfl; have vf0 := blk_frozen E9.out.b9 0; have vf1 := blk_frozen E9.out.b9 1))
      have E2 := Aside0.mk ((E9.out.set (x2 := x) (y2 := 0) 0 x rfl).set (x2 := x) (y2 := 0) 1 0 rfl)
      clear E9 v0 v1 vf0 vf1
      generalize ((w9.setCell ⟨g9, 0, none⟩ (.int .i64 x)).setCell ⟨g9, 1, none⟩ (.int .i64 0)) = wa at E2 ⊢
      obtain ⟨pp, hbr, hpe⟩ := E2.out.st.br
      go_upto_region 7 with ((go_at_call 24; (with_reducible refine (bn_number g7 A0 c0 l0 q1 f1 4 _ _ _ _ _ HV.out HY.out HL.out (Kd.C_below HR0.out E2.out.st.bl) HC0.out hbr hpe).mono ?_); rintro x_ w26 ⟨rfl, pp4, hbx, hpx, hgr⟩; have E3 := Aside0.mk (E2.out.call hbx hpx hgr); clear hbx hpx hgr E2 hbr hpe; have z1 := (blk_cell E3.out.b9 1).trans rfl; have zf1 := blk_frozen E3.out.b9 1))
      have E4 := Aside0.mk (E3.out.set (x2 := x) (y2 := y) 1 y rfl)
      clear E3 z1 zf1
      generalize (w26.setCell ⟨g9, 1, none⟩ (.int .i64 y)) = wb at E4 ⊢
      have m0 : wb.cell? ⟨g8, 1, none⟩ = some u := (blk_cell E4.out.st.b8 1).trans rfl
      have m1 : wb.cell? ⟨g9, 0, none⟩ = some (.int .i64 x) := (blk_cell E4.out.b9 0).trans rfl
      have m2 : wb.cell? ⟨g9, 1, none⟩ = some (.int .i64 y) := (blk_cell E4.out.b9 1).trans rfl
      obtain ⟨Z2, hZ2⟩ : ∃ Z2 : List S59, Z2 = Z ++ [(⟨x, y⟩ : S59)] := ⟨_, rfl⟩
      have NZ := Aside0.mk hZ2
      clear hZ2
      go_wp2_with (((with_reducible refine gate_builtin (b := .append) (xs := #[.tmp 29, .tmp 31]) rfl ?_); at_builtin; refine Kd.R_append k59 (w0 := w) w.heap.size rfl (.tmp 29) (.tmp 31) 23 59 (.agg #[(.int .i64 0), (.int .i64 0)]) 16 rfl Try.underlying23 info59 rfl (by decide) (by omega) u Z (⟨x, y⟩ : S59) [.int .i64 x, .int .i64 y] (fun _ => True) (fun _ => False) rfl rfl ?aP (fun _ hk => hk.elim) ?aF ?aO ?aB ?aS ?aL ?_; (case aP => exact k59_mkM _ _ _ (⟨x, y⟩ : S59)); (case aB => exact E4.out.st.bl); (case aF => exact (fun _ _ => trivial)); (case aO => exact E4.out.st.row); (case aS => exact below_size E4.out.st.bl); (case aL => have := HN.out; have := HI.out; have := HM.out; omega); intro v2 w2 ho hb hg hat; rw [← NZ.out] at ho; obtain ⟨A2, c2, ev2⟩ := Kd.R_slice ho; subst ev2; have hc1 : w2.cell? ⟨g8, 1, none⟩ = some u := (blk_cell (E4.out.st.app8 hg) 1).trans rfl; have hf1 := blk_frozen (E4.out.st.app8 hg) 1; have STn := Aside0.mk (E4.out.st.app ho hb hg); clear ho hb hg hat))
      go_roundg k1
      case measure => have := HI.out; omega
      case rel => exact ⟨i + 1, q2, f2, _, Z2, by simp, ⟨by have := HI.out; omega⟩, ⟨by rw [NZ.out]; exact HZ.out⟩, ⟨by rw [NZ.out, List.length_append, HN.out]; rfl⟩, STn⟩
end Go.Proofs.Ytaiklcpmlkpfjaa.P
