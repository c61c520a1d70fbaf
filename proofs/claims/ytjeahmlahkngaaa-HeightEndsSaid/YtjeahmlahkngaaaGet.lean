/- Layer 2: the state of height.Ends: two pointers, the least and the greatest so far. -/
import Derived.Test.YtjeahmlahkngaaaGel
import Derived.Test.YtjeahmlahkngaaaGhk
namespace Go.Proofs.Ytjeahmlahkngaaa.P
set_option linter.unusedSimpArgs false
set_option linter.unusedVariables false
open Go.RowKit Go.Proofs.YtjeahmlahkngaaaW.PrintWords Go.Proofs.YtjeahmlahkngaaaW.PrintLast Go.Proofs.YtjeahmlahkngaaaW.PrintMore
theorem known_b (x : S23) (b : Bool) (w : World) (h : knownS x = b) : Calls Try.prog 31 #[.agg #[.bool x.f0, .int .i64 x.f1, .int .i64 x.f2, .int .i64 x.f3, .int .i64 x.f4, .int .i64 x.f5]] w fun e w' => e = .returned (.bool b) ∧ Below w.heap.size w w' := by
  subst h
  exact known_a x w
theorem less_b (x y : S23) (b : Bool) (w : World) (h : lessS x y = b) : Calls Try.prog 14 #[.agg #[.bool x.f0, .int .i64 x.f1, .int .i64 x.f2, .int .i64 x.f3, .int .i64 x.f4, .int .i64 x.f5], .agg #[.bool y.f0, .int .i64 y.f1, .int .i64 y.f2, .int .i64 y.f3, .int .i64 y.f4, .int .i64 y.f5]] w fun e w' => e = .returned (.bool b) ∧ Below w.heap.size w w' := by
  subst h
  exact less_a x y w
/-- A height's cells. -/
def El (w : World) (p : Addr) (x : S23) : Prop := w.cell? p = some (.bool x.f0) ∧ w.cell? ⟨p.block, p.off + 1, none⟩ = some (.int .i64 x.f1) ∧ w.cell? ⟨p.block, p.off + 2, none⟩ = some (.int .i64 x.f2) ∧ w.cell? ⟨p.block, p.off + 3, none⟩ = some (.int .i64 x.f3) ∧ w.cell? ⟨p.block, p.off + 4, none⟩ = some (.int .i64 x.f4) ∧ w.cell? ⟨p.block, p.off + 5, none⟩ = some (.int .i64 x.f5)
theorem El.lt {w : World} {p : Addr} {x : S23} (h : El w p x) : p.block < w.heap.size := World.block_lt_of_cell? _ _ h.1
theorem El.below {w w' : World} {p : Addr} {x : S23} (h : El w p x) (hb : Below w.heap.size w w') : El w' p x := by
  have hl := h.lt
  obtain ⟨h0, h1, h2, h3, h4, h5⟩ := h
  exact ⟨(hb.cell hl).trans h0, (hb.cell (p := ⟨p.block, p.off + 1, none⟩) hl).trans h1, (hb.cell (p := ⟨p.block, p.off + 2, none⟩) hl).trans h2, (hb.cell (p := ⟨p.block, p.off + 3, none⟩) hl).trans h3, (hb.cell (p := ⟨p.block, p.off + 4, none⟩) hl).trans h4, (hb.cell (p := ⟨p.block, p.off + 5, none⟩) hl).trans h5⟩
theorem El.far {w : World} {p q : Addr} {x : S23} (h : El w p x) (hq : p.block ≠ q.block) (u : Value) : El (w.setCell q u) p x := by
  obtain ⟨h0, h1, h2, h3, h4, h5⟩ := h
  exact ⟨(cell_far hq u).trans h0, (cell_far (a := ⟨p.block, p.off + 1, none⟩) hq u).trans h1, (cell_far (a := ⟨p.block, p.off + 2, none⟩) hq u).trans h2, (cell_far (a := ⟨p.block, p.off + 3, none⟩) hq u).trans h3, (cell_far (a := ⟨p.block, p.off + 4, none⟩) hq u).trans h4, (cell_far (a := ⟨p.block, p.off + 5, none⟩) hq u).trans h5⟩
def eA (A : Option Addr) (i : Nat) : Addr := (A.getD ⟨0, 0, none⟩).add (i * 6)
theorem el_at {w : World} {A : Option Addr} {l : List S23} (hr : Kd.C k23 w A l.length l) (i : Nat) (hi : i < l.length) : El w (eA A i) (rd_T23 l (i : Int)) := by
  obtain ⟨ad, e, h⟩ := at_T23 hr (i : Int) (by omega) (by omega)
  subst e
  rw [Int.toNat_natCast] at h
  exact h
def eStep (l : List S23) (i : Nat) (s : Option (Nat × Nat)) : Option (Nat × Nat) :=
  if knownS (rd_T23 l (i : Int)) = true then
    (match s with
    | none => some (i, i)
    | some (a, b) => some (if lessS (rd_T23 l (i : Int)) (rd_T23 l (a : Int)) = true then i else a, if lessS (rd_T23 l (b : Int)) (rd_T23 l (i : Int)) = true then i else b))
  else s
def eGo (l : List S23) : Nat → Option (Nat × Nat)
  | 0 => none
  | n + 1 => eStep l n (eGo l n)
theorem eGo_lt (l : List S23) : ∀ (n a b : Nat), eGo l n = some (a, b) → a < n ∧ b < n := by
  intro n
  induction n with
  | zero => intro a b h; cases h
  | succ n ih =>
    intro a b h
    unfold eGo eStep at h
    split at h
    · cases hs : eGo l n with
      | none =>
        rw [hs] at h
        cases h
        omega
      | some p =>
        obtain ⟨c, d⟩ := p
        rw [hs] at h
        have := ih c d hs
        simp only [Option.some.injEq, Prod.mk.injEq] at h
        obtain ⟨rfl, rfl⟩ := h
        constructor <;> split <;> omega
    · have := ih a b h
      omega
/-- Its blocks: the results', the pointers'. -/
structure EnSt (w0 w : World) (g2 g3 g5 g6 : Nat) (c2 c3 : Array Value) (lo hi : Option Addr) : Prop where
  b2 : w.heap[g2]? = some (.cells c2 23 (0, 0))
  b3 : w.heap[g3]? = some (.cells c3 23 (0, 0))
  b5 : w.heap[g5]? = some (.cells #[.pointer lo] 62 (0, 0))
  b6 : w.heap[g6]? = some (.cells #[.pointer hi] 62 (0, 0))
  bl : Below w0.heap.size w0 w
  n2 : w0.heap.size ≤ g2
  n3 : w0.heap.size ≤ g3
  n5 : w0.heap.size ≤ g5
  n6 : w0.heap.size ≤ g6
  d23 : g2 ≠ g3
  d56 : g5 ≠ g6
section
variable {w0 w : World} {g2 g3 g5 g6 : Nat} {c2 c3 : Array Value} {lo hi : Option Addr} (h : EnSt w0 w g2 g3 g5 g6 c2 c3 lo hi)
include h
theorem EnSt.below {w' : World} (hb : Below w.heap.size w w') : EnSt w0 w' g2 g3 g5 g6 c2 c3 lo hi :=
  ⟨blk_below h.b2 hb, blk_below h.b3 hb, blk_below h.b5 hb, blk_below h.b6 hb, below_step h.bl hb, h.n2, h.n3, h.n5, h.n6, h.d23, h.d56⟩
theorem EnSt.drew : EnSt w0 w.drew g2 g3 g5 g6 c2 c3 lo hi := ⟨h.b2, h.b3, h.b5, h.b6, below_drew h.bl, h.n2, h.n3, h.n5, h.n6, h.d23, h.d56⟩
theorem EnSt.setLo (p : Addr) : EnSt w0 (w.setCell ⟨g5, 0, none⟩ (.pointer (some p))) g2 g3 g5 g6 c2 c3 (some p) hi :=
  ⟨blk_far h.b2 (blk_ne h.b2 h.b5 (by decide)) _, blk_far h.b3 (blk_ne h.b3 h.b5 (by decide)) _, blk_put h.b5 0 _ rfl, blk_far h.b6 h.d56.symm _, below_set h.bl h.n5, h.n2, h.n3, h.n5, h.n6, h.d23, h.d56⟩
theorem EnSt.setHi (p : Addr) : EnSt w0 (w.setCell ⟨g6, 0, none⟩ (.pointer (some p))) g2 g3 g5 g6 c2 c3 lo (some p) :=
  ⟨blk_far h.b2 (blk_ne h.b2 h.b6 (by decide)) _, blk_far h.b3 (blk_ne h.b3 h.b6 (by decide)) _, blk_far h.b5 h.d56 _, blk_put h.b6 0 _ rfl, below_set h.bl h.n6, h.n2, h.n3, h.n5, h.n6, h.d23, h.d56⟩
theorem EnSt.put2 (i : Nat) (u : Value) {d2 : Array Value} (hs : c2.setIfInBounds i u = d2) : EnSt w0 (w.setCell ⟨g2, i, none⟩ u) g2 g3 g5 g6 d2 c3 lo hi :=
  ⟨blk_put h.b2 i _ hs, blk_far h.b3 h.d23.symm _, blk_far h.b5 (blk_ne h.b5 h.b2 (by decide)) _, blk_far h.b6 (blk_ne h.b6 h.b2 (by decide)) _, below_set h.bl h.n2, h.n2, h.n3, h.n5, h.n6, h.d23, h.d56⟩
theorem EnSt.put3 (i : Nat) (u : Value) {d3 : Array Value} (hs : c3.setIfInBounds i u = d3) : EnSt w0 (w.setCell ⟨g3, i, none⟩ u) g2 g3 g5 g6 c2 d3 lo hi :=
  ⟨blk_far h.b2 h.d23 _, blk_put h.b3 i _ hs, blk_far h.b5 (blk_ne h.b5 h.b3 (by decide)) _, blk_far h.b6 (blk_ne h.b6 h.b3 (by decide)) _, below_set h.bl h.n3, h.n2, h.n3, h.n5, h.n6, h.d23, h.d56⟩
end
end Go.Proofs.Ytjeahmlahkngaaa.P
