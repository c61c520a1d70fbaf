/- Layer 2, by hand: height.Ends, as a law calls it. -/
import Derived.Test.YtjeahmlahkngaaaGes
namespace Go.Proofs.Ytjeahmlahkngaaa.P
set_option linter.unusedSimpArgs false
set_option linter.unusedVariables false
open Go.RowKit Go.Proofs.YtjeahmlahkngaaaW.PrintWords Go.Proofs.YtjeahmlahkngaaaW.PrintLast Go.Proofs.YtjeahmlahkngaaaW.PrintMore
/-- Each height of the row stands where a variable of its type may stand. -/
def HasE (w : World) (A : Option Addr) (l : List S23) : Prop := ∀ k, k < l.length → ElemOk Try.prog w (eA A k) 23
theorem HasE.mk {w : World} {A : Option Addr} {len cap : Nat} {base : Nat} {l : List S23} (hl : laidOutB Try.prog = true) (hv : Value.okWide Try.prog w .any base 41 (.slice A len cap)) (hc : l.length ≤ cap) (hC : Kd.C k23 w A l.length l) : HasE w A l := by
  intro k hk
  obtain ⟨ad, e, _⟩ := at_T23 hC (k : Int) (by omega) (by omega)
  subst e
  simp only [Value.okWide, Try.underlying41, Cell.okWide, Cell.ok] at hv
  obtain ⟨_, _, hh⟩ := hv
  obtain ⟨hs, row, cells, h1, h2⟩ := has_each hl (e := 23) (of_decide_eq_true (by kernel_rfl)) (by kernel_rfl) (fun m u h => by rw [Try.underlying23] at h; cases h) hh
  obtain ⟨h3, _⟩ := h2 k (by omega)
  rw [show Try.prog.cellsOf 23 = 6 from by kernel_rfl] at h3
  have hb : (eA (some ad) k).block = ad.block := add_blk ad (k * 6)
  refine ⟨?_, row, cells, by rw [hb]; exact h1, ?_⟩
  · show (ad.add (k * 6)).spot = none
    unfold Addr.add
    split
    · exact hs
    · rfl
  · have ho : (eA (some ad) k).off = ad.off + k * 6 := by
      show (ad.add (k * 6)).off = _
      unfold Addr.add
      split
      · omega
      · rfl
    rw [ho]
    exact h3
def endsT (l : List S23) : Bool × Int × Int × Int × Int × Int × Bool × Int × Int × Int × Int × Int × Bool := match eGo l l.length with
  | none => (false, 0, 0, 0, 0, 0, false, 0, 0, 0, 0, 0, false)
  | some (a, b) => ((rd_T23 l (a : Int)).f0, (rd_T23 l (a : Int)).f1, (rd_T23 l (a : Int)).f2, (rd_T23 l (a : Int)).f3, (rd_T23 l (a : Int)).f4, (rd_T23 l (a : Int)).f5, (rd_T23 l (b : Int)).f0, (rd_T23 l (b : Int)).f1, (rd_T23 l (b : Int)).f2, (rd_T23 l (b : Int)).f3, (rd_T23 l (b : Int)).f4, (rd_T23 l (b : Int)).f5, true)
def height_Ends.f (l : List S23) : Option (Bool × Int × Int × Int × Int × Int × Bool × Int × Int × Int × Int × Int × Bool) := if l.length ≤ 100000 then some (endsT l) else none
theorem height_Ends.calls (A0 : Option Addr) (c0 : Nat) (l0 : List S23) (r1 : Bool) (r2 r3 r4 r5 r6 : Int) (r7 : Bool) (r8 r9 r10 r11 r12 : Int) (r13 : Bool) (w : World) (hr0 : Kd.C k23 w A0 l0.length l0) (hc0 : l0.length ≤ c0) (h : height_Ends.f l0 = some (r1, r2, r3, r4, r5, r6, r7, r8, r9, r10, r11, r12, r13)) (hh : HasE w A0 l0 := by assumption) :
    Calls Try.prog 25 #[.slice A0 l0.length c0] w fun e w' => e = .returned (.tuple #[.agg #[.bool r1, .int .i64 r2, .int .i64 r3, .int .i64 r4, .int .i64 r5, .int .i64 r6], .agg #[.bool r7, .int .i64 r8, .int .i64 r9, .int .i64 r10, .int .i64 r11, .int .i64 r12], .bool r13]) ∧ Below w.heap.size w w' := by
  unfold height_Ends.f at h
  split at h
  · rename_i hl
    have he := Option.some.inj h
    refine (ends_a A0 c0 l0 w hr0 hc0 hl hh).mono ?_
    rintro e w' ⟨rfl, hb⟩
    refine ⟨?_, hb⟩
    unfold endsT at he
    unfold endsV
    cases hg : eGo l0 l0.length with
    | none =>
      rw [hg] at he
      simp only [Prod.mk.injEq] at he
      obtain ⟨rfl, rfl, rfl, rfl, rfl, rfl, rfl, rfl, rfl, rfl, rfl, rfl, rfl⟩ := he
      rfl
    | some p =>
      obtain ⟨a, b⟩ := p
      rw [hg] at he
      simp only [Prod.mk.injEq] at he
      obtain ⟨rfl, rfl, rfl, rfl, rfl, rfl, rfl, rfl, rfl, rfl, rfl, rfl, rfl⟩ := he
      rfl
  · cases h
end Go.Proofs.Ytjeahmlahkngaaa.P
