/- packet.Parse, by hand: fields through pointers, then the data. (The numbers of functions and types are those of layer 8's seat.) -/
import Derived.Test.YthfbnlimoagihaaP0
import Derived.Test.YthfbnlimoagihaaEp08
import Derived.Test.YthfbnlimoagihaaEpGet
import Derived.Test.YthfbnlimoagihaaP2
import Derived.Test.YthfbnlimoagihaaP9
namespace Go.Proofs.Ythfbnlimoagihaa.P
set_option linter.unusedSimpArgs false
set_option linter.unusedVariables false
open Go.RowKit Go.Proofs.YthfbnlimoagihaaW.PrintWords Go.Proofs.YthfbnlimoagihaaW.PrintLast Go.Proofs.YthfbnlimoagihaaW.PrintMore
attribute [local go_sem] max2_int min2_int max_two min_two max_three min_three max_four min_four
abbrev PK := Int × Int × Int × Int × ByteArray × Int × Int
def pkNo (e : Int) : PK := (0, 0, 0, 0, ⟨#[]⟩, 0, e)
def pkData (l : List Int) (at_ n : Int) : ByteArray := strOfNums ((l.drop at_.toNat).take n.toNat)
def pkFin (l : List Int) (x0 x1 x2 x3 x4 at_ : Int) : PK :=
  if 256 < x4 then pkNo 4 else if (l.length : Int) - at_ < x4 then pkNo 6
  else if RP x0 x1 x2 x3 (pkData l at_ x4) then (x0, x1, x2, x3, pkData l at_ x4, at_ + x4, 0) else pkNo 4
def pkSz : Nat → Int
  | 0 => 2 | 1 => 2 | _ => 1
def pkPtr (g7 g8 : Nat) : Nat → Addr
  | 0 => ⟨g8, 0, none⟩ | n + 1 => ⟨g7, 3 - n, none⟩
abbrev X5 := Int × Int × Int × Int × Int
def pkPut : Nat → X5 → Int → X5
  | 0, x, v => (x.1, x.2.1, x.2.2.1, x.2.2.2.1, v)
  | 1, x, v => (x.1, x.2.1, x.2.2.1, v, x.2.2.2.2)
  | 2, x, v => (x.1, x.2.1, v, x.2.2.2.1, x.2.2.2.2)
  | 3, x, v => (x.1, v, x.2.2.1, x.2.2.2.1, x.2.2.2.2)
  | _, x, v => (v, x.2.1, x.2.2.1, x.2.2.2.1, x.2.2.2.2)
def pkGo (l : List Int) : Nat → X5 → Int → PK
  | 0, x, at_ => pkFin l x.1 x.2.1 x.2.2.1 x.2.2.2.1 x.2.2.2.2 at_
  | n + 1, x, at_ => if (getSpec l at_ (pkSz n)).2.2 = 0 then pkGo l n (pkPut n x (getSpec l at_ (pkSz n)).1) (getSpec l at_ (pkSz n)).2.1 else pkNo (getSpec l at_ (pkSz n)).2.2
def packet_Parse.f (l : List Int) (a : Int) : Option PK := if l.length ≤ 1000000000000 ∧ ∀ x ∈ l, 0 ≤ x ∧ x ≤ 255 then some (pkGo l 5 (0, 0, 0, 0, 0) a) else none
/-- A literal of a row: what lies in it is looked at by hand. -/
theorem lit_event {P : Program} {ops : Array Oper} {rest : List Oper} {o : Oper} {a : Act} {Q : Exit → Act → World → Prop} {W : World} (hgd : o.guard = none) {N : Tmp} (_hd : o.dst = some N) {cs : Array Value} {t : TypeId} {n : Nat}
    (hrun : (execOp a.eval o).run P W = .ok (.value (.slice (some ⟨W.heap.size, 0, none⟩) n n)) (W.alloc (.cells cs t (0, 0))))
    (h : ∀ g, g = W.heap.size → ∀ ad, ad = (⟨g, 0, none⟩ : Addr) → ∀ w1, w1.heap[g]? = some (.cells cs t (0, 0)) → Below W.heap.size W w1 → wpList P ops Q rest (a.put o.dst (.slice (some ad) n n)) w1) : wpList P ops Q (o :: rest) a W :=
  Kd.event_run hgd hrun (h _ rfl _ rfl _ (blk_new W _) (below_alloc (Below.refl _ _) _))
abbrev Z5 : Array Value := #[.int .i64 0, .int .i64 0, .int .i64 0, .int .i64 0, .string (⟨#[]⟩ : ByteArray)]
abbrev C5 (x : X5) : Array Value := #[.int .i64 x.1, .int .i64 x.2.1, .int .i64 x.2.2.1, .int .i64 x.2.2.2.1, .string (⟨#[]⟩ : ByteArray)]
abbrev LitC (g7 g8 : Nat) : Array Value := #[.pointer (some ⟨g7, 0, none⟩), .int .i64 1, .pointer (some ⟨g7, 1, none⟩), .int .i64 1, .pointer (some ⟨g7, 2, none⟩), .int .i64 1, .pointer (some ⟨g7, 3, none⟩), .int .i64 2, .pointer (some ⟨g8, 0, none⟩), .int .i64 2]
theorem lit_at (g7 g8 : Nat) (k : Nat) (hk : k ≤ 4) : (LitC g7 g8)[(4 - k) * 2]? = some (.pointer (some (pkPtr g7 g8 k))) ∧ (LitC g7 g8)[(4 - k) * 2 + 1]? = some (.int .i64 (pkSz k)) := by
  obtain rfl | rfl | rfl | rfl | rfl : k = 0 ∨ k = 1 ∨ k = 2 ∨ k = 3 ∨ k = 4 := by omega
  all_goals exact ⟨rfl, rfl⟩
theorem lit_cells {W : World} {ga g7 g8 : Nat} {ad p : Addr} {i : Int} {k : Nat} (BA : W.heap[ga]? = some (.cells (LitC g7 g8) 44 (0, 0))) (had : ad = ⟨ga, 0, none⟩) (hk : k ≤ 4) (hi : i.toNat * 2 = (4 - k) * 2) (hp : p = pkPtr g7 g8 k) :
    W.cell? (ad.add (i.toNat * 2)) = some (.pointer (some p)) ∧ W.cell? ⟨(ad.add (i.toNat * 2)).block, (ad.add (i.toNat * 2)).off + 1, none⟩ = some (.int .i64 (pkSz k)) := by
  have hl := lit_at g7 g8 k hk
  refine ⟨?_, ?_⟩
  · rw [had, add_plain, hi, blk_cell BA, hl.1, hp]
  · rw [had, add_plain, hi, blk_cell BA, hl.2]
theorem ptr_old {W : World} {g7 g8 : Nat} {x : X5} (k : Nat) (hk : k ≤ 4) (B7 : W.heap[g7]? = some (.cells (C5 x) 23 (0, 0))) (B8 : W.heap[g8]? = some (.cells #[.int .i64 x.2.2.2.2] 3 (0, 0))) :
    (∃ u, W.cell? (pkPtr g7 g8 k) = some (.int .i64 u)) ∧ W.frozen? (pkPtr g7 g8 k) = false := by
  obtain rfl | rfl | rfl | rfl | rfl : k = 0 ∨ k = 1 ∨ k = 2 ∨ k = 3 ∨ k = 4 := by omega
  · exact ⟨⟨_, (blk_cell B8 0).trans rfl⟩, blk_frozen B8 0⟩
  · exact ⟨⟨_, (blk_cell B7 3).trans rfl⟩, blk_frozen B7 3⟩
  · exact ⟨⟨_, (blk_cell B7 2).trans rfl⟩, blk_frozen B7 2⟩
  · exact ⟨⟨_, (blk_cell B7 1).trans rfl⟩, blk_frozen B7 1⟩
  · exact ⟨⟨_, (blk_cell B7 0).trans rfl⟩, blk_frozen B7 0⟩
theorem ptr_put {W : World} {g7 g8 : Nat} {x : X5} (k : Nat) (hk : k ≤ 4) (hne : g7 ≠ g8) (B7 : W.heap[g7]? = some (.cells (C5 x) 23 (0, 0))) (B8 : W.heap[g8]? = some (.cells #[.int .i64 x.2.2.2.2] 3 (0, 0))) (v : Int) :
    (W.setCell (pkPtr g7 g8 k) (.int .i64 v)).heap[g7]? = some (.cells (C5 (pkPut k x v)) 23 (0, 0)) ∧ (W.setCell (pkPtr g7 g8 k) (.int .i64 v)).heap[g8]? = some (.cells #[.int .i64 (pkPut k x v).2.2.2.2] 3 (0, 0)) := by
  obtain rfl | rfl | rfl | rfl | rfl : k = 0 ∨ k = 1 ∨ k = 2 ∨ k = 3 ∨ k = 4 := by omega
  · exact ⟨blk_far B7 hne _, blk_put B8 0 _ rfl⟩
  · exact ⟨blk_put B7 3 _ rfl, blk_far B8 hne.symm _⟩
  · exact ⟨blk_put B7 2 _ rfl, blk_far B8 hne.symm _⟩
  · exact ⟨blk_put B7 1 _ rfl, blk_far B8 hne.symm _⟩
  · exact ⟨blk_put B7 0 _ rfl, blk_far B8 hne.symm _⟩
theorem ptr_far {W : World} {g g7 g8 : Nat} {t : TypeId} {cs : Array Value} (k : Nat) (h7 : g ≠ g7) (h8 : g ≠ g8) (B : W.heap[g]? = some (.cells cs t (0, 0))) (v : Value) : (W.setCell (pkPtr g7 g8 k) v).heap[g]? = some (.cells cs t (0, 0)) := by
  cases k with
  | zero => exact blk_far B h8 _
  | succ n => exact blk_far B h7 _
theorem ptr_below {w W : World} {g7 g8 : Nat} (k : Nat) (h7 : w.heap.size ≤ g7) (h8 : w.heap.size ≤ g8) (h : Below w.heap.size w W) (v : Value) : Below w.heap.size w (W.setCell (pkPtr g7 g8 k) v) := by
  cases k with
  | zero => exact below_set h h8
  | succ n => exact below_set h h7
theorem get_in (l : List Int) (hB : Bytes l) (at_ n : Int) (h1 : 1 ≤ n) (h2 : n ≤ 2) (h : (getSpec l at_ n).2.2 = 0) : 0 ≤ (getSpec l at_ n).2.1 ∧ (getSpec l at_ n).2.1 ≤ l.length ∧ 0 ≤ (getSpec l at_ n).1 ∧ (getSpec l at_ n).1 ≤ 65535 := by
  unfold getSpec numSpec at h ⊢
  rw [if_neg (by omega)] at h ⊢
  split at h
  · exact absurd h (by decide)
  rename_i g1
  rw [if_neg g1]
  split at h
  · exact absurd h (by decide)
  rename_i g2
  rw [if_neg g2]
  have hl : ((l.drop at_.toNat).take n.toNat).length ≤ 2 := by rw [List.length_take]; omega
  have hr := bev_range _ ((hB.drop at_.toNat).take n.toNat)
  have hp := pow256_le _ 2 hl
  rw [show (256 : Int) ^ 2 = 65536 by decide] at hp
  refine ⟨by show 0 ≤ at_ + n; omega, by show at_ + n ≤ l.length; omega, hr.1, ?_⟩
  show bev _ ≤ 65535
  omega
end Go.Proofs.Ythfbnlimoagihaa.P
