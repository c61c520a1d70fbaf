/- Words of this session beside the kit's print: make with a length of nought and a capacity of its own. -/
import Derived.Test.YtjeahmlahkngaaaWWords
import Derived.Test.YtjeahmlahkngaaaWMore
namespace Go.Proofs.YtjeahmlahkngaaaW.PrintWords.Kd
set_option linter.unusedSimpArgs false
set_option linter.unusedVariables false
open Go.RowKit Go.Proofs.YtjeahmlahkngaaaW.PrintWords
section
variable {P : Program} {ops : Array Oper} {rest : List Oper} {o : Oper} {a : Act} {Q : Exit → Act → World → Prop} {α : Type}
theorem R_make0 (d : Kd α) {w0 W : World} (base e : Nat) (hgd : o.guard = none) {N : Tmp} (_hd : o.dst = some N) (t : TypeId) (x y : Operand) (ho : o.op = .makeSlice t x y) (n : Int) (hx : a.eval x = .int .i64 0) (hy : a.eval y = .int .i64 n)
    (ht : P.underlying t = some (.slice e)) (z : Value) (bytes : Nat) (hinfo : (P.info? e).map (fun i => (i.zero, i.size, i.bytes)) = some (some z, d.sz, bytes)) (hb0 : 0 < bytes)
    {ok : Nat → Prop} (hfresh : ok W.heap.size) (h0 : 0 ≤ n) (hl : n.toNat * bytes ≤ 281474976710656) (HB : Below base w0 W) (hbase : base ≤ W.heap.size)
    (h : ∀ v1 w1, d.R e w1 base ok v1 [] → Below base w0 w1 → W.grownBy w1 none → (∃ b, v1.ownBlock = some b ∧ W.heap.size ≤ b) → wpList P ops Q rest (a.put o.dst v1) w1) : wpList P ops Q (o :: rest) a W := by
  obtain ⟨m, rfl⟩ := Int.eq_ofNat_of_zero_le h0
  simp only [Int.toNat_natCast] at hl
  obtain ⟨i0, hi, hzz⟩ := Option.map_eq_some_iff.1 hinfo
  simp only [Prod.mk.injEq] at hzz
  obtain ⟨hz0, hz1, hz2⟩ := hzz
  have hm : m ≤ 281474976710656 := Nat.le_trans (Nat.le_mul_of_pos_right _ hb0) hl
  obtain ⟨w', hr, hown, hg⟩ := run_make_own (P := P) W base t e i0 z d.sz ht hi hz0 hz1 .i64 .i64 m (by rw [hz2, Nat.mul_comm]; exact hl) (by unfold maxLen; omega) hbase
  refine event_run hgd (v := .slice (some ⟨W.heap.size, 0, none⟩) 0 m) (w1 := w') (by simp [execOp, ho, hx, hy, hr]) (h _ _ ⟨fun k hk => ?_, [], hown, Reps.none _ _⟩ (HB.grown hg hbase (by simp)) hg ⟨W.heap.size, by simp [Value.ownBlock], Nat.le_refl _⟩)
  have : W.heap.size = k := by simpa [Value.ownBlock] using hk
  subst this
  exact hfresh
/-- '[]byte(s)': a row that is only read (it bears a conversion's mark); it leads to its own block alone. -/
theorem V_bytes {w0 W : World} (base e : Nat) (hgd : o.guard = none) {N : Tmp} (_hd : o.dst = some N) (s t : TypeId) (x : Operand) (ho : o.op = .convert s t x) (b : ByteArray) (hx : a.eval x = .string b)
    {u : TypeDesc} (hs : P.underlying s = some u) (ht : P.underlying t = some (.slice e)) (he : P.underlying e = some (.int .u8)) (hsz : b.size ≤ 9223372036854775807) (HB : Below base w0 W) (hbase : base ≤ W.heap.size)
    (h : ∀ v1 w1, Kd.V (Kd.int .u8) e w1 base (fun k => W.heap.size ≤ k) v1 (bytesOf b) → Below base w0 w1 → W.grownBy w1 none → (∃ b, v1.ownBlock = some b ∧ W.heap.size ≤ b) → wpList P ops Q rest (a.put o.dst v1) w1) : wpList P ops Q (o :: rest) a W := by
  refine event_run hgd (v := .slice (some ⟨W.heap.size, 0, none⟩) b.size (grownCap W b.size 0 e)) (w1 := Lib.bytesWorld W e b) (by simp [execOp, ho, hx, print_bytes s t e hs ht he b W])
    (h _ _ ?_ (bytes_below HB hbase e b) ⟨rfl, rfl, rfl, by rw [Lib.bytesWorld_size]; omega, fun i hi _ => Lib.bytesWorld_at_old W e b i hi⟩ ⟨W.heap.size, by simp [Value.ownBlock], Nat.le_refl _⟩)
  have hl := bytesOf_length b
  rw [show (Value.slice (some ⟨W.heap.size, 0, none⟩) b.size (grownCap W b.size 0 e)) = .slice (some ⟨W.heap.size, 0, none⟩) (bytesOf b).length (grownCap W b.size 0 e) by rw [hl]]
  refine V_mk (by rw [hl]; exact grownCap_ge W b.size 0 e) (fun W' hW => ?_)
  rw [hl]
  have hb' := hW W.heap.size (Nat.le_refl _) (by rw [Lib.bytesWorld_size]; omega)
  obtain ⟨h1, h2, h3⟩ := bytes_reads W e b hsz
  have hC : ReadsInt W' .u8 (some ⟨W.heap.size, 0, none⟩) b.size (bytesOf b) := by
    refine ⟨h1, h2, fun hp => ?_⟩
    obtain ⟨ad, hA, hc⟩ := h3 hp
    refine ⟨ad, hA, fun j hj => ?_⟩
    rw [← hc j hj]
    cases hA
    exact World.cell?_of_block (by simpa [add_plain] using hb')
  exact Kd.C_of_reads (h1 := fun _ => rfl) hC
end
end Go.Proofs.YtjeahmlahkngaaaW.PrintWords.Kd
