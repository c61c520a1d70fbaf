/- The statement BatchWhole, proved of the given program; it has no conditions. (Laid together out of many texts: part 6 of 6.) -/
import Derived.Test.YtfigbjjaffkidaaXBatchWholeWWords
import Derived.Test.YtfigbjjaffkidaaXBatchWholeWMore
import Derived.ProofKit
import Derived.OpenShut
import Derived.ChangeSame
import Derived.ChangeOld
import Derived.Deep.Slices
import Derived.Deep.Fields
import Derived.Test.YtfigbjjaffkidaaRows
import Derived.WalkKit
import Derived.ShutString
import Derived.Below
import Derived.SizedLaws
import Derived.Test.YtfigbjjaffkidaaXBatchWholea
import Derived.Test.YtfigbjjaffkidaaXBatchWholeb
import Derived.Test.YtfigbjjaffkidaaXBatchWholec
import Derived.Test.YtfigbjjaffkidaaXBatchWholed
import Derived.Test.YtfigbjjaffkidaaXBatchWholee
set_option linter.unusedVariables false
set_option linter.unusedSimpArgs false
namespace Go.Proofs.YtfigbjjaffkidaaW.Opn
open Go.RowKit Go.Proofs.YtfigbjjaffkidaaW.PrintWords Go.ChangeShapes Go.WideShapes Go.Deep
def Opens (P : Program) (t : TypeId) {α : Type} (d : Kd α) (wf : α → Prop) : Prop :=
  ∀ {H : Type} (enc : TypeId × Value → H) (w : World) (base : Nat) (spare : Nat → Bool) (held : Bool) (fuel : Nat) (cs : List Value) (y : DataW H × List MemPlace),
    DataW.trod enc P w base spare held fuel t cs = some y → ∃ x : α, d.K w x cs ∧ wf x
theorem opens_int {P : Program} {t : TypeId} {k : IntKind} (ht : P.underlying t = some (.int k)) : Opens P t (Kd.int k) (fun x => (Lit.int k x).wf = true) := by
  intro H enc w base spare held fuel cs y h
  obtain ⟨n, rfl, _, hw⟩ := DataW.trod_int ht h
  exact ⟨n, rfl, hw⟩
theorem opens_bool {P : Program} {t : TypeId} (ht : P.underlying t = some .bool) : Opens P t Kd.bool (fun _ => True) := by
  intro H enc w base spare held fuel cs y h
  obtain ⟨n, rfl, _⟩ := DataW.trod_bool ht h
  exact ⟨n, rfl, trivial⟩
theorem opens_iso {P : Program} {t : TypeId} {α β : Type} {d : Kd α} {wf : α → Prop} (f : β → α) (g : α → β) (hg : ∀ a, f (g a) = a) (h : Opens P t d wf) : Opens P t (Kd.iso d f) (fun b => wf (f b)) := by
  intro H enc w base spare held fuel cs y hy
  obtain ⟨x, hx, hw⟩ := h enc w base spare held fuel cs y hy
  exact ⟨g x, by show d.K w (f (g x)) cs; rw [hg]; exact hx, by show wf (f (g x)); rw [hg]; exact hw⟩
def OpensL (P : Program) : (ts : List TypeId) → {α : Type} → (d : Kd α) → (wf : α → Prop) → Prop := fun ts {α} d wf =>
  ∀ {H : Type} (enc : TypeId × Value → H) (w : World) (base : Nat) (spare : Nat → Bool) (held : Bool) (n : Nat) (cs : List Value) (xs : List (DataW H × List MemPlace)) (off : Nat),
    (∀ (i : Nat) (t : TypeId), ts[i]? = some t → ∃ y, DataW.trod enc P w base spare held n t ((cs.drop (off + ((ts.take i).map P.cellsOf).sum)).take (P.cellsOf t)) = some y) →
    ∃ x : α, d.K w x ((cs.drop off).take ((ts.map P.cellsOf).sum)) ∧ wf x
theorem opensL_one {P : Program} {t : TypeId} {α : Type} {d : Kd α} {wf : α → Prop} (h : Opens P t d wf) : OpensL P [t] d wf := by
  intro H enc w base spare held n cs xs off hx
  obtain ⟨y, hy⟩ := hx 0 t rfl
  simpa using h enc w base spare held n _ y (by simpa using hy)
theorem opensL_cons {P : Program} {t : TypeId} {ts : List TypeId} {α β : Type} {d : Kd α} {d' : Kd β} {wf : α → Prop} {wf' : β → Prop} (h : Opens P t d wf) (h' : OpensL P ts d' wf') :
    OpensL P (t :: ts) (Kd.pair d d') (fun x => wf x.1 ∧ wf' x.2) := by
  intro H enc w base spare held n cs xs off hx
  obtain ⟨y, hy⟩ := hx 0 t rfl
  obtain ⟨x, hk, hw⟩ := h enc w base spare held n _ y (by simpa using hy)
  obtain ⟨x', hk', hw'⟩ := h' enc w base spare held n cs xs (off + P.cellsOf t) (fun i u hu => by
    have := hx (i + 1) u hu
    simpa [Nat.add_assoc] using this)
  refine ⟨(x, x'), ⟨(cs.drop off).take (P.cellsOf t), (cs.drop (off + P.cellsOf t)).take ((ts.map P.cellsOf).sum), ?_, hk, hk'⟩, hw, hw'⟩
  simp only [List.map_cons, List.sum_cons]
  rw [List.take_add, List.drop_drop]
def lineB (P : Program) : List Field → Nat → Bool
  | [], _ => true
  | f :: fs, off => (f.offset == off) && lineB P fs (off + P.cellsOf f.type)
theorem line_at {P : Program} : ∀ (fs : List Field) (off : Nat), lineB P fs off = true → ∀ (i : Nat) (f : Field), fs[i]? = some f → f.offset = off + (((fs.map (·.type)).take i).map P.cellsOf).sum := by
  intro fs
  induction fs with
  | nil => intro off _ i f h; simp at h
  | cons g gs ih =>
    intro off hb i f h
    unfold lineB at hb
    rw [Bool.and_eq_true, beq_iff_eq] at hb
    cases i with
    | zero =>
      simp at h
      subst h
      simpa using hb.1
    | succ i =>
      have := ih _ hb.2 i f (by simpa using h)
      simp only [List.map_cons, List.take_succ_cons, List.sum_cons]
      omega
theorem opens_struct {P : Program} {t : TypeId} {fs : Array Field} {α : Type} {d : Kd α} {wf : α → Prop} (ht : P.underlying t = some (.struct fs)) (hl : lineB P fs.toList 0 = true) (hc : P.cellsOf t = ((fs.toList.map (·.type)).map P.cellsOf).sum)
    (h : OpensL P (fs.toList.map (·.type)) d wf) : Opens P t d wf := by
  intro H enc w base spare held fuel cs y hy
  obtain ⟨xs, n, _, _, hlen, hxl, hf⟩ := DataW.trod_struct ht hy
  obtain ⟨x, hk, hw⟩ := h enc w base spare held n cs xs 0 (fun i u hu => by
    rw [List.getElem?_map, Option.map_eq_some_iff] at hu
    obtain ⟨f, hf0, rfl⟩ := hu
    have hi : i < fs.size := by
      have := (List.getElem?_eq_some_iff.1 hf0).1
      simpa using this
    have h1 := hf i f (by rw [← Array.getElem?_toList]; exact hf0)
    rw [line_at _ 0 hl i f hf0] at h1
    exact ⟨_, h1.trans (List.getElem?_eq_getElem (by omega))⟩)
  rw [← hc, List.drop_zero, ← hlen, List.take_length] at hk
  exact ⟨x, hk, hw⟩
theorem reads_build {P : Program} {e : TypeId} {α : Type} {d : Kd α} {wf : α → Prop} (hs : P.cellsOf e = d.sz) (w : World) (ad : Addr) : ∀ (len : Nat), (∀ i, i < len → ∃ (x : α) (c : List Value), c.length = d.sz ∧ d.K w x c ∧ wf x ∧ ∀ j u, c[j]? = some u → w.cell? (ad.add (i * d.sz + j)) = some u) →
    ∃ xs : List α, xs.length = len ∧ (∀ x ∈ xs, wf x) ∧ ∀ j p, xs[j]? = some p → ∃ c, c.length = d.sz ∧ d.K w p c ∧ ∀ i u, c[i]? = some u → w.cell? (ad.add (j * d.sz + i)) = some u := by
  intro len
  induction len with
  | zero => intro _; exact ⟨[], rfl, by simp, by simp⟩
  | succ n ih =>
    intro h
    obtain ⟨xs, hl, hw, hx⟩ := ih (fun i hi => h i (by omega))
    obtain ⟨x, c, hc, hk, hwx, hcell⟩ := h n (by omega)
    refine ⟨xs ++ [x], by simp [hl], ?_, ?_⟩
    · intro y hy
      rcases List.mem_append.1 hy with hy | hy
      · exact hw y hy
      · rw [List.mem_singleton.1 hy]; exact hwx
    · intro j p hj
      rcases Nat.lt_or_ge j xs.length with hjl | hjl
      · rw [List.getElem?_append_left hjl] at hj
        exact hx j p hj
      · have : j = xs.length := by
          have := (List.getElem?_eq_some_iff.1 hj).1
          simp at this
          omega
        subst this
        have hp : x = p := by simpa using hj
        subst hp
        exact ⟨c, hc, hk, by rw [hl]; exact hcell⟩
theorem opens_slice {P : Program} {t e : TypeId} {α : Type} {d : Kd α} {wf : α → Prop} (ht : P.underlying t = some (.slice e)) (hs : P.cellsOf e = d.sz) (h : Opens P e d wf) : Opens P t (Kd.slice e d) (fun l => l.length ≤ maxLen ∧ ∀ x ∈ l, wf x) := by
  intro H enc w base spare held fuel cs y hy
  rcases open_slice ht hy with ⟨rfl, _⟩ | ⟨a, len, cap, m, n, D, Pl, rfl, hb, hl, hm, hmm, hx, hi⟩
  · exact ⟨[], ⟨none, 0, rfl, Nat.le_refl _, rfl, by simp, by simp⟩, by simp, by simp⟩
  · have hle : len ≤ m := by rw [hmm]; split <;> omega
    obtain ⟨xs, hxl, hwf, hxs⟩ := reads_build (P := P) (e := e) (d := d) (wf := wf) hs w a len (fun i hlt => by
      obtain ⟨cs', hc, ht'⟩ := hi i (by omega)
      obtain ⟨_, hcl, hat⟩ := World.cells?_some hc
      obtain ⟨x, hk, hwx⟩ := h enc w base spare held n cs' _ ht'
      refine ⟨x, cs', by omega, hk, hwx, fun j u hj => ?_⟩
      have hjl := (List.getElem?_eq_some_iff.1 hj).1
      have := hat j (by omega)
      rw [← Go.Deep.add_add, ← hs, this, hj])
    have hm' : len ≤ maxLen := by omega
    subst hxl
    have hm2 : xs.length ≤ 9223372036854775807 := by unfold maxLen at hm'; omega
    exact ⟨xs, ⟨some a, cap, rfl, hl, rfl, hm2, fun _ => ⟨a, rfl, hxs⟩⟩, hm', hwf⟩
end Go.Proofs.YtfigbjjaffkidaaW.Opn
namespace Go.Proofs.Ytfigbjjaffkidaa.batchWhole
open Go.ChangeShapes Go.WideShapes Go.ChangeAt Go.RowKit Go.Proofs.YtfigbjjaffkidaaW Go.Proofs.YtfigbjjaffkidaaW.PrintWords Go.Proofs.Ytfigbjjaffkidaa.P
open Go.ChangeMaps (open_string shut_string)
theorem own : ownKnob Try.prog.godebug = none := by kernel_rfl
theorem laidOut : laidOutB Try.prog = true := by kernel_rfl
theorem opn41 : Opn.Opens Try.prog 41 k41 (fun x => (True ∧ (Lit.int .i64 x.f1).wf = true ∧ (Lit.int .i64 x.f2).wf = true ∧ (Lit.int .i64 x.f3).wf = true ∧ (Lit.int .i64 x.f4).wf = true ∧ (Lit.int .i64 x.f5).wf = true)) :=
  Opn.opens_iso (fun x : S41 => (x.f0, x.f1, x.f2, x.f3, x.f4, x.f5)) (fun a => ⟨a.1, a.2.1, a.2.2.1, a.2.2.2.1, a.2.2.2.2.1, a.2.2.2.2.2⟩) (fun _ => rfl) (Opn.opens_struct Try.underlying41 (by kernel_rfl) (by kernel_rfl) (Opn.opensL_cons (Opn.opens_bool Try.underlying4) (Opn.opensL_cons (Opn.opens_int Try.underlying3) (Opn.opensL_cons (Opn.opens_int Try.underlying3) (Opn.opensL_cons (Opn.opens_int Try.underlying3) (Opn.opensL_cons (Opn.opens_int Try.underlying3) (Opn.opensL_one (Opn.opens_int Try.underlying3))))))))
theorem opn43 : Opn.Opens Try.prog 43 k43 (fun x => ((Lit.int .i64 x.f0).wf = true ∧ (Lit.int .i64 x.f1).wf = true ∧ (Lit.int .i64 x.f2).wf = true)) :=
  Opn.opens_iso (fun x : S43 => (x.f0, x.f1, x.f2)) (fun a => ⟨a.1, a.2.1, a.2.2⟩) (fun _ => rfl) (Opn.opens_struct Try.underlying43 (by kernel_rfl) (by kernel_rfl) (Opn.opensL_cons (Opn.opens_int Try.underlying3) (Opn.opensL_cons (Opn.opens_int Try.underlying3) (Opn.opensL_one (Opn.opens_int Try.underlying3)))))
theorem opn45 : Opn.Opens Try.prog 45 k45 (fun x => ((Lit.int .i64 x.f0).wf = true ∧ (Lit.int .i64 x.f1).wf = true ∧ (True ∧ (Lit.int .i64 x.f2.f1).wf = true ∧ (Lit.int .i64 x.f2.f2).wf = true ∧ (Lit.int .i64 x.f2.f3).wf = true ∧ (Lit.int .i64 x.f2.f4).wf = true ∧ (Lit.int .i64 x.f2.f5).wf = true) ∧ ((Lit.int .i64 x.f3.f0).wf = true ∧ (Lit.int .i64 x.f3.f1).wf = true ∧ (Lit.int .i64 x.f3.f2).wf = true) ∧ (Lit.int .i64 x.f4).wf = true)) :=
  Opn.opens_iso (fun x : S45 => (x.f0, x.f1, x.f2, x.f3, x.f4)) (fun a => ⟨a.1, a.2.1, a.2.2.1, a.2.2.2.1, a.2.2.2.2⟩) (fun _ => rfl) (Opn.opens_struct Try.underlying45 (by kernel_rfl) (by kernel_rfl) (Opn.opensL_cons (Opn.opens_int Try.underlying3) (Opn.opensL_cons (Opn.opens_int Try.underlying3) (Opn.opensL_cons opn41 (Opn.opensL_cons opn43 (Opn.opensL_one (Opn.opens_int Try.underlying3)))))))
set_option maxRecDepth 100000 in
theorem lifted (os : Os) (started : os.Started) (H : Type) (enc : TypeId × Value → H) :
    ReturnsInHanded {} Try.checked os 6 .any (Rows.batchWholeSpec.pre6 enc Try.prog Try.f6 Rows.batchWholeRow.domain false) (Rows.batchWholeSpec.post enc Try.prog Try.f6 false true false false) := by
  refine returnsInHanded_of_change_sized (C := Try.checked) own started (by kernel_rfl) Try.func6
    (ChangeSpec.witness6 (enc := enc) (C := Try.checked) false ⟨#[], #[.slice none 0 0, .int .i64 0, .int .i64 0, .int .i64 0], []⟩ 8 (by kernel_rfl) (by kernel_rfl) (by kernel_rfl) (by kernel_rfl)) ?_
  intro W base args ds gs before hval0 hW hcnd hsz0 _
  have hval : ∀ (j : Nat) t v, Try.f6.params[j]? = some t → args[j]? = some v → Value.okWide Try.prog W .any base t v := hval0
  have hW' := hW
  obtain ⟨p, q, hA0, hV, rfl, hfz, hnd⟩ := hW
  have hA : DataW.TrodAll enc Try.prog W 0 (fun _ => true) true Try.f6.params.toList args.toList ds p := hA0
  rw [Try.params6] at hA hval
  obtain ⟨v0, vs0, d0, ds0, p0, q0, hargs, rfl, rfl, h0, r0⟩ := trodAll_cons hA
  obtain ⟨v1, vs1, d1, ds1, p1, q1, rfl, rfl, rfl, h1, r1⟩ := trodAll_cons r0
  obtain ⟨v2, vs2, d2, ds2, p2, q2, rfl, rfl, rfl, h2, r2⟩ := trodAll_cons r1
  obtain ⟨v3, vs3, d3, ds3, p3, q3, rfl, rfl, rfl, h3, r3⟩ := trodAll_cons r2
  obtain ⟨rfl, rfl, rfl⟩ := trodAll_nil r3
  obtain rfl : args = #[v0, v1, v2, v3] := by cases args; simp_all
  obtain ⟨rfl, rfl⟩ := trodVars_none hV
  have k0 := h0
  have lt0 : ∀ x ∈ p0, x.block < W.heap.size := by obtain ⟨m, hm⟩ := k0; exact DataW.trod_lt m _ _ _ hm
  obtain ⟨a0, len0, cap0, rfl⟩ := okWide_slice Try.underlying22 (hval 0 22 v0 rfl rfl)
  obtain ⟨l0, K0, W0⟩ : ∃ l : List S45, (Kd.slice 45 k45).K W l [.slice a0 len0 cap0] ∧ (l.length ≤ maxLen ∧ ∀ x0_ ∈ l, ((Lit.int .i64 x0_.f0).wf = true ∧ (Lit.int .i64 x0_.f1).wf = true ∧ (True ∧ (Lit.int .i64 x0_.f2.f1).wf = true ∧ (Lit.int .i64 x0_.f2.f2).wf = true ∧ (Lit.int .i64 x0_.f2.f3).wf = true ∧ (Lit.int .i64 x0_.f2.f4).wf = true ∧ (Lit.int .i64 x0_.f2.f5).wf = true) ∧ ((Lit.int .i64 x0_.f3.f0).wf = true ∧ (Lit.int .i64 x0_.f3.f1).wf = true ∧ (Lit.int .i64 x0_.f3.f2).wf = true) ∧ (Lit.int .i64 x0_.f4).wf = true)) := by
    obtain ⟨fuel, hf⟩ := h0
    exact (Opn.opens_slice Try.underlying22 (by kernel_rfl) opn45) enc W 0 (fun _ => true) true fuel _ _ hf
  obtain ⟨A0, c0, E0, g0, C0⟩ := K0
  simp only [List.cons.injEq, Value.slice.injEq, and_true] at E0
  obtain ⟨rfl, rfl, rfl⟩ := E0
  obtain ⟨a1, rfl, rfl, rfl, w1⟩ := open_int Try.underlying3 (hval 1 3 v1 rfl rfl) h1
  obtain ⟨a2, rfl, rfl, rfl, w2⟩ := open_int Try.underlying3 (hval 2 3 v2 rfl rfl) h2
  obtain ⟨a3, rfl, rfl, rfl, w3⟩ := open_int Try.underlying3 (hval 3 3 v3 rfl rfl) h3
  obtain ⟨k, hk⟩ := Pure.BatchWhole l0 a1 a2 a3 W0 w1 w2 w3
  clear hA0 hval0 hsz0
  refine (thalweglaw05_BatchWhole.calls (k := k) (A0 := a0) (c0 := cap0) (l0 := l0) (a1 := a1) (a2 := a2) (a3 := a3) (r := true) (w := W) (hr0 := C0) (hc0 := g0) (h := hk)).mono fun e W' ⟨he, bel⟩ => ?_
  subst he
  exact ⟨_, rfl, _, _, _, [], _, [], hW', trodAll_mk1 (shut_bool Try.underlying4 _), (trodAll_cons_mk (Below.trod laidOut (by kernel_rfl) (of_decide_eq_true (by kernel_rfl)) k0 bel lt0) (trodAll_cons_mk (shut_int Try.underlying3 w1) (trodAll_cons_mk (shut_int Try.underlying3 w2) (trodAll_cons_mk (shut_int Try.underlying3 w3) trodAll_mk0)))), rfl, bel.frame _, fun h => by cases h⟩
theorem over : Rows.batchWholeRow.holds Try.pinned (OpenSpec.ofChange Rows.batchWholeSpec) :=
  OpenClaim.holds_of_wide 6 Try.f6 rfl rfl rfl rfl rfl rfl rfl ⟨rfl, rfl, rfl, rfl, rfl⟩ rfl rfl rfl rfl rfl (by kernel_rfl) Try.func6 (by kernel_rfl)
    (of_decide_eq_true (by kernel_rfl)) (by unfold Func.isWrapper; first | (rw [if_pos (by decide +kernel)]; kernel_rfl) | (rw [if_neg (by decide +kernel)]; exact ⟨rfl, rfl⟩))
    (fun os started H enc _ => lifted os started H enc)
theorem proved : Rows.BatchWholeSaid := over
end Go.Proofs.Ytfigbjjaffkidaa.batchWhole
namespace Go.Proofs.Ytfigbjjaffkidaa
theorem batchWhole_holds : Rows.BatchWholeSaid := batchWhole.proved
end Go.Proofs.Ytfigbjjaffkidaa
