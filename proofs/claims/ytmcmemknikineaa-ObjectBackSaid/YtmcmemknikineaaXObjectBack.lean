/- The statement ObjectBack, proved of the given program; it has no conditions. (Of many texts laid together) -/
import Derived.Test.YtmcmemknikineaaXObjectBackWWords
import Derived.Test.YtmcmemknikineaaXObjectBackWMore
import Derived.ProofKit
import Derived.OpenShut
import Derived.ChangeSame
import Derived.ChangeOld
import Derived.Deep.Slices
import Derived.Deep.Fields
import Derived.Test.YtmcmemknikineaaRows
import Derived.WalkKit
import Derived.ShutString
import Derived.Below
import Derived.SizedLaws
import Derived.Test.YtmcmemknikineaaXObjectBacka
import Derived.Test.YtmcmemknikineaaXObjectBackb
import Derived.Test.YtmcmemknikineaaXObjectBackc
import Derived.Test.YtmcmemknikineaaXObjectBackd
import Derived.Test.YtmcmemknikineaaXObjectBacke
set_option linter.unusedVariables false
set_option linter.unusedSimpArgs false
set_option maxHeartbeats 8000000
set_option maxRecDepth 100000
namespace Go.Proofs.YtmcmemknikineaaW.Opn
open Go.RowKit YtmcmemknikineaaW.PrintWords Go.ChangeShapes Go.WideShapes Go.Deep
def Opens (P : Program) (t : TypeId) {α : Type} (d : Kd α) (wf : α → Prop) : Prop :=
 ∀ {H : Type} (enc : TypeId × Value → H) (w : World) (base : Nat) (spare : Nat → Bool) (held : Bool) (fuel : Nat) (cs : List Value) (y : DataW H × List MemPlace),
  DataW.trod enc P w base spare held fuel t cs = some y → ∃ x : α, d.K w x cs ∧ wf x
theorem opens_int {P : Program} {t : TypeId} {k : IntKind} (ht : P.underlying t = some (.int k)) : Opens P t (Kd.int k) (fun x => (Lit.int k x).wf = true) := by
 intro H enc w base spare held fuel cs y h
 obtain ⟨n, rfl, _, hw⟩ := DataW.trod_int ht h
 exact ⟨n, rfl, hw⟩
theorem opens_bool {P : Program} {t : TypeId} (ht : P.underlying t = some .bool) : Opens P t Kd.bool (fun _ => True) := by
 intro H enc w base spare held fuel cs y h
 obtain ⟨n, rfl, _⟩ := DataW.trod_bool ht h
 exact ⟨n, rfl, trivial⟩
theorem opens_iso {P : Program} {t : TypeId} {α β : Type} {d : Kd α} {wf : α → Prop} (f : β → α) (g : α → β) (hg : ∀ a, f (g a) = a) (h : Opens P t d wf) : Opens P t (Kd.iso d f) (fun b => wf (f b)) := by
 intro H enc w base spare held fuel cs y hy
 obtain ⟨x, hx, hw⟩ := h enc w base spare held fuel cs y hy
 exact ⟨g x, by show d.K w (f (g x)) cs; rw [hg]; exact hx, by show wf (f (g x)); rw [hg]; exact hw⟩
def OpensL (P : Program) : (ts : List TypeId) → {α : Type} → (d : Kd α) → (wf : α → Prop) → Prop := fun ts {α} d wf =>
 ∀ {H : Type} (enc : TypeId × Value → H) (w : World) (base : Nat) (spare : Nat → Bool) (held : Bool) (n : Nat) (cs : List Value) (xs : List (DataW H × List MemPlace)) (off : Nat),
  (∀ (i : Nat) (t : TypeId), ts[i]? = some t → ∃ y, DataW.trod enc P w base spare held n t ((cs.drop (off + ((ts.take i).map P.cellsOf).sum)).take (P.cellsOf t)) = some y) →
  ∃ x : α, d.K w x ((cs.drop off).take ((ts.map P.cellsOf).sum)) ∧ wf x
theorem opensL_one {P : Program} {t : TypeId} {α : Type} {d : Kd α} {wf : α → Prop} (h : Opens P t d wf) : OpensL P [t] d wf := by
 intro H enc w base spare held n cs xs off hx
 obtain ⟨y, hy⟩ := hx 0 t rfl
 simpa using h enc w base spare held n _ y (by simpa using hy)
theorem opensL_cons {P : Program} {t : TypeId} {ts : List TypeId} {α β : Type} {d : Kd α} {d' : Kd β} {wf : α → Prop} {wf' : β → Prop} (h : Opens P t d wf) (h' : OpensL P ts d' wf') :
  OpensL P (t :: ts) (Kd.pair d d') (fun x => wf x.1 ∧ wf' x.2) := by
 intro H enc w base spare held n cs xs off hx
 obtain ⟨y, hy⟩ := hx 0 t rfl
 obtain ⟨x, hk, hw⟩ := h enc w base spare held n _ y (by simpa using hy)
 obtain ⟨x', hk', hw'⟩ := h' enc w base spare held n cs xs (off + P.cellsOf t) (fun i u hu => by
  have := hx (i + 1) u hu
  simpa [Nat.add_assoc] using this)
 refine ⟨(x, x'), ⟨(cs.drop off).take (P.cellsOf t), (cs.drop (off + P.cellsOf t)).take ((ts.map P.cellsOf).sum), ?_, hk, hk'⟩, hw, hw'⟩
 simp only [List.map_cons, List.sum_cons]
 rw [List.take_add, List.drop_drop]
def lineB (P : Program) : List Field → Nat → Bool
 | [], _ => true
 | f :: fs, off => (f.offset == off) && lineB P fs (off + P.cellsOf f.type)
theorem line_at {P : Program} : ∀ (fs : List Field) (off : Nat), lineB P fs off = true → ∀ (i : Nat) (f : Field), fs[i]? = some f → f.offset = off + (((fs.map (·.type)).take i).map P.cellsOf).sum := by
 intro fs
 induction fs with
 | nil => intro off _ i f h; simp at h
 | cons g gs ih =>
  intro off hb i f h
  unfold lineB at hb
  rw [Bool.and_eq_true, beq_iff_eq] at hb
  cases i with
  | zero =>
   simp at h
   subst h
   simpa using hb.1
  | succ i =>
   have := ih _ hb.2 i f (by simpa using h)
   simp only [List.map_cons, List.take_succ_cons, List.sum_cons]
   omega
theorem opens_struct {P : Program} {t : TypeId} {fs : Array Field} {α : Type} {d : Kd α} {wf : α → Prop} (ht : P.underlying t = some (.struct fs)) (hl : lineB P fs.toList 0 = true) (hc : P.cellsOf t = ((fs.toList.map (·.type)).map P.cellsOf).sum)
  (h : OpensL P (fs.toList.map (·.type)) d wf) : Opens P t d wf := by
 intro H enc w base spare held fuel cs y hy
 obtain ⟨xs, n, _, _, hlen, hxl, hf⟩ := DataW.trod_struct ht hy
 obtain ⟨x, hk, hw⟩ := h enc w base spare held n cs xs 0 (fun i u hu => by
  rw [List.getElem?_map, Option.map_eq_some_iff] at hu
  obtain ⟨f, hf0, rfl⟩ := hu
  have hi : i < fs.size := by
   have := (List.getElem?_eq_some_iff.1 hf0).1
   simpa using this
  have h1 := hf i f (by rw [← Array.getElem?_toList]; exact hf0)
  rw [line_at _ 0 hl i f hf0] at h1
  exact ⟨_, h1.trans (List.getElem?_eq_getElem (by omega))⟩)
 rw [← hc, List.drop_zero, ← hlen, List.take_length] at hk
 exact ⟨x, hk, hw⟩
theorem reads_build {P : Program} {e : TypeId} {α : Type} {d : Kd α} {wf : α → Prop} (hs : P.cellsOf e = d.sz) (w : World) (ad : Addr) : ∀ (len : Nat), (∀ i, i < len → ∃ (x : α) (c : List Value), c.length = d.sz ∧ d.K w x c ∧ wf x ∧ ∀ j u, c[j]? = some u → w.cell? (ad.add (i * d.sz + j)) = some u) →
  ∃ xs : List α, xs.length = len ∧ (∀ x ∈ xs, wf x) ∧ ∀ j p, xs[j]? = some p → ∃ c, c.length = d.sz ∧ d.K w p c ∧ ∀ i u, c[i]? = some u → w.cell? (ad.add (j * d.sz + i)) = some u := by
 intro len
 induction len with
 | zero => intro _; exact ⟨[], rfl, by simp, by simp⟩
 | succ n ih =>
  intro h
  obtain ⟨xs, hl, hw, hx⟩ := ih (fun i hi => h i (by omega))
  obtain ⟨x, c, hc, hk, hwx, hcell⟩ := h n (by omega)
  refine ⟨xs ++ [x], by simp [hl], ?_, ?_⟩
  ·intro y hy
   rcases List.mem_append.1 hy with hy | hy
   ·exact hw y hy
   ·rw [List.mem_singleton.1 hy]; exact hwx
  ·intro j p hj
   rcases Nat.lt_or_ge j xs.length with hjl | hjl
   ·rw [List.getElem?_append_left hjl] at hj
    exact hx j p hj
   ·have : j = xs.length := by
     have := (List.getElem?_eq_some_iff.1 hj).1
     simp at this
     omega
    subst this
    have hp : x = p := by simpa using hj
    subst hp
    exact ⟨c, hc, hk, by rw [hl]; exact hcell⟩
theorem opens_slice {P : Program} {t e : TypeId} {α : Type} {d : Kd α} {wf : α → Prop} (ht : P.underlying t = some (.slice e)) (hs : P.cellsOf e = d.sz) (h : Opens P e d wf) : Opens P t (Kd.slice e d) (fun l => l.length ≤ maxLen ∧ ∀ x ∈ l, wf x) := by
 intro H enc w base spare held fuel cs y hy
 rcases open_slice ht hy with ⟨rfl, _⟩ | ⟨a, len, cap, m, n, D, Pl, rfl, hb, hl, hm, hmm, hx, hi⟩
 ·exact ⟨[], ⟨none, 0, rfl, Nat.le_refl _, rfl, by simp, by simp⟩, by simp, by simp⟩
 ·have hle : len ≤ m := by rw [hmm]; split <;> omega
  obtain ⟨xs, hxl, hwf, hxs⟩ := reads_build (P := P) (e := e) (d := d) (wf := wf) hs w a len (fun i hlt => by
   obtain ⟨cs', hc, ht'⟩ := hi i (by omega)
   obtain ⟨_, hcl, hat⟩ := World.cells?_some hc
   obtain ⟨x, hk, hwx⟩ := h enc w base spare held n cs' _ ht'
   refine ⟨x, cs', by omega, hk, hwx, fun j u hj => ?_⟩
   have hjl := (List.getElem?_eq_some_iff.1 hj).1
   have := hat j (by omega)
   rw [← Go.Deep.add_add, ← hs, this, hj])
  have hm' : len ≤ maxLen := by omega
  subst hxl
  have hm2 : xs.length ≤ 9223372036854775807 := by unfold maxLen at hm'; omega
  exact ⟨xs, ⟨some a, cap, rfl, hl, rfl, hm2, fun _ => ⟨a, rfl, hxs⟩⟩, hm', hwf⟩
end Go.Proofs.YtmcmemknikineaaW.Opn
namespace Go.Proofs.Ytmcmemknikineaa.objectBack
open Go.ChangeShapes Go.WideShapes Go.ChangeAt Go.RowKit Go.Proofs.YtmcmemknikineaaW YtmcmemknikineaaW.PrintWords Go.Proofs.Ytmcmemknikineaa.P
open Go.ChangeMaps (open_string shut_string)
theorem own : ownKnob Try.prog.godebug = none := by kernel_rfl
theorem laidOut : laidOutB Try.prog = true := by kernel_rfl
theorem opn23 : Opn.Opens Try.prog 23 k23 (fun x => (True ∧ (Lit.int .i64 x.f1).wf = true ∧ (Lit.int .i64 x.f2).wf = true ∧ (Lit.int .i64 x.f3).wf = true ∧ (Lit.int .i64 x.f4).wf = true ∧ (Lit.int .i64 x.f5).wf = true)) :=
 Opn.opens_iso (fun x : S23 => (x.f0, x.f1, x.f2, x.f3, x.f4, x.f5)) (fun a => ⟨a.1, a.2.1, a.2.2.1, a.2.2.2.1, a.2.2.2.2.1, a.2.2.2.2.2⟩) (fun _ => rfl) (Opn.opens_struct Try.underlying23 (by kernel_rfl) (by kernel_rfl) (Opn.opensL_cons (Opn.opens_bool Try.underlying4) (Opn.opensL_cons (Opn.opens_int Try.underlying3) (Opn.opensL_cons (Opn.opens_int Try.underlying3) (Opn.opensL_cons (Opn.opens_int Try.underlying3) (Opn.opensL_cons (Opn.opens_int Try.underlying3) (Opn.opensL_one (Opn.opens_int Try.underlying3))))))))
theorem opn25 : Opn.Opens Try.prog 25 k25 (fun x => ((Lit.int .i64 x.f0).wf = true ∧ (Lit.int .i64 x.f1).wf = true ∧ (Lit.int .i64 x.f2).wf = true)) :=
 Opn.opens_iso (fun x : S25 => (x.f0, x.f1, x.f2)) (fun a => ⟨a.1, a.2.1, a.2.2⟩) (fun _ => rfl) (Opn.opens_struct Try.underlying25 (by kernel_rfl) (by kernel_rfl) (Opn.opensL_cons (Opn.opens_int Try.underlying3) (Opn.opensL_cons (Opn.opens_int Try.underlying3) (Opn.opensL_one (Opn.opens_int Try.underlying3)))))
theorem opn27 : Opn.Opens Try.prog 27 k27 (fun x => ((Lit.int .i64 x.f0).wf = true ∧ (Lit.int .i64 x.f1).wf = true ∧ (True ∧ (Lit.int .i64 x.f2.f1).wf = true ∧ (Lit.int .i64 x.f2.f2).wf = true ∧ (Lit.int .i64 x.f2.f3).wf = true ∧ (Lit.int .i64 x.f2.f4).wf = true ∧ (Lit.int .i64 x.f2.f5).wf = true) ∧ ((Lit.int .i64 x.f3.f0).wf = true ∧ (Lit.int .i64 x.f3.f1).wf = true ∧ (Lit.int .i64 x.f3.f2).wf = true) ∧ (Lit.int .i64 x.f4).wf = true)) :=
 Opn.opens_iso (fun x : S27 => (x.f0, x.f1, x.f2, x.f3, x.f4)) (fun a => ⟨a.1, a.2.1, a.2.2.1, a.2.2.2.1, a.2.2.2.2⟩) (fun _ => rfl) (Opn.opens_struct Try.underlying27 (by kernel_rfl) (by kernel_rfl) (Opn.opensL_cons (Opn.opens_int Try.underlying3) (Opn.opensL_cons (Opn.opens_int Try.underlying3) (Opn.opensL_cons opn23 (Opn.opensL_cons opn25 (Opn.opensL_one (Opn.opens_int Try.underlying3)))))))
theorem lifted (os : Os) (started : os.Started) (H : Type) (enc : TypeId × Value → H) :
  ReturnsInHanded {} Try.checked os 6 .any (Rows.objectBackSpec.pre6 enc Try.prog Try.f6 Rows.objectBackRow.domain false) (Rows.objectBackSpec.post enc Try.prog Try.f6 false true false false) := by
 refine returnsInHanded_of_change_sized (C := Try.checked) own started (by kernel_rfl) Try.func6
  (ChangeSpec.witness6 (enc := enc) (C := Try.checked) false ⟨#[], #[.agg #[(.int .i64 0), (.int .i64 0), (.bool false), (.int .i64 0), (.int .i64 0), (.int .i64 0), (.int .i64 0), (.int .i64 0), (.int .i64 0), (.int .i64 0), (.int .i64 0), (.int .i64 0)], .slice none 0 0, .slice none 0 0], []⟩ 8 (by kernel_rfl) (by kernel_rfl) (by kernel_rfl) (by kernel_rfl)) ?_
 intro W base args ds gs before hval0 hW hcnd hsz0 _
 have hval : ∀ (j : Nat) t v, Try.f6.params[j]? = some t → args[j]? = some v → Value.okWide Try.prog W .any base t v := hval0
 have hW' := hW
 obtain ⟨p, q, hA0, hV, rfl, hfz, hnd⟩ := hW
 have hA : DataW.TrodAll enc Try.prog W 0 (fun _ => true) true Try.f6.params.toList args.toList ds p := hA0
 rw [Try.params6] at hA hval
 obtain ⟨v0, vs0, d0, ds0, p0, q0, hargs, rfl, rfl, h0, r0⟩ := trodAll_cons hA
 obtain ⟨v1, vs1, d1, ds1, p1, q1, rfl, rfl, rfl, h1, r1⟩ := trodAll_cons r0
 obtain ⟨v2, vs2, d2, ds2, p2, q2, rfl, rfl, rfl, h2, r2⟩ := trodAll_cons r1
 obtain ⟨rfl, rfl, rfl⟩ := trodAll_nil r2
 obtain rfl : args = #[v0, v1, v2] := by cases args; simp_all
 obtain ⟨rfl, rfl⟩ := trodVars_none hV
 have k0 := h0
 have lt0 : ∀ x ∈ p0, x.block < W.heap.size := by obtain ⟨m, hm⟩ := k0; exact DataW.trod_lt m _ _ _ hm
 obtain ⟨cs0, hv0, _⟩ := okWide_struct Try.underlying27 (hval 0 27 v0 rfl rfl)
 subst hv0
 obtain ⟨x0, K0, W0⟩ : ∃ x : S27, k27.K W x cs0.toList ∧ ((Lit.int .i64 x.f0).wf = true ∧ (Lit.int .i64 x.f1).wf = true ∧ (True ∧ (Lit.int .i64 x.f2.f1).wf = true ∧ (Lit.int .i64 x.f2.f2).wf = true ∧ (Lit.int .i64 x.f2.f3).wf = true ∧ (Lit.int .i64 x.f2.f4).wf = true ∧ (Lit.int .i64 x.f2.f5).wf = true) ∧ ((Lit.int .i64 x.f3.f0).wf = true ∧ (Lit.int .i64 x.f3.f1).wf = true ∧ (Lit.int .i64 x.f3.f2).wf = true) ∧ (Lit.int .i64 x.f4).wf = true) := by
  obtain ⟨fuel, hf⟩ := h0
  exact opn27 enc W 0 (fun _ => true) true fuel _ _ hf
 have E0 := k27_open K0
 obtain ⟨cl0⟩ := cs0
 have E0' : cl0 = _ := E0
 subst E0'
 have k1 := h1
 have lt1 : ∀ x ∈ p1, x.block < W.heap.size := by obtain ⟨m, hm⟩ := k1; exact DataW.trod_lt m _ _ _ hm
 obtain ⟨a1, len1, cap1, rfl⟩ := okWide_slice Try.underlying28 (hval 1 28 v1 rfl rfl)
 obtain ⟨l1, K1, W1⟩ : ∃ l : List Int, (Kd.slice 5 (Kd.int .u8)).K W l [.slice a1 len1 cap1] ∧ (l.length ≤ maxLen ∧ ∀ x0_ ∈ l, (Lit.int .u8 x0_).wf = true) := by
  obtain ⟨fuel, hf⟩ := h1
  exact (Opn.opens_slice Try.underlying28 (by kernel_rfl) (Opn.opens_int Try.underlying5)) enc W 0 (fun _ => true) true fuel _ _ hf
 obtain ⟨A1, c1, E1, g1, C1⟩ := K1
 simp only [List.cons.injEq, Value.slice.injEq, and_true] at E1
 obtain ⟨rfl, rfl, rfl⟩ := E1
 have k2 := h2
 have lt2 : ∀ x ∈ p2, x.block < W.heap.size := by obtain ⟨m, hm⟩ := k2; exact DataW.trod_lt m _ _ _ hm
 obtain ⟨a2, len2, cap2, rfl⟩ := okWide_slice Try.underlying28 (hval 2 28 v2 rfl rfl)
 obtain ⟨l2, K2, W2⟩ : ∃ l : List Int, (Kd.slice 5 (Kd.int .u8)).K W l [.slice a2 len2 cap2] ∧ (l.length ≤ maxLen ∧ ∀ x0_ ∈ l, (Lit.int .u8 x0_).wf = true) := by
  obtain ⟨fuel, hf⟩ := h2
  exact (Opn.opens_slice Try.underlying28 (by kernel_rfl) (Opn.opens_int Try.underlying5)) enc W 0 (fun _ => true) true fuel _ _ hf
 obtain ⟨A2, c2, E2, g2, C2⟩ := K2
 simp only [List.cons.injEq, Value.slice.injEq, and_true] at E2
 obtain ⟨rfl, rfl, rfl⟩ := E2
 obtain ⟨k, hk⟩ := Pure.ObjectBack x0 l1 l2 W0 W1.1 W1.2 W2.1 W2.2
 clear hA0 hval0 hsz0
 refine (thalweglaw04_ObjectBack.calls (k := k) (a0_0 := x0.f0) (a0_1 := x0.f1) (a0_2 := x0.f2.f0) (a0_3 := x0.f2.f1) (a0_4 := x0.f2.f2) (a0_5 := x0.f2.f3) (a0_6 := x0.f2.f4) (a0_7 := x0.f2.f5) (a0_8 := x0.f3.f0) (a0_9 := x0.f3.f1) (a0_10 := x0.f3.f2) (a0_11 := x0.f4) (P1_ := fun _ => True) (A1 := a1) (c1 := cap1) (l1 := l1) (P2_ := fun _ => True) (A2 := a2) (c2 := cap2) (l2 := l2) (r := true) (w := W) (hs1 := (Kd.V_mk g1 (Kd.F_mono (Kd.C_F (Kd.heap_int _) C1) (fun _ _ => trivial)))) (hs2 := (Kd.V_mk g2 (Kd.F_mono (Kd.C_F (Kd.heap_int _) C2) (fun _ _ => trivial)))) (h := hk)).mono fun e W' ⟨he, bel⟩ => ?_
 subst he
 exact ⟨_, rfl, _, _, _, [], _, [], hW', trodAll_mk1 (shut_bool Try.underlying4 _), (trodAll_cons_mk (Below.trod laidOut (by kernel_rfl) (of_decide_eq_true (by kernel_rfl)) k0 bel lt0) (trodAll_cons_mk (Below.trod laidOut (by kernel_rfl) (of_decide_eq_true (by kernel_rfl)) k1 bel lt1) (trodAll_cons_mk (Below.trod laidOut (by kernel_rfl) (of_decide_eq_true (by kernel_rfl)) k2 bel lt2) trodAll_mk0))), rfl, bel.frame _, fun h => by cases h⟩
theorem over : Rows.objectBackRow.holds Try.pinned (OpenSpec.ofChange Rows.objectBackSpec) :=
 OpenClaim.holds_of_wide 6 Try.f6 rfl rfl rfl rfl rfl rfl rfl ⟨rfl, rfl, rfl, rfl, rfl⟩ rfl rfl rfl rfl rfl (by kernel_rfl) Try.func6 (by kernel_rfl)
  (of_decide_eq_true (by kernel_rfl)) (by unfold Func.isWrapper; first | (rw [if_pos (by decide +kernel)]; kernel_rfl) | (rw [if_neg (by decide +kernel)]; exact ⟨rfl, rfl⟩))
  (fun os started H enc _ => lifted os started H enc)
theorem proved : Rows.ObjectBackSaid := over
end Go.Proofs.Ytmcmemknikineaa.objectBack
namespace Go.Proofs.Ytmcmemknikineaa
theorem objectBack_holds : Rows.ObjectBackSaid := objectBack.proved
end Go.Proofs.Ytmcmemknikineaa
