/- The statement BeaconDoes, proved of the given program; it has no conditions. (Of many texts laid together) -/
import Derived.Test.YtaiklcpmlkpfjaaXBeaconDoesWWords
import Derived.Test.YtaiklcpmlkpfjaaXBeaconDoesWMore
import Derived.ProofKit
import Derived.OpenShut
import Derived.ChangeSame
import Derived.ChangeOld
import Derived.Deep.Slices
import Derived.Deep.Fields
import Derived.Test.YtaiklcpmlkpfjaaRows
import Derived.WalkKit
import Derived.ShutString
import Derived.Below
import Derived.SizedLaws
import Derived.Test.YtaiklcpmlkpfjaaXBeaconDoesa
import Derived.Test.YtaiklcpmlkpfjaaXBeaconDoesb
import Derived.Test.YtaiklcpmlkpfjaaXBeaconDoesc
import Derived.Test.YtaiklcpmlkpfjaaXBeaconDoesd
import Derived.Test.YtaiklcpmlkpfjaaXBeaconDoese
set_option linter.unusedVariables false
set_option linter.unusedSimpArgs false
set_option maxHeartbeats 8000000
set_option maxRecDepth 100000
namespace Go.Proofs.Ytaiklcpmlkpfjaa.P
open Go.RowKit YtaiklcpmlkpfjaaW.PrintWords
def thalweglaw06_BeaconDoes.Pure : Prop := ∀ (x0 : S25) (a1 : Int) (a2 : Int), ((Lit.int .i64 x0.f0).wf = true ∧ (x0.f1.length ≤ maxLen ∧ ∀ x0_ ∈ x0.f1, ((Lit.int .i64 x0_.f0).wf = true ∧ (Lit.int .i64 x0_.f1).wf = true))) → (Lit.int .i64 a1).wf = true → (Lit.int .i64 a2).wf = true → ∃ k, thalweglaw06_BeaconDoes.f k x0.f0 x0.f1 a1 a2 = some true
end Go.Proofs.Ytaiklcpmlkpfjaa.P
namespace Go.Proofs.Ytaiklcpmlkpfjaa.P
open Go.RowKit YtaiklcpmlkpfjaaW.PrintWords YtaiklcpmlkpfjaaW.PrintLast YtaiklcpmlkpfjaaW.PrintMore
open Classical
abbrev Srt (Y : List S59) : Prop := Y.Pairwise (fun a b => a.f0 < b.f0)
def putS : List S59 → Int → Int → List S59
 | [], id, ep => [⟨id, ep⟩]
 | o :: r, id, ep => if o.f0 < id then o :: putS r id ep else if o.f0 = id then ⟨id, ep⟩ :: r else ⟨id, ep⟩ :: o :: r
def delS : List S59 → Int → List S59
 | [], _ => []
 | o :: r, id => if o.f0 = id then r else o :: delS r id
def hearS : List S59 → Int → Int × Bool
 | [], _ => (0, false)
 | o :: r, id => if o.f0 = id then (o.f1, true) else hearS r id
theorem rd_nat (Y : List S59) (t : Nat) (h : t < Y.length) : rd_T59 Y (t : Int) = Y[t] := by
 unfold rd_T59
 rw [Int.toNat_natCast, List.getD_eq_getElem?_getD, List.getElem?_eq_getElem h]
 rfl
theorem rb_parts {n : Int} {Y : List S59} : RBn n Y ↔ EpR n ∧ (∀ o ∈ Y, 0 ≤ o.f0 ∧ o.f0 < 64 ∧ EpR o.f1) ∧ Srt Y := by
 constructor
 ·intro h
  refine ⟨h.1, fun o ho => ?_, ?_⟩
  ·obtain ⟨t, ht, rfl⟩ := List.mem_iff_getElem.1 ho
   have := h.2 t (by omega) (by omega)
   unfold AtR at this
   rw [rd_nat Y t ht] at this
   exact ⟨this.1, this.2.1, this.2.2.1⟩
  ·rw [Srt, List.pairwise_iff_getElem]
   have key : ∀ (d s : Nat) (hs : s + d + 1 < Y.length), (Y[s]'(by omega)).f0 < (Y[s + d + 1]'hs).f0 := by
    intro d
    induction d with
    | zero =>
     intro s hs
     have := h.2 ((s + 1 : Nat) : Int) (by omega) (by omega)
     unfold AtR at this
     rcases this.2.2.2 with h0 | h0
     ·omega
     ·rw [show ((s + 1 : Nat) : Int) - 1 = (s : Int) by omega, rd_nat Y s (by omega), rd_nat Y (s + 1) (by omega)] at h0
      exact h0
    | succ d ih =>
     intro s hs
     have h1 := ih s (by omega)
     have := h.2 ((s + d + 2 : Nat) : Int) (by omega) (by omega)
     unfold AtR at this
     rcases this.2.2.2 with h0 | h0
     ·omega
     ·rw [show ((s + d + 2 : Nat) : Int) - 1 = ((s + d + 1 : Nat) : Int) by omega, rd_nat Y (s + d + 1) (by omega), rd_nat Y (s + d + 2) (by omega)] at h0
      exact Int.lt_trans h1 h0
   intro i j hi hj hij
   obtain ⟨d, rfl⟩ : ∃ d, j = i + d + 1 := ⟨j - i - 1, by omega⟩
   exact key d i hj
 ·rintro ⟨h1, h2, h3⟩
  refine ⟨h1, fun i h0 hi => ?_⟩
  obtain ⟨t, rfl⟩ := Int.eq_ofNat_of_zero_le h0
  have ht : t < Y.length := by omega
  unfold AtR
  rw [rd_nat Y t ht]
  obtain ⟨a, b, c⟩ := h2 _ (List.getElem_mem ht)
  refine ⟨a, b, c, ?_⟩
  rcases Nat.eq_zero_or_pos t with h0 | h0
  ·exact .inl (by omega)
  ·refine .inr ?_
   rw [show ((t : Nat) : Int) - 1 = ((t - 1 : Nat) : Int) by omega, rd_nat Y (t - 1) (by omega)]
   exact List.pairwise_iff_getElem.1 h3 (t - 1) t (by omega) ht (by omega)
theorem mem_putS (id ep : Int) : ∀ (Y : List S59) (o : S59), o ∈ putS Y id ep → o = ⟨id, ep⟩ ∨ o ∈ Y := by
 intro Y
 induction Y with
 | nil => intro o h; simp [putS] at h; exact .inl h
 | cons a r ih =>
  intro o h
  simp only [putS] at h
  split at h
  ·rcases List.mem_cons.1 h with h | h
   ·exact .inr (by rw [h]; exact List.mem_cons_self ..)
   ·rcases ih o h with h | h
    ·exact .inl h
    ·exact .inr (List.mem_cons_of_mem _ h)
  ·split at h
   ·rcases List.mem_cons.1 h with h | h
    ·exact .inl h
    ·exact .inr (List.mem_cons_of_mem _ h)
   ·rcases List.mem_cons.1 h with h | h
    ·exact .inl h
    ·exact .inr h
theorem putS_has (id ep : Int) : ∀ (Y : List S59), (⟨id, ep⟩ : S59) ∈ putS Y id ep := by
 intro Y
 induction Y with
 | nil => simp [putS]
 | cons a r ih =>
  simp only [putS]
  split
  ·exact List.mem_cons_of_mem _ ih
  ·split <;> exact List.mem_cons_self ..
theorem srt_putS (id ep : Int) : ∀ (Y : List S59), Srt Y → Srt (putS Y id ep) := by
 intro Y
 induction Y with
 | nil => intro _; simp [putS, Srt]
 | cons a r ih =>
  intro h
  have h1 := List.pairwise_cons.1 h
  simp only [putS]
  split
  ·refine List.pairwise_cons.2 ⟨fun o ho => ?_, ih h1.2⟩
   rcases mem_putS id ep r o ho with rfl | ho
   ·assumption
   ·exact h1.1 o ho
  ·split
   ·rename_i e
    exact List.pairwise_cons.2 ⟨fun o ho => by have := h1.1 o ho; show id < o.f0; omega, h1.2⟩
   ·refine List.pairwise_cons.2 ⟨fun o ho => ?_, h⟩
    show id < o.f0
    rcases List.mem_cons.1 ho with rfl | ho
    ·omega
    ·have := h1.1 o ho
     omega
theorem rb_putS {n : Int} {Y : List S59} (h : RBn n Y) (id ep : Int) : RBn n (putS Y id ep) ↔ (0 ≤ id ∧ id < 64 ∧ EpR ep) := by
 obtain ⟨h1, h2, h3⟩ := rb_parts.1 h
 constructor
 ·intro hh
  exact (rb_parts.1 hh).2.1 _ (putS_has id ep Y)
 ·intro hh
  refine rb_parts.2 ⟨h1, fun o ho => ?_, srt_putS id ep Y h3⟩
  rcases mem_putS id ep Y o ho with rfl | ho
  ·exact hh
  ·exact h2 o ho
theorem putS_length (id ep : Int) : ∀ (Y : List S59), (putS Y id ep).length ≤ Y.length + 1 := by
 intro Y
 induction Y with
 | nil => simp [putS]
 | cons a r ih =>
  simp only [putS]
  split
  ·simp only [List.length_cons]; omega
  ·split <;> simp
theorem hear_none {id : Int} : ∀ (Y : List S59), (∀ o ∈ Y, o.f0 ≠ id) → hearS Y id = (0, false) := by
 intro Y
 induction Y with
 | nil => intro _; rfl
 | cons o r ih =>
  intro h
  simp only [hearS]
  rw [if_neg (h o (List.mem_cons_self ..)), ih (fun x hx => h x (List.mem_cons_of_mem _ hx))]
theorem del_length (id : Int) : ∀ (Y : List S59), (delS Y id).length ≤ Y.length := by
 intro Y
 induction Y with
 | nil => simp [delS]
 | cons a r ih => simp only [delS]; split <;> simp <;> omega
theorem bcmp_lt (a b : Int) : bcmp a b < 0 ↔ a < b := by unfold bcmp; split <;> (try split) <;> omega
theorem bcmp_eq (a b : Int) : bcmp a b = 0 ↔ a = b := by unfold bcmp; split <;> (try split) <;> omega
theorem bsF_spec (id : Int) (Y : List S59) (hs : Srt Y) : ∀ (k : Nat) (i j : Nat), i ≤ j → j ≤ Y.length → j - i < k → (∀ t (ht : t < Y.length), t < i → (Y[t]).f0 < id) → (∀ t (ht : t < Y.length), j ≤ t → id ≤ (Y[t]).f0) →
  ∃ r : Nat, bsF id Y k i j = r ∧ r ≤ Y.length ∧ (∀ t (ht : t < Y.length), t < r → (Y[t]).f0 < id) ∧ (∀ t (ht : t < Y.length), r ≤ t → id ≤ (Y[t]).f0) := by
 intro k
 induction k with
 | zero => intro i j h1 h2 h3; omega
 | succ k ih =>
  intro i j h1 h2 h3 h4 h5
  simp only [bsF]
  split
  ·rename_i hij
   have hm : ((i : Int) + (j : Int)) / 2 = (((i + j) / 2 : Nat) : Int) := by omega
   have hml : (i + j) / 2 < Y.length := by omega
   rw [hm, rd_nat Y _ hml]
   split
   ·rename_i hlt
    rw [bcmp_lt] at hlt
    rw [show (((i + j) / 2 : Nat) : Int) + 1 = (((i + j) / 2 + 1 : Nat) : Int) by omega]
    refine ih ((i + j) / 2 + 1) j (by omega) h2 (by omega) (fun t ht htl => ?_) h5
    rcases Nat.lt_or_ge t ((i + j) / 2) with h | h
    ·exact Int.lt_trans (List.pairwise_iff_getElem.1 hs t ((i + j) / 2) ht hml h) hlt
    ·obtain rfl : t = (i + j) / 2 := by omega
     exact hlt
   ·rename_i hge
    rw [bcmp_lt] at hge
    refine ih i ((i + j) / 2) (by omega) (by omega) (by omega) h4 (fun t ht htl => ?_)
    rcases Nat.lt_or_ge ((i + j) / 2) t with h | h
    ·have := List.pairwise_iff_getElem.1 hs ((i + j) / 2) t hml ht h
     omega
    ·obtain rfl : t = (i + j) / 2 := by omega
     omega
  ·exact ⟨i, rfl, by omega, h4, fun t ht htl => h5 t ht (by omega)⟩
theorem bs_parts (id : Int) (Y : List S59) (hs : Srt Y) : ∃ L R : List S59, Y = L ++ R ∧ bsAt Y id = L.length ∧ (∀ o ∈ L, o.f0 < id) ∧ (∀ o ∈ R, id ≤ o.f0) := by
 obtain ⟨r, h1, h2, h3, h4⟩ := bsF_spec id Y hs (Y.length + 1) 0 Y.length (Nat.zero_le _) (Nat.le_refl _) (by omega) (fun t _ h => by omega) (fun t ht h => by omega)
 refine ⟨Y.take r, Y.drop r, (List.take_append_drop r Y).symm, by rw [List.length_take, Nat.min_eq_left h2]; exact h1, fun o ho => ?_, fun o ho => ?_⟩
 ·obtain ⟨t, ht, rfl⟩ := List.mem_iff_getElem.1 ho
  rw [List.length_take] at ht
  rw [List.getElem_take]
  exact h3 t (by omega) (by omega)
 ·obtain ⟨t, ht, rfl⟩ := List.mem_iff_getElem.1 ho
  rw [List.length_drop] at ht
  rw [List.getElem_drop]
  exact h4 (r + t) (by omega) (by omega)
theorem put_app (id ep : Int) : ∀ (L R : List S59), (∀ o ∈ L, o.f0 < id) → putS (L ++ R) id ep = L ++ putS R id ep := by
 intro L R
 induction L with
 | nil => intro _; rfl
 | cons o r ih => intro h; simp only [List.cons_append, putS]; rw [if_pos (h o (List.mem_cons_self ..)), ih (fun x hx => h x (List.mem_cons_of_mem _ hx))]
theorem del_app (id : Int) : ∀ (L R : List S59), (∀ o ∈ L, o.f0 < id) → delS (L ++ R) id = L ++ delS R id := by
 intro L R
 induction L with
 | nil => intro _; rfl
 | cons o r ih => intro h; simp only [List.cons_append, delS]; rw [if_neg (by have := h o (List.mem_cons_self ..); omega), ih (fun x hx => h x (List.mem_cons_of_mem _ hx))]
theorem hear_app (id : Int) : ∀ (L R : List S59), (∀ o ∈ L, o.f0 < id) → hearS (L ++ R) id = hearS R id := by
 intro L R
 induction L with
 | nil => intro _; rfl
 | cons o r ih => intro h; simp only [List.cons_append, hearS]; rw [if_neg (by have := h o (List.mem_cons_self ..); omega), ih (fun x hx => h x (List.mem_cons_of_mem _ hx))]
theorem at_all (id ep : Int) (Y : List S59) (hs : Srt Y) : isAt Y id = (hearS Y id).2 ∧ withL Y id ep = putS Y id ep ∧ ((hearS Y id).2 = true → withoutL Y id = delS Y id) := by
 obtain ⟨L, R, rfl, hb, hL, hR⟩ := bs_parts id Y hs
 unfold withL withoutL isAt
 rw [hb, put_app id ep L R hL, del_app id L R hL, hear_app id L R hL, Int.toNat_natCast]
 cases R with
 | nil =>
  have : ¬ ((L.length : Int) < ((L ++ ([] : List S59)).length : Int)) := by simp
  simp only [decide_eq_false this, Bool.false_and, hearS, putS, Bool.false_eq_true, if_false]
  refine ⟨trivial, ?_, fun h => by cases h⟩
  simp
 | cons o r =>
  have h1 : ((L.length : Int) < ((L ++ o :: r).length : Int)) := by simp; omega
  have h2 : rd_T59 (L ++ o :: r) (L.length : Int) = o := by
   rw [rd_nat _ _ (by simp)]
   simp
  have h3 := hR o (List.mem_cons_self ..)
  rw [h2]
  simp only [decide_eq_true h1, Bool.true_and, hearS, putS, delS, if_neg (show ¬ o.f0 < id by omega)]
  by_cases he : o.f0 = id
  ·have hc : (bcmp o.f0 id == 0) = true := by rw [beq_iff_eq]; exact (bcmp_eq _ _).2 he
   rw [hc, if_pos he, if_pos he]
   refine ⟨rfl, ?_, fun _ => ?_⟩
   ·rw [if_pos rfl, he]
    simp
   ·rw [if_pos he, List.eraseIdx_append_of_length_le (Nat.le_refl _)]
    simp
  ·have hc : (bcmp o.f0 id == 0) = false := by rw [beq_eq_false_iff_ne]; exact fun h => he ((bcmp_eq _ _).1 h)
   have hn : hearS r id = (0, false) := by
    refine hear_none r (fun x hx => ?_)
    have hp := (List.pairwise_append.1 hs).2.1
    have := (List.pairwise_cons.1 hp).1 x hx
    omega
   rw [hc, if_neg he, if_neg he, hn]
   refine ⟨rfl, ?_, fun h => by cases h⟩
   simp
theorem ix_hear (id : Int) : ∀ (Y Z : List S59), (if ixF id Y (Z.length : Int) < 0 then ((0 : Int), false) else ((rd_T59 (Z ++ Y) (ixF id Y (Z.length : Int))).f1, true)) = hearS Y id := by
 intro Y
 induction Y with
 | nil => intro Z; simp [ixF, hearS]
 | cons o r ih =>
  intro Z
  simp only [hearS]
  by_cases h : o.f0 = id
  ·have e2 : ixF id (o :: r) (Z.length : Int) = (Z.length : Int) := if_pos h
   rw [e2, if_neg (by omega), if_pos h, rd_nat _ _ (by simp)]
   simp
  ·have e2 : ixF id (o :: r) (Z.length : Int) = ixF id r ((Z.length : Int) + 1) := if_neg h
   rw [e2, if_neg h]
   have := ih (Z ++ [o])
   simp only [List.length_append, List.length_cons, List.length_nil, List.append_assoc, List.cons_append, List.nil_append] at this
   rw [show (((Z.length + (0 + 1) : Nat) : Nat) : Int) = (Z.length : Int) + 1 by omega] at this
   exact this
theorem heard_eq (n : Int) (Y : List S59) (id : Int) (hl : Y.length ≤ 1000000000000) : beacon_Heard.f n Y id = some (hearS Y id) := by
 unfold beacon_Heard.f
 rw [if_pos hl]
 have := ix_hear id Y []
 simp only [List.length_nil, List.nil_append] at this
 exact congrArg some this
theorem with_eq (n : Int) (Y : List S59) (id ep : Int) (hl : Y.length ≤ 1000000000000) : beacon_With.f n Y id ep = some (if RBn n Y ∧ 0 ≤ id ∧ id < 64 ∧ EpR ep then (n, putS Y id ep, 0) else (0, [], 1)) := by
 unfold beacon_With.f
 rw [if_pos hl]
 by_cases h : RBn n Y ∧ 0 ≤ id ∧ id < 64 ∧ EpR ep
 ·rw [if_pos h, if_pos ⟨(rbB_iff _ _).2 h.1, h.2.1, h.2.2.1, h.2.2.2.1, h.2.2.2.2⟩, (at_all id ep Y (rb_parts.1 h.1).2.2).2.1]
 ·rw [if_neg h, if_neg (fun hh => h ⟨(rbB_iff _ _).1 hh.1, hh.2.1, hh.2.2.1, hh.2.2.2⟩)]
theorem without_eq (n : Int) (Y : List S59) (id : Int) (hl : Y.length ≤ 1000000000000) : beacon_Without.f n Y id = some (if RBn n Y then (if (hearS Y id).2 = true then (n, delS Y id, 0) else (0, [], 7)) else (0, [], 1)) := by
 unfold beacon_Without.f
 rw [if_pos hl]
 by_cases h : RBn n Y
 ·rw [if_pos h, if_pos ((rbB_iff _ _).2 h)]
  obtain ⟨h1, _, h3⟩ := at_all id 0 Y (rb_parts.1 h).2.2
  rw [h1]
  by_cases hh : (hearS Y id).2 = true
  ·rw [if_pos hh, if_pos hh, h3 hh]
  ·rw [if_neg hh, if_neg hh]
 ·rw [if_neg h, if_neg (fun hh => h ((rbB_iff _ _).1 hh))]
end Go.Proofs.Ytaiklcpmlkpfjaa.P
namespace Go.Proofs.Ytaiklcpmlkpfjaa.P
open Go.RowKit YtaiklcpmlkpfjaaW.PrintWords YtaiklcpmlkpfjaaW.PrintLast YtaiklcpmlkpfjaaW.PrintMore
section
variable {P : Program} {f : FuncId} {fn : Func}
theorem run_call_loadp (hf : P.funcs[f]? = some fn) (hname : (fn.name == "runtime.NumGoroutine") = false) (hb : fn.body.isNone = true) (hn : Extern.findNext fn = none)
  (he : Extern.find fn = some (Extern.Atomic.loadT .ptr)) {a : Addr} {x : Option Addr} {w : World} (hc : w.cell? a = some (.pointer x)) :
  (callFunc f #[.pointer (some a)]).run P w = .ok (.value (.pointer x)) w := by
 rw [run_callFunc_extern hf hname hb hn he]
 change (Sem.run P (do Extern.Atomic.read .ptr (← asAddr (.pointer (some a)))) w).andThen _ = _
 simp [Extern.Atomic.read, asAddr, hc, Result.andThen]
theorem run_call_casp (hf : P.funcs[f]? = some fn) (hname : (fn.name == "runtime.NumGoroutine") = false) (hb : fn.body.isNone = true) (hn : Extern.findNext fn = none)
  (he : Extern.find fn = some (Extern.Atomic.casT .ptr)) {a : Addr} {q : Option Addr} {w : World} (hc : w.cell? a = some (.pointer none)) (hz : w.frozen? a = false) :
  (callFunc f #[.pointer (some a), .pointer none, .pointer q]).run P w = .ok (.value (.bool true)) (w.setCell a (.pointer q)) := by
 rw [run_callFunc_extern hf hname hb hn he]
 change (Sem.run P (do
  let a' ← asAddr (.pointer (some a))
  if ← Extern.Atomic.touchesFrozen a' then unsupported (.unsafePointer "a write to bytes that a string shares")
  let eq ← match Extern.Atomic.T.ptr, ← Extern.Atomic.read .ptr a', Value.pointer none with
   | _, .int _ x, .int _ y => pure (x == y)
   | .ptr, .pointer x, .pointer y => samePointer x y
   | .int _, .pointer (some _), .int _ 0 | .int _, .int _ 0, .pointer (some _) => pure false
   | .int _, .pointer (some _), _ | .int _, _, .pointer (some _) => unsupported .addressObserved
   | _, _, _ => stuck "atomic.CompareAndSwap: old is no T"
  if eq then store a' (.pointer q) .atomic
  pure (Value.bool eq)) w).andThen _ = _
 simp [Extern.Atomic.touchesFrozen, Extern.Atomic.read, asAddr, viewAt, samePointer, World.shape?_isSome_of_cell? hc, hc, hz, run_store P w a (.pointer q) .atomic rfl, Result.andThen]
theorem run_convert_nil_to {src dst t : TypeId} (hs : P.underlying src = some (.pointer t)) (hd : P.underlying dst = some .unsafePointer) (w : World) : (convert src dst (.pointer none)).run P w = .ok (.pointer none) w := by
 simp [convert, Conv.unsafePointer, run_underlying hs, run_underlying hd, Result.andThen]
theorem run_convert_nil_from {src dst t : TypeId} (hs : P.underlying src = some .unsafePointer) (hd : P.underlying dst = some (.pointer t)) (w : World) : (convert src dst (.pointer none)).run P w = .ok (.pointer none) w := by
 simp [convert, Conv.unsafePointer, run_underlying hs, run_underlying hd, Result.andThen]
theorem run_convert_from {src dst t : TypeId} (hs : P.underlying src = some .unsafePointer) (hd : P.underlying dst = some (.pointer t)) (hsz : (P.info? t).map (fun i => decide (i.size = 0)) = some false) {g : Nat} {v : Value} (hl : liesAt P P.depth t (1 / P.cellsOf t) 0 t 1 = true)
  {w : World} (hb : w.heap[g]? = some (.cells #[v] t (0, 0))) : (convert src dst (.pointer (some ⟨g, 0, none⟩))).run P w = .ok (.pointer (some ⟨g, 0, none⟩)) w := by
 obtain ⟨i, hi, hz0⟩ := Option.map_eq_some_iff.1 hsz
 have hz : i.size ≠ 0 := by simpa using hz0
 have hsh : w.shape? g = some (t, 1) := by
  unfold World.shape?
  rw [hb]
  rfl
 simp [convert, Conv.unsafePointer, Conv.seenAt, viewAt, variablesAt, sizeOf, typeInfo, run_underlying hs, run_underlying hd, hi, hz, hsh, hl, Result.andThen]
end
theorem wire_number_eq (l : List Int) (a n : Int) (hB : Bytes l) (hl : l.length ≤ 1000000000000) (h0 : 0 ≤ n) (h8 : n ≤ 8) : wire_number.f l a n = some (numSpec l a n) := by
 unfold wire_number.f
 rw [if_pos ⟨hl, h0, h8, hB⟩]
theorem numSpec_small (l : List Int) (a n : Int) (hB : Bytes l) (h7 : n ≤ 7) : 0 ≤ (numSpec l a n).1 ∧ (numSpec l a n).1 < 72057594037927936 := by
 unfold numSpec
 split
 ·simp
 ·split
  ·simp
  ·have hr := bev_range _ ((hB.drop a.toNat).take n.toNat)
   have hp : (256 : Int) ^ ((l.drop a.toNat).take n.toNat).length ≤ 256 ^ 7 := pow256_le _ _ (by rw [List.length_take]; omega)
   have e7 : (256 : Int) ^ 7 = 72057594037927936 := by decide
   exact ⟨hr.1, by show bev _ < _; omega⟩
theorem wire_Get_eq (l : List Int) (a n : Int) (hB : Bytes l) (hl : l.length ≤ 1000000000000) : wire_Get.f l a n = some (getSpec l a n) := by
 unfold wire_Get.f getSpec
 by_cases c : n < 1 ∨ 7 < n
 ·rw [if_pos c]
  by_cases c1 : n < 1
  ·rw [if_pos c1]
  ·rw [if_neg c1, if_pos (show n > 7 by omega)]
 ·rw [if_neg c]
  rw [if_neg (show ¬ n < 1 by omega), if_neg (show ¬ n > 7 by omega), wire_number_eq l a n hB hl (by omega) (by omega)]
  have hs := numSpec_small l a n hB (by omega)
  rw [Option.bind_some, w64 (by omega) (by omega)]
theorem bp_load0 (g : Nat) (w : World) (hc : w.cell? ⟨g, 2, none⟩ = some (.pointer none)) :
  Calls Try.prog 25 #[.pointer (some ⟨g, 2, none⟩)] w fun e w' => e = .returned (.pointer none) ∧ w = w' := by
 have hld := run_call_loadp (P := Try.prog) Try.func39 (by kernel_rfl) (by kernel_rfl) (by kernel_rfl) (by kernel_rfl) hc
 have hcv := run_convert_nil_from (P := Try.prog) (src := 52) (dst := 48) Try.underlying52 Try.underlying48 w
 go_enter Try.func25, Try.ntmps25
 go_wp2
 go_ret
 exact ⟨rfl, rfl⟩
theorem bp_load1 (g gb : Nat) (e : Int) (w : World) (hc : w.cell? ⟨g, 2, none⟩ = some (.pointer (some ⟨gb, 0, none⟩))) (hb : w.heap[gb]? = some (.cells #[.int .i64 e] 26 (0, 0))) :
  Calls Try.prog 25 #[.pointer (some ⟨g, 2, none⟩)] w fun e w' => e = .returned (.pointer (some ⟨gb, 0, none⟩)) ∧ w = w' := by
 have hld := run_call_loadp (P := Try.prog) Try.func39 (by kernel_rfl) (by kernel_rfl) (by kernel_rfl) (by kernel_rfl) hc
 have hcv := run_convert_from (P := Try.prog) (src := 52) (dst := 48) Try.underlying52 Try.underlying48 (by kernel_rfl) (by kernel_rfl) hb
 clear hb
 go_enter Try.func25, Try.ntmps25
 go_wp2
 go_ret
 exact ⟨rfl, rfl⟩
theorem bp_cas (g gb : Nat) (v : Value) (w : World) (hc : w.cell? ⟨g, 2, none⟩ = some (.pointer none)) (hz : w.frozen? ⟨g, 2, none⟩ = false) (hb : w.cell? ⟨gb, 0, none⟩ = some v) :
  Calls Try.prog 38 #[.pointer (some ⟨g, 2, none⟩), .pointer none, .pointer (some ⟨gb, 0, none⟩)] w fun e w' => e = .returned (.bool true) ∧ w.setCell ⟨g, 2, none⟩ (.pointer (some ⟨gb, 0, none⟩)) = w' := by
 have hcs := run_call_casp (P := Try.prog) Try.func48 (by kernel_rfl) (by kernel_rfl) (by kernel_rfl) (by kernel_rfl) (q := some ⟨gb, 0, none⟩) hc hz
 have hc0 := run_convert_nil_to (P := Try.prog) (src := 48) (dst := 52) Try.underlying48 Try.underlying52 w
 have hc1 := run_convert_to_unsafe (P := Try.prog) (src := 48) (dst := 52) Try.underlying48 Try.underlying52 (by kernel_rfl) hb
 go_enter Try.func38, Try.ntmps38
 go_wp2
 go_ret
 exact ⟨rfl, rfl⟩
theorem bgrown_below {w w1 w2 : World} {g : Nat} (hb : Below w.heap.size w w1) (h : w1.grownBy w2 (some g)) : w.grownBy w2 (some g) :=
 ⟨h.os.trans hb.os, h.tape.trans hb.tape, h.output.trans hb.output, Nat.le_trans hb.size h.size, fun k hk hn => (h.block k (Nat.lt_of_lt_of_le hk hb.size) hn).trans (hb.block k hk)⟩
theorem bgrown_set {w : World} {g : Nat} {cs : Array Value} {t : TypeId} (hb : w.heap[g]? = some (.cells cs t (0, 0))) (i : Nat) (u : Value) : w.grownBy (w.setCell ⟨g, i, none⟩ u) (some g) :=
 ⟨rfl, rfl, rfl, by simp [World.setCell], fun k hk hn => Below.heap_setCell w ⟨g, i, none⟩ u k (fun e => hn (by rw [e]))⟩
def RdB (A : Option Addr) (n c : Nat) (at_ : Int) (p : Option Addr) : Array Value := #[.slice A n c, .int .i64 at_, .pointer p]
theorem bn_E (g gb : Nat) (A : Option Addr) (n c : Nat) (at_ e sz : Int) (w : World) (hb : w.heap[g]? = some (.cells (RdB A n c at_ (some ⟨gb, 0, none⟩)) 56 (0, 0))) (he : w.heap[gb]? = some (.cells #[.int .i64 e] 26 (0, 0))) :
  Calls Try.prog 24 #[.pointer (some ⟨g, 0, none⟩), .int .i64 sz] w fun x w' => x = .returned (.int .i64 0) ∧ w = w' := by
 have h2 : w.cell? ⟨g, 2, none⟩ = some (.pointer (some ⟨gb, 0, none⟩)) := (blk_cell hb 2).trans rfl
 have HE := Aside0.mk he
 clear hb he
 go_enter Try.func24, Try.ntmps24
 go_wp2_with (go_at_call 25; (with_reducible refine (bp_load1 g gb e _ h2 HE.out).mono ?_); rintro _ _ ⟨rfl, rfl⟩)
 go_ret
 exact ⟨rfl, rfl⟩
def bn_ok.T3 : Bool × List (List Nat × List Nat) := (true, [([], []), ([0], [0]), ([1], [1]), ([2], [2]), ([], []), ([4], [4]), ([5], [5]), ([6], [6]), ([], []), ([3, 7, 8], [3, 7, 8]), ([9], [9]), ([10], [10]), ([10], [10]), ([10], [10]), ([], []), ([11, 9, 0, 1, 2, 3, 4, 5, 6, 7, 8, 9, 10, 11, 14], [11]), ([12, 15, 0, 1, 2, 3, 4, 5, 6, 7, 8, 9, 10, 11, 12, 14, 15], [12]), ([14, 13, 16, 0, 1, 2, 3, 4, 5, 6, 7, 8, 9, 10, 11, 12, 13, 14, 15, 16], [13, 14])])
def bn_ok.B3 : List Nat := [0, 1, 3, 7, 0, 16, 48, 112, 0, 511, 1023, 2047, 2047, 2047, 0, 20479, 57343, 131071]
theorem bn_ok.tab3 : rtab .any (opsOf Try.f24 3) = bn_ok.T3 := by kernel_rfl
theorem bn_ok.bits3 : waitsOk bn_ok.T3.2 bn_ok.B3 = true := by kernel_rfl
theorem bn_ok (g : Nat) (A : Option Addr) (c : Nat) (l : List Int) (at_ sz s1 s2 s3 : Int) (w : World) (hG : getSpec l at_ sz = (s1, s2, s3)) (hs : s3 = 0) (hB : Bytes l) (hl : l.length ≤ 1000000000000) (hr : Kd.C (Kd.int .u8) w A l.length l) (hc : l.length ≤ c) (hb : w.heap[g]? = some (.cells (RdB A l.length c at_ none) 56 (0, 0))) :
  Calls Try.prog 24 #[.pointer (some ⟨g, 0, none⟩), .int .i64 sz] w fun x w' => x = .returned (.int .i64 s1) ∧ w'.heap[g]? = some (.cells (RdB A l.length c s2 none) 56 (0, 0)) ∧ w.grownBy w' (some g) := by
 have h2 : w.cell? ⟨g, 2, none⟩ = some (.pointer none) := (blk_cell hb 2).trans rfl
 have HBB := Aside0.mk hb
 have HG := Aside0.mk (show wire_Get.f l at_ sz = some (s1, s2, s3) by rw [wire_Get_eq _ _ _ hB hl, hG])
 have HR := Aside0.mk hr
 have HC := Aside0.mk hc
 subst hs
 clear hG hb hr hc hB hl
 go_enter Try.func24, Try.ntmps24
 go_upto_region 3 with (go_at_call 25; (with_reducible refine (bp_load0 g _ h2).mono ?_); rintro _ _ ⟨rfl, rfl⟩)
 clear h2
 have HBd := Aside0.mk (below_drew (Below.refl w.heap.size w))
 have BRd := Aside0.mk (show w.drew.heap[g]? = _ from HBB.out)
 refine start_ (n := 18) (S := fun w' => w'.cell? ⟨g, 0, none⟩ = some (.slice A l.length c) ∧ w'.cell? ⟨g, 1, none⟩ = some (.int .i64 at_)) (ds := [17]) #[false, false, false, false, false, false, false, false, false, false, false, false, false, false, false, false, false, false] (by kernel_rfl) rfl rfl ⟨(blk_cell BRd.out 0).trans rfl, (blk_cell BRd.out 1).trans rfl⟩ (fun hHeld => ?_); refine with_tabW bn_ok.tab3 bn_ok.bits3 (fun HT_ HW_ => ?_)
 refine pure_ (i := 0) (N := some 14) (v := ?_) (a' := ?_) #[true, false, false, false, false, false, false, false, false, false, false, false, false, false, false, false, false, false] rfl rfl (any_of HT_.out (by kernel_rfl)) (fun _ _ _ h => h) (Or.inl ⟨by rfl, ?_⟩) ?_ ?_
 rotate_left
 ·intro w'
  go_simp
  with_reducible rfl
 rotate_left
 ·simp only [Act.put, List.setIfInBounds_toArray, List.set_cons_zero, List.set_cons_succ, i64_w, i32_w]
  rfl
 refine pure_ (i := 1) (N := some 15) (v := ?_) (a' := ?_) #[true, true, false, false, false, false, false, false, false, false, false, false, false, false, false, false, false, false] rfl rfl (any_of HT_.out (by kernel_rfl)) (fun _ _ _ h => h) (Or.inl ⟨by rfl, ?_⟩) ?_ ?_
 rotate_left
 ·intro w'
  go_simp
  with_reducible rfl
 rotate_left
 ·simp only [Act.put, List.setIfInBounds_toArray, List.set_cons_zero, List.set_cons_succ, i64_w, i32_w]
  rfl
 refine pure_ (i := 2) (N := some 16) (v := ?_) (a' := ?_) #[true, true, true, false, false, false, false, false, false, false, false, false, false, false, false, false, false, false] rfl rfl (any_of HT_.out (by kernel_rfl)) (fun _ _ _ h => h) (Or.inl ⟨by rfl, ?_⟩) ?_ ?_
 rotate_left
 ·intro w'
  go_simp
  with_reducible rfl
 rotate_left
 ·simp only [Act.put, List.setIfInBounds_toArray, List.set_cons_zero, List.set_cons_succ, i64_w, i32_w]
  rfl
 refine pure_ (i := 4) (N := some 18) (v := ?_) (a' := ?_) #[true, true, true, false, true, false, false, false, false, false, false, false, false, false, false, false, false, false] rfl rfl (any_of HT_.out (by kernel_rfl)) (fun _ _ _ h => h) (Or.inl ⟨by rfl, ?_⟩) ?_ ?_
 rotate_left
 ·intro w'
  go_simp
  with_reducible rfl
 rotate_left
 ·simp only [Act.put, List.setIfInBounds_toArray, List.set_cons_zero, List.set_cons_succ, i64_w, i32_w]
  rfl
 refine pure_ (i := 5) (N := some 19) (v := ?_) (a' := ?_) #[true, true, true, false, true, true, false, false, false, false, false, false, false, false, false, false, false, false] rfl rfl (any_of HT_.out (by kernel_rfl)) (fun _ _ _ h => h) (Or.inl ⟨by rfl, ?_⟩) ?_ ?_
 rotate_left
 ·intro w'
  go_simp
  with_reducible rfl
 rotate_left
 ·simp only [Act.put, List.setIfInBounds_toArray, List.set_cons_zero, List.set_cons_succ, i64_w, i32_w]
  rfl
 refine pure_ (i := 6) (N := some 20) (v := ?_) (a' := ?_) #[true, true, true, false, true, true, true, false, false, false, false, false, false, false, false, false, false, false] rfl rfl (any_of HT_.out (by kernel_rfl)) (fun _ _ _ h => h) (Or.inl ⟨by rfl, ?_⟩) ?_ ?_
 rotate_left
 ·intro w'
  go_simp
  with_reducible rfl
 rotate_left
 ·simp only [Act.put, List.setIfInBounds_toArray, List.set_cons_zero, List.set_cons_succ, i64_w, i32_w]
  rfl
 refine pure_ (i := 8) (N := some 22) (v := ?_) (a' := ?_) #[true, true, true, false, true, true, true, false, true, false, false, false, false, false, false, false, false, false] rfl rfl (any_of HT_.out (by kernel_rfl)) (fun _ _ _ h => h) (Or.inl ⟨by rfl, ?_⟩) ?_ ?_
 rotate_left
 ·intro w'
  go_simp
  with_reducible rfl
 rotate_left
 ·simp only [Act.put, List.setIfInBounds_toArray, List.set_cons_zero, List.set_cons_succ, i64_w, i32_w]
  rfl
 refine take_ (i := 3) (N := some 17) (v := ?_) (a' := ?_) #[true, true, true, true, true, true, true, false, true, false, false, false, false, false, false, false, false, false] rfl rfl (take_ofW HT_.out HW_.out (by kernel_rfl)) (fun _ _ _ h => h) (Or.inl ⟨by rfl, ?_⟩) hHeld ?_ ?_
 rotate_left
 ·rintro w' ⟨s0, s1⟩
  go_simp
  with_reducible rfl
 rotate_left
 ·simp only [Act.put, List.setIfInBounds_toArray, List.set_cons_zero, List.set_cons_succ, i64_w, i32_w]
  rfl
 refine take_ (i := 7) (N := some 21) (v := ?_) (a' := ?_) #[true, true, true, true, true, true, true, true, true, false, false, false, false, false, false, false, false, false] rfl rfl (take_ofW HT_.out HW_.out (by kernel_rfl)) (fun _ _ _ h => h) (Or.inl ⟨by rfl, ?_⟩) hHeld ?_ ?_
 rotate_left
 ·rintro w' ⟨s0, s1⟩
  go_simp
  with_reducible rfl
 rotate_left
 ·simp only [Act.put, List.setIfInBounds_toArray, List.set_cons_zero, List.set_cons_succ, i64_w, i32_w]
  rfl
 refine join_ (σ := Nat) 3 #[true, true, true, true, true, true, true, true, true, true, true, true, true, true, true, false, false, false] (fun s_ => [(23, .tuple #[.int .i64 s1, .int .i64 s2, .int .i64 0]), (13, .tuple #[.int .i64 s1, .int .i64 s2, .int .i64 0]), (24, .int .i64 s1), (25, .int .i64 s2), (26, .int .i64 0), (7, .pointer (some ⟨s_, 0, none⟩))]) (fun s_ w' => (w'.cell? ⟨g, 0, none⟩ = some (.slice A l.length c) ∧ w'.cell? ⟨g, 1, none⟩ = some (.int .i64 at_)) ∧ Aside0 (w'.heap[s_]? = some (.cells #[.int .i64 0] 26 (0, 0))) ∧ Aside0 (w'.heap[g]? = some (.cells (RdB A l.length c at_ none) 56 (0, 0))) ∧ Aside0 (Below w.heap.size w w') ∧ Aside0 (w.heap.size ≤ s_)) ?_ ?_
 rotate_left
 ·intro hCont
  refine two_ (i := 9) (j := 14) (Ni := some 23) (Nj := some 7) #[true, true, true, true, true, true, true, true, true, true, false, false, false, false, false, false, false, false] #[true, true, true, true, true, true, true, true, true, false, false, false, false, false, true, false, false, false] rfl rfl rfl rfl (two_of HT_.out (by kernel_rfl)) (by decide) (by decide) (fun K hK => ?_) (fun K hK => ?_)
  ·skip
   refine goes_ Try.func37 (by kernel_rfl) rfl #[.slice A l.length c, .int .i64 at_, .int .i64 sz] (by rfl) rfl rfl (by simp only [List.map_toArray, List.map_cons, List.map_nil]; rfl) ?_
   with_reducible refine (wire_Get.calls A c l at_ sz _ _ _ _ (Kd.C_below HR.out HBd.out) HC.out HG.out).mono ?_
   rintro e w7 ⟨rfl, hb7⟩
   refine ⟨_, rfl, ?_⟩
   have HBn := Aside0.mk (below_step HBd.out hb7)
   have BRn := Aside0.mk (blk_below BRd.out hb7)
   clear HBd BRd hb7
   have HBd := HBn
   have BRd := BRn
   clear HBn BRn
   refine hK.out _ _ ⟨(blk_cell BRd.out 0).trans rfl, (blk_cell BRd.out 1).trans rfl⟩ (fun hHeld => ?_)
   clear hK K
   refine norm_ (a' := ?_) ?_ ?_
   rotate_left
   ·show Act.put _ (some 23) _ = _
    simp only [Act.put, List.setIfInBounds_toArray, List.set_cons_zero, List.set_cons_succ, i64_w, i32_w]
    rfl
   refine pure_ (i := 10) (N := some 13) (v := ?_) (a' := ?_) #[true, true, true, true, true, true, true, true, true, true, true, false, false, false, false, false, false, false] rfl rfl (any_of HT_.out (by kernel_rfl)) (fun _ _ _ h => h) (Or.inl ⟨by rfl, ?_⟩) ?_ ?_
   rotate_left
   ·intro w'
    go_simp
    with_reducible rfl
   rotate_left
   ·simp only [Act.put, List.setIfInBounds_toArray, List.set_cons_zero, List.set_cons_succ, i64_w, i32_w]
    rfl
   refine pure_ (i := 11) (N := some 24) (v := ?_) (a' := ?_) #[true, true, true, true, true, true, true, true, true, true, true, true, false, false, false, false, false, false] rfl rfl (any_of HT_.out (by kernel_rfl)) (fun _ _ _ h => h) (Or.inl ⟨by rfl, ?_⟩) ?_ ?_
   rotate_left
   ·intro w'
    go_simp
    with_reducible rfl
   rotate_left
   ·simp only [Act.put, List.setIfInBounds_toArray, List.set_cons_zero, List.set_cons_succ, i64_w, i32_w]
    rfl
   refine pure_ (i := 12) (N := some 25) (v := ?_) (a' := ?_) #[true, true, true, true, true, true, true, true, true, true, true, true, true, false, false, false, false, false] rfl rfl (any_of HT_.out (by kernel_rfl)) (fun _ _ _ h => h) (Or.inl ⟨by rfl, ?_⟩) ?_ ?_
   rotate_left
   ·intro w'
    go_simp
    with_reducible rfl
   rotate_left
   ·simp only [Act.put, List.setIfInBounds_toArray, List.set_cons_zero, List.set_cons_succ, i64_w, i32_w]
    rfl
   refine pure_ (i := 13) (N := some 26) (v := ?_) (a' := ?_) #[true, true, true, true, true, true, true, true, true, true, true, true, true, true, false, false, false, false] rfl rfl (any_of HT_.out (by kernel_rfl)) (fun _ _ _ h => h) (Or.inl ⟨by rfl, ?_⟩) ?_ ?_
   rotate_left
   ·intro w'
    go_simp
    with_reducible rfl
   rotate_left
   ·simp only [Act.put, List.setIfInBounds_toArray, List.set_cons_zero, List.set_cons_succ, i64_w, i32_w]
    rfl
   refine one_ (i := 14) (N := some 7) #[true, true, true, true, true, true, true, true, true, true, true, true, true, true, true, false, false, false] rfl rfl (one_of HT_.out (by kernel_rfl)) (by decide) (fun K hK => ?_)
   refine box_step ?hg (N := 7) ?hd (cs := #[.int .i64 0]) (t := 26) ?hr ?_
   (case hd => rfl)
   (case hg => rfl)
   (case hr => first | (go_simp; done) | (go_simp; rfl))
   intro g3 hg w8 hbox hb
   have HBn := Aside0.mk (below_step HBd.out hb)
   have BRn := Aside0.mk (blk_below BRd.out hb)
   have B3d := Aside0.mk hbox
   have G3 := Aside0.mk (show w.heap.size ≤ g3 by rw [hg]; exact below_size HBd.out)
   clear HBd BRd hb hbox hg
   have HBd := HBn
   have BRd := BRn
   clear HBn BRn
   refine hK.out _ _ ⟨(blk_cell BRd.out 0).trans rfl, (blk_cell BRd.out 1).trans rfl⟩ (fun hHeld => ?_)
   clear hK K
   refine norm_ (a' := ?_) ?_ ?_
   rotate_left
   ·show Act.put _ (some 7) _ = _
    simp only [Act.put, List.setIfInBounds_toArray, List.set_cons_zero, List.set_cons_succ, i64_w, i32_w]
    rfl
   exact norm_ (by simp only [putAll, Act.put, List.setIfInBounds_toArray, List.set_cons_zero, List.set_cons_succ]) (hCont g3 _ ⟨hHeld, B3d, BRd, HBd, G3⟩)
  ·skip
   refine box_step ?hg (N := 7) ?hd (cs := #[.int .i64 0]) (t := 26) ?hr ?_
   (case hd => rfl)
   (case hg => rfl)
   (case hr => first | (go_simp; done) | (go_simp; rfl))
   intro g3 hg w8 hbox hb
   have HBn := Aside0.mk (below_step HBd.out hb)
   have BRn := Aside0.mk (blk_below BRd.out hb)
   have B3d := Aside0.mk hbox
   have G3 := Aside0.mk (show w.heap.size ≤ g3 by rw [hg]; exact below_size HBd.out)
   clear HBd BRd hb hbox hg
   have HBd := HBn
   have BRd := BRn
   clear HBn BRn
   refine hK.out _ _ ⟨(blk_cell BRd.out 0).trans rfl, (blk_cell BRd.out 1).trans rfl⟩ (fun hHeld => ?_)
   clear hK K
   refine norm_ (a' := ?_) ?_ ?_
   rotate_left
   ·show Act.put _ (some 7) _ = _
    simp only [Act.put, List.setIfInBounds_toArray, List.set_cons_zero, List.set_cons_succ, i64_w, i32_w]
    rfl
   refine one_ (i := 9) (N := some 23) #[true, true, true, true, true, true, true, true, true, true, false, false, false, false, true, false, false, false] rfl rfl (one_of HT_.out (by kernel_rfl)) (by decide) (fun K hK => ?_)
   refine goes_ Try.func37 (by kernel_rfl) rfl #[.slice A l.length c, .int .i64 at_, .int .i64 sz] (by rfl) rfl rfl (by simp only [List.map_toArray, List.map_cons, List.map_nil]; rfl) ?_
   with_reducible refine (wire_Get.calls A c l at_ sz _ _ _ _ (Kd.C_below HR.out HBd.out) HC.out HG.out).mono ?_
   rintro e w7 ⟨rfl, hb7⟩
   refine ⟨_, rfl, ?_⟩
   have HBn := Aside0.mk (below_step HBd.out hb7)
   have BRn := Aside0.mk (blk_below BRd.out hb7)
   have B3n := Aside0.mk (blk_below B3d.out hb7)
   clear HBd BRd B3d hb7
   have HBd := HBn
   have BRd := BRn
   have B3d := B3n
   clear HBn BRn B3n
   refine hK.out _ _ ⟨(blk_cell BRd.out 0).trans rfl, (blk_cell BRd.out 1).trans rfl⟩ (fun hHeld => ?_)
   clear hK K
   refine norm_ (a' := ?_) ?_ ?_
   rotate_left
   ·show Act.put _ (some 23) _ = _
    simp only [Act.put, List.setIfInBounds_toArray, List.set_cons_zero, List.set_cons_succ, i64_w, i32_w]
    rfl
   refine pure_ (i := 10) (N := some 13) (v := ?_) (a' := ?_) #[true, true, true, true, true, true, true, true, true, true, true, false, false, false, true, false, false, false] rfl rfl (any_of HT_.out (by kernel_rfl)) (fun _ _ _ h => h) (Or.inl ⟨by rfl, ?_⟩) ?_ ?_
   rotate_left
   ·intro w'
    go_simp
    with_reducible rfl
   rotate_left
   ·simp only [Act.put, List.setIfInBounds_toArray, List.set_cons_zero, List.set_cons_succ, i64_w, i32_w]
    rfl
   refine pure_ (i := 11) (N := some 24) (v := ?_) (a' := ?_) #[true, true, true, true, true, true, true, true, true, true, true, true, false, false, true, false, false, false] rfl rfl (any_of HT_.out (by kernel_rfl)) (fun _ _ _ h => h) (Or.inl ⟨by rfl, ?_⟩) ?_ ?_
   rotate_left
   ·intro w'
    go_simp
    with_reducible rfl
   rotate_left
   ·simp only [Act.put, List.setIfInBounds_toArray, List.set_cons_zero, List.set_cons_succ, i64_w, i32_w]
    rfl
   refine pure_ (i := 12) (N := some 25) (v := ?_) (a' := ?_) #[true, true, true, true, true, true, true, true, true, true, true, true, true, false, true, false, false, false] rfl rfl (any_of HT_.out (by kernel_rfl)) (fun _ _ _ h => h) (Or.inl ⟨by rfl, ?_⟩) ?_ ?_
   rotate_left
   ·intro w'
    go_simp
    with_reducible rfl
   rotate_left
   ·simp only [Act.put, List.setIfInBounds_toArray, List.set_cons_zero, List.set_cons_succ, i64_w, i32_w]
    rfl
   refine pure_ (i := 13) (N := some 26) (v := ?_) (a' := ?_) #[true, true, true, true, true, true, true, true, true, true, true, true, true, true, true, false, false, false] rfl rfl (any_of HT_.out (by kernel_rfl)) (fun _ _ _ h => h) (Or.inl ⟨by rfl, ?_⟩) ?_ ?_
   rotate_left
   ·intro w'
    go_simp
    with_reducible rfl
   rotate_left
   ·simp only [Act.put, List.setIfInBounds_toArray, List.set_cons_zero, List.set_cons_succ, i64_w, i32_w]
    rfl
   exact norm_ (by simp only [putAll, Act.put, List.setIfInBounds_toArray, List.set_cons_zero, List.set_cons_succ]) (hCont g3 _ ⟨hHeld, B3d, BRd, HBd, G3⟩)
 rintro g3 w8 ⟨hHeld, B3, BR, HB, G3⟩
 clear BRd HBd
 have u0 : w8.cell? ⟨g3, 0, none⟩ = some (.int .i64 0) := (blk_cell B3.out 0).trans rfl
 have uf0 := blk_frozen B3.out 0
 refine norm_ (a' := ?_) ?_ ?_
 rotate_left
 ·simp only [putAll, Act.put, List.setIfInBounds_toArray, List.set_cons_zero, List.set_cons_succ]
  rfl
 refine pure_ (i := 15) (N := some 5) (v := ?_) (a' := ?_) #[true, true, true, true, true, true, true, true, true, true, true, true, true, true, true, true, false, false] rfl rfl (any_of HT_.out (by kernel_rfl)) (fun _ _ _ h => h) (Or.inl ⟨by rfl, ?_⟩) ?_ ?_
 rotate_left
 ·intro w'
  go_simp
  with_reducible rfl
 rotate_left
 ·simp only [Act.put, List.setIfInBounds_toArray, List.set_cons_zero, List.set_cons_succ, i64_w, i32_w]
  rfl
 refine pure_ (i := 16) (N := some 6) (v := ?_) (a' := ?_) #[true, true, true, true, true, true, true, true, true, true, true, true, true, true, true, true, true, false] rfl rfl (any_of HT_.out (by kernel_rfl)) (fun _ _ _ h => h) (Or.inl ⟨by rfl, ?_⟩) ?_ ?_
 rotate_left
 ·intro w'
  go_simp
  with_reducible rfl
 rotate_left
 ·simp only [Act.put, List.setIfInBounds_toArray, List.set_cons_zero, List.set_cons_succ, i64_w, i32_w]
  rfl
 refine last_ (i := 17) (N := none) #[true, true, true, true, true, true, true, true, true, true, true, true, true, true, true, true, true, true] rfl rfl (one_of HT_.out (by kernel_rfl)) (by decide) (fun K hK => ?_)
 refine skip_ (w1 := ?_) (by rfl) rfl ?_ ?_
 rotate_left
 ·go_simp
  rfl
 refine hK.out _ _ ?_
 clear hK K
 refine done_ (done_of HT_.out (by kernel_rfl)) ?_
 clear HT_ HW_ hHeld u0 uf0
 have nr3 : g ≠ g3 := Nat.ne_of_lt (Nat.lt_of_lt_of_le (blk_lt HBB.out) G3.out)
 have C3 := Aside0.mk (show (w8.setCell ⟨g3, 0, none⟩ (.int .i64 0)).heap[g3]? = some (.cells #[.int .i64 0] 26 (0, 0)) from blk_put B3.out 0 _ rfl)
 have CR := Aside0.mk (show (w8.setCell ⟨g3, 0, none⟩ (.int .i64 0)).heap[g]? = some (.cells (RdB A l.length c at_ none) 56 (0, 0)) from blk_far (p := ⟨g3, 0, none⟩) BR.out nr3 _)
 have CB := Aside0.mk (show Below w.heap.size w (w8.setCell ⟨g3, 0, none⟩ (.int .i64 0)) from below_set HB.out G3.out)
 clear B3 BR HB
 generalize (w8.setCell ⟨g3, 0, none⟩ (.int .i64 0)) = w9 at C3 CR CB ⊢
 have y0 : w9.cell? ⟨g3, 0, none⟩ = some (.int .i64 0) := (blk_cell C3.out 0).trans rfl
 have k1 : w9.cell? ⟨g, 1, none⟩ = some (.int .i64 at_) := (blk_cell CR.out 1).trans rfl
 have kf := blk_frozen CR.out 1
 have n3 : g3 ≠ g := nr3.symm
 go_wp2
 go_ret
 exact ⟨rfl, blk_put CR.out 1 _ rfl, bgrown_below CB.out (bgrown_set CR.out _ _)⟩
def bn_x.T3 : Bool × List (List Nat × List Nat) := (true, [([], []), ([0], [0]), ([1], [1]), ([2], [2]), ([], []), ([4], [4]), ([5], [5]), ([6], [6]), ([], []), ([3, 7, 8], [3, 7, 8]), ([9], [9]), ([10], [10]), ([10], [10]), ([10], [10]), ([], []), ([11, 9, 0, 1, 2, 3, 4, 5, 6, 7, 8, 9, 10, 11, 14], [11]), ([12, 15, 0, 1, 2, 3, 4, 5, 6, 7, 8, 9, 10, 11, 12, 14, 15], [12]), ([14, 13, 16, 0, 1, 2, 3, 4, 5, 6, 7, 8, 9, 10, 11, 12, 13, 14, 15, 16], [13, 14])])
def bn_x.B3 : List Nat := [0, 1, 3, 7, 0, 16, 48, 112, 0, 511, 1023, 2047, 2047, 2047, 0, 20479, 57343, 131071]
theorem bn_x.tab3 : rtab .any (opsOf Try.f24 3) = bn_x.T3 := by kernel_rfl
theorem bn_x.bits3 : waitsOk bn_x.T3.2 bn_x.B3 = true := by kernel_rfl
theorem bn_x (g : Nat) (A : Option Addr) (c : Nat) (l : List Int) (at_ sz s1 s2 s3 : Int) (w : World) (hG : getSpec l at_ sz = (s1, s2, s3)) (hs : ¬ s3 = 0) (hB : Bytes l) (hl : l.length ≤ 1000000000000) (hr : Kd.C (Kd.int .u8) w A l.length l) (hc : l.length ≤ c) (hb : w.heap[g]? = some (.cells (RdB A l.length c at_ none) 56 (0, 0))) :
  Calls Try.prog 24 #[.pointer (some ⟨g, 0, none⟩), .int .i64 sz] w fun x w' => x = .returned (.int .i64 0) ∧ ∃ gb, w'.heap[g]? = some (.cells (RdB A l.length c at_ (some ⟨gb, 0, none⟩)) 56 (0, 0)) ∧ w'.heap[gb]? = some (.cells #[.int .i64 s3] 26 (0, 0)) ∧ w.heap.size ≤ gb ∧ w.grownBy w' (some g) := by
 have h2 : w.cell? ⟨g, 2, none⟩ = some (.pointer none) := (blk_cell hb 2).trans rfl
 have HBB := Aside0.mk hb
 have HG := Aside0.mk (show wire_Get.f l at_ sz = some (s1, s2, s3) by rw [wire_Get_eq _ _ _ hB hl, hG])
 have HR := Aside0.mk hr
 have HC := Aside0.mk hc
 have b1 : (s3 != 0) = true := bne_iff_ne.mpr hs
 clear hs
 clear hG hb hr hc hB hl
 go_enter Try.func24, Try.ntmps24
 go_upto_region 3 with (go_at_call 25; (with_reducible refine (bp_load0 g _ h2).mono ?_); rintro _ _ ⟨rfl, rfl⟩)
 clear h2
 have HBd := Aside0.mk (below_drew (Below.refl w.heap.size w))
 have BRd := Aside0.mk (show w.drew.heap[g]? = _ from HBB.out)
 refine start_ (n := 18) (S := fun w' => w'.cell? ⟨g, 0, none⟩ = some (.slice A l.length c) ∧ w'.cell? ⟨g, 1, none⟩ = some (.int .i64 at_)) (ds := [17]) #[false, false, false, false, false, false, false, false, false, false, false, false, false, false, false, false, false, false] (by kernel_rfl) rfl rfl ⟨(blk_cell BRd.out 0).trans rfl, (blk_cell BRd.out 1).trans rfl⟩ (fun hHeld => ?_); refine with_tabW bn_x.tab3 bn_x.bits3 (fun HT_ HW_ => ?_)
 refine pure_ (i := 0) (N := some 14) (v := ?_) (a' := ?_) #[true, false, false, false, false, false, false, false, false, false, false, false, false, false, false, false, false, false] rfl rfl (any_of HT_.out (by kernel_rfl)) (fun _ _ _ h => h) (Or.inl ⟨by rfl, ?_⟩) ?_ ?_
 rotate_left
 ·intro w'
  go_simp
  with_reducible rfl
 rotate_left
 ·simp only [Act.put, List.setIfInBounds_toArray, List.set_cons_zero, List.set_cons_succ, i64_w, i32_w]
  rfl
 refine pure_ (i := 1) (N := some 15) (v := ?_) (a' := ?_) #[true, true, false, false, false, false, false, false, false, false, false, false, false, false, false, false, false, false] rfl rfl (any_of HT_.out (by kernel_rfl)) (fun _ _ _ h => h) (Or.inl ⟨by rfl, ?_⟩) ?_ ?_
 rotate_left
 ·intro w'
  go_simp
  with_reducible rfl
 rotate_left
 ·simp only [Act.put, List.setIfInBounds_toArray, List.set_cons_zero, List.set_cons_succ, i64_w, i32_w]
  rfl
 refine pure_ (i := 2) (N := some 16) (v := ?_) (a' := ?_) #[true, true, true, false, false, false, false, false, false, false, false, false, false, false, false, false, false, false] rfl rfl (any_of HT_.out (by kernel_rfl)) (fun _ _ _ h => h) (Or.inl ⟨by rfl, ?_⟩) ?_ ?_
 rotate_left
 ·intro w'
  go_simp
  with_reducible rfl
 rotate_left
 ·simp only [Act.put, List.setIfInBounds_toArray, List.set_cons_zero, List.set_cons_succ, i64_w, i32_w]
  rfl
 refine pure_ (i := 4) (N := some 18) (v := ?_) (a' := ?_) #[true, true, true, false, true, false, false, false, false, false, false, false, false, false, false, false, false, false] rfl rfl (any_of HT_.out (by kernel_rfl)) (fun _ _ _ h => h) (Or.inl ⟨by rfl, ?_⟩) ?_ ?_
 rotate_left
 ·intro w'
  go_simp
  with_reducible rfl
 rotate_left
 ·simp only [Act.put, List.setIfInBounds_toArray, List.set_cons_zero, List.set_cons_succ, i64_w, i32_w]
  rfl
 refine pure_ (i := 5) (N := some 19) (v := ?_) (a' := ?_) #[true, true, true, false, true, true, false, false, false, false, false, false, false, false, false, false, false, false] rfl rfl (any_of HT_.out (by kernel_rfl)) (fun _ _ _ h => h) (Or.inl ⟨by rfl, ?_⟩) ?_ ?_
 rotate_left
 ·intro w'
  go_simp
  with_reducible rfl
 rotate_left
 ·simp only [Act.put, List.setIfInBounds_toArray, List.set_cons_zero, List.set_cons_succ, i64_w, i32_w]
  rfl
 refine pure_ (i := 6) (N := some 20) (v := ?_) (a' := ?_) #[true, true, true, false, true, true, true, false, false, false, false, false, false, false, false, false, false, false] rfl rfl (any_of HT_.out (by kernel_rfl)) (fun _ _ _ h => h) (Or.inl ⟨by rfl, ?_⟩) ?_ ?_
 rotate_left
 ·intro w'
  go_simp
  with_reducible rfl
 rotate_left
 ·simp only [Act.put, List.setIfInBounds_toArray, List.set_cons_zero, List.set_cons_succ, i64_w, i32_w]
  rfl
 refine pure_ (i := 8) (N := some 22) (v := ?_) (a' := ?_) #[true, true, true, false, true, true, true, false, true, false, false, false, false, false, false, false, false, false] rfl rfl (any_of HT_.out (by kernel_rfl)) (fun _ _ _ h => h) (Or.inl ⟨by rfl, ?_⟩) ?_ ?_
 rotate_left
 ·intro w'
  go_simp
  with_reducible rfl
 rotate_left
 ·simp only [Act.put, List.setIfInBounds_toArray, List.set_cons_zero, List.set_cons_succ, i64_w, i32_w]
  rfl
 refine take_ (i := 3) (N := some 17) (v := ?_) (a' := ?_) #[true, true, true, true, true, true, true, false, true, false, false, false, false, false, false, false, false, false] rfl rfl (take_ofW HT_.out HW_.out (by kernel_rfl)) (fun _ _ _ h => h) (Or.inl ⟨by rfl, ?_⟩) hHeld ?_ ?_
 rotate_left
 ·rintro w' ⟨s0, s1⟩
  go_simp
  with_reducible rfl
 rotate_left
 ·simp only [Act.put, List.setIfInBounds_toArray, List.set_cons_zero, List.set_cons_succ, i64_w, i32_w]
  rfl
 refine take_ (i := 7) (N := some 21) (v := ?_) (a' := ?_) #[true, true, true, true, true, true, true, true, true, false, false, false, false, false, false, false, false, false] rfl rfl (take_ofW HT_.out HW_.out (by kernel_rfl)) (fun _ _ _ h => h) (Or.inl ⟨by rfl, ?_⟩) hHeld ?_ ?_
 rotate_left
 ·rintro w' ⟨s0, s1⟩
  go_simp
  with_reducible rfl
 rotate_left
 ·simp only [Act.put, List.setIfInBounds_toArray, List.set_cons_zero, List.set_cons_succ, i64_w, i32_w]
  rfl
 refine join_ (σ := Nat) 3 #[true, true, true, true, true, true, true, true, true, true, true, true, true, true, true, false, false, false] (fun s_ => [(23, .tuple #[.int .i64 s1, .int .i64 s2, .int .i64 s3]), (13, .tuple #[.int .i64 s1, .int .i64 s2, .int .i64 s3]), (24, .int .i64 s1), (25, .int .i64 s2), (26, .int .i64 s3), (7, .pointer (some ⟨s_, 0, none⟩))]) (fun s_ w' => (w'.cell? ⟨g, 0, none⟩ = some (.slice A l.length c) ∧ w'.cell? ⟨g, 1, none⟩ = some (.int .i64 at_)) ∧ Aside0 (w'.heap[s_]? = some (.cells #[.int .i64 0] 26 (0, 0))) ∧ Aside0 (w'.heap[g]? = some (.cells (RdB A l.length c at_ none) 56 (0, 0))) ∧ Aside0 (Below w.heap.size w w') ∧ Aside0 (w.heap.size ≤ s_)) ?_ ?_
 rotate_left
 ·intro hCont
  refine two_ (i := 9) (j := 14) (Ni := some 23) (Nj := some 7) #[true, true, true, true, true, true, true, true, true, true, false, false, false, false, false, false, false, false] #[true, true, true, true, true, true, true, true, true, false, false, false, false, false, true, false, false, false] rfl rfl rfl rfl (two_of HT_.out (by kernel_rfl)) (by decide) (by decide) (fun K hK => ?_) (fun K hK => ?_)
  ·skip
   refine goes_ Try.func37 (by kernel_rfl) rfl #[.slice A l.length c, .int .i64 at_, .int .i64 sz] (by rfl) rfl rfl (by simp only [List.map_toArray, List.map_cons, List.map_nil]; rfl) ?_
   with_reducible refine (wire_Get.calls A c l at_ sz _ _ _ _ (Kd.C_below HR.out HBd.out) HC.out HG.out).mono ?_
   rintro e w7 ⟨rfl, hb7⟩
   refine ⟨_, rfl, ?_⟩
   have HBn := Aside0.mk (below_step HBd.out hb7)
   have BRn := Aside0.mk (blk_below BRd.out hb7)
   clear HBd BRd hb7
   have HBd := HBn
   have BRd := BRn
   clear HBn BRn
   refine hK.out _ _ ⟨(blk_cell BRd.out 0).trans rfl, (blk_cell BRd.out 1).trans rfl⟩ (fun hHeld => ?_)
   clear hK K
   refine norm_ (a' := ?_) ?_ ?_
   rotate_left
   ·show Act.put _ (some 23) _ = _
    simp only [Act.put, List.setIfInBounds_toArray, List.set_cons_zero, List.set_cons_succ, i64_w, i32_w]
    rfl
   refine pure_ (i := 10) (N := some 13) (v := ?_) (a' := ?_) #[true, true, true, true, true, true, true, true, true, true, true, false, false, false, false, false, false, false] rfl rfl (any_of HT_.out (by kernel_rfl)) (fun _ _ _ h => h) (Or.inl ⟨by rfl, ?_⟩) ?_ ?_
   rotate_left
   ·intro w'
    go_simp
    with_reducible rfl
   rotate_left
   ·simp only [Act.put, List.setIfInBounds_toArray, List.set_cons_zero, List.set_cons_succ, i64_w, i32_w]
    rfl
   refine pure_ (i := 11) (N := some 24) (v := ?_) (a' := ?_) #[true, true, true, true, true, true, true, true, true, true, true, true, false, false, false, false, false, false] rfl rfl (any_of HT_.out (by kernel_rfl)) (fun _ _ _ h => h) (Or.inl ⟨by rfl, ?_⟩) ?_ ?_
   rotate_left
   ·intro w'
    go_simp
    with_reducible rfl
   rotate_left
   ·simp only [Act.put, List.setIfInBounds_toArray, List.set_cons_zero, List.set_cons_succ, i64_w, i32_w]
    rfl
   refine pure_ (i := 12) (N := some 25) (v := ?_) (a' := ?_) #[true, true, true, true, true, true, true, true, true, true, true, true, true, false, false, false, false, false] rfl rfl (any_of HT_.out (by kernel_rfl)) (fun _ _ _ h => h) (Or.inl ⟨by rfl, ?_⟩) ?_ ?_
   rotate_left
   ·intro w'
    go_simp
    with_reducible rfl
   rotate_left
   ·simp only [Act.put, List.setIfInBounds_toArray, List.set_cons_zero, List.set_cons_succ, i64_w, i32_w]
    rfl
   refine pure_ (i := 13) (N := some 26) (v := ?_) (a' := ?_) #[true, true, true, true, true, true, true, true, true, true, true, true, true, true, false, false, false, false] rfl rfl (any_of HT_.out (by kernel_rfl)) (fun _ _ _ h => h) (Or.inl ⟨by rfl, ?_⟩) ?_ ?_
   rotate_left
   ·intro w'
    go_simp
    with_reducible rfl
   rotate_left
   ·simp only [Act.put, List.setIfInBounds_toArray, List.set_cons_zero, List.set_cons_succ, i64_w, i32_w]
    rfl
   refine one_ (i := 14) (N := some 7) #[true, true, true, true, true, true, true, true, true, true, true, true, true, true, true, false, false, false] rfl rfl (one_of HT_.out (by kernel_rfl)) (by decide) (fun K hK => ?_)
   refine box_step ?hg (N := 7) ?hd (cs := #[.int .i64 0]) (t := 26) ?hr ?_
   (case hd => rfl)
   (case hg => rfl)
   (case hr => first | (go_simp; done) | (go_simp; rfl))
   intro g3 hg w8 hbox hb
   have HBn := Aside0.mk (below_step HBd.out hb)
   have BRn := Aside0.mk (blk_below BRd.out hb)
   have B3d := Aside0.mk hbox
   have G3 := Aside0.mk (show w.heap.size ≤ g3 by rw [hg]; exact below_size HBd.out)
   clear HBd BRd hb hbox hg
   have HBd := HBn
   have BRd := BRn
   clear HBn BRn
   refine hK.out _ _ ⟨(blk_cell BRd.out 0).trans rfl, (blk_cell BRd.out 1).trans rfl⟩ (fun hHeld => ?_)
   clear hK K
   refine norm_ (a' := ?_) ?_ ?_
   rotate_left
   ·show Act.put _ (some 7) _ = _
    simp only [Act.put, List.setIfInBounds_toArray, List.set_cons_zero, List.set_cons_succ, i64_w, i32_w]
    rfl
   exact norm_ (by simp only [putAll, Act.put, List.setIfInBounds_toArray, List.set_cons_zero, List.set_cons_succ]) (hCont g3 _ ⟨hHeld, B3d, BRd, HBd, G3⟩)
  ·skip
   refine box_step ?hg (N := 7) ?hd (cs := #[.int .i64 0]) (t := 26) ?hr ?_
   (case hd => rfl)
   (case hg => rfl)
   (case hr => first | (go_simp; done) | (go_simp; rfl))
   intro g3 hg w8 hbox hb
   have HBn := Aside0.mk (below_step HBd.out hb)
   have BRn := Aside0.mk (blk_below BRd.out hb)
   have B3d := Aside0.mk hbox
   have G3 := Aside0.mk (show w.heap.size ≤ g3 by rw [hg]; exact below_size HBd.out)
   clear HBd BRd hb hbox hg
   have HBd := HBn
   have BRd := BRn
   clear HBn BRn
   refine hK.out _ _ ⟨(blk_cell BRd.out 0).trans rfl, (blk_cell BRd.out 1).trans rfl⟩ (fun hHeld => ?_)
   clear hK K
   refine norm_ (a' := ?_) ?_ ?_
   rotate_left
   ·show Act.put _ (some 7) _ = _
    simp only [Act.put, List.setIfInBounds_toArray, List.set_cons_zero, List.set_cons_succ, i64_w, i32_w]
    rfl
   refine one_ (i := 9) (N := some 23) #[true, true, true, true, true, true, true, true, true, true, false, false, false, false, true, false, false, false] rfl rfl (one_of HT_.out (by kernel_rfl)) (by decide) (fun K hK => ?_)
   refine goes_ Try.func37 (by kernel_rfl) rfl #[.slice A l.length c, .int .i64 at_, .int .i64 sz] (by rfl) rfl rfl (by simp only [List.map_toArray, List.map_cons, List.map_nil]; rfl) ?_
   with_reducible refine (wire_Get.calls A c l at_ sz _ _ _ _ (Kd.C_below HR.out HBd.out) HC.out HG.out).mono ?_
   rintro e w7 ⟨rfl, hb7⟩
   refine ⟨_, rfl, ?_⟩
   have HBn := Aside0.mk (below_step HBd.out hb7)
   have BRn := Aside0.mk (blk_below BRd.out hb7)
   have B3n := Aside0.mk (blk_below B3d.out hb7)
   clear HBd BRd B3d hb7
   have HBd := HBn
   have BRd := BRn
   have B3d := B3n
   clear HBn BRn B3n
   refine hK.out _ _ ⟨(blk_cell BRd.out 0).trans rfl, (blk_cell BRd.out 1).trans rfl⟩ (fun hHeld => ?_)
   clear hK K
   refine norm_ (a' := ?_) ?_ ?_
   rotate_left
   ·show Act.put _ (some 23) _ = _
    simp only [Act.put, List.setIfInBounds_toArray, List.set_cons_zero, List.set_cons_succ, i64_w, i32_w]
    rfl
   refine pure_ (i := 10) (N := some 13) (v := ?_) (a' := ?_) #[true, true, true, true, true, true, true, true, true, true, true, false, false, false, true, false, false, false] rfl rfl (any_of HT_.out (by kernel_rfl)) (fun _ _ _ h => h) (Or.inl ⟨by rfl, ?_⟩) ?_ ?_
   rotate_left
   ·intro w'
    go_simp
    with_reducible rfl
   rotate_left
   ·simp only [Act.put, List.setIfInBounds_toArray, List.set_cons_zero, List.set_cons_succ, i64_w, i32_w]
    rfl
   refine pure_ (i := 11) (N := some 24) (v := ?_) (a' := ?_) #[true, true, true, true, true, true, true, true, true, true, true, true, false, false, true, false, false, false] rfl rfl (any_of HT_.out (by kernel_rfl)) (fun _ _ _ h => h) (Or.inl ⟨by rfl, ?_⟩) ?_ ?_
   rotate_left
   ·intro w'
    go_simp
    with_reducible rfl
   rotate_left
   ·simp only [Act.put, List.setIfInBounds_toArray, List.set_cons_zero, List.set_cons_succ, i64_w, i32_w]
    rfl
   refine pure_ (i := 12) (N := some 25) (v := ?_) (a' := ?_) #[true, true, true, true, true, true, true, true, true, true, true, true, true, false, true, false, false, false] rfl rfl (any_of HT_.out (by kernel_rfl)) (fun _ _ _ h => h) (Or.inl ⟨by rfl, ?_⟩) ?_ ?_
   rotate_left
   ·intro w'
    go_simp
    with_reducible rfl
   rotate_left
   ·simp only [Act.put, List.setIfInBounds_toArray, List.set_cons_zero, List.set_cons_succ, i64_w, i32_w]
    rfl
   refine pure_ (i := 13) (N := some 26) (v := ?_) (a' := ?_) #[true, true, true, true, true, true, true, true, true, true, true, true, true, true, true, false, false, false] rfl rfl (any_of HT_.out (by kernel_rfl)) (fun _ _ _ h => h) (Or.inl ⟨by rfl, ?_⟩) ?_ ?_
   rotate_left
   ·intro w'
    go_simp
    with_reducible rfl
   rotate_left
   ·simp only [Act.put, List.setIfInBounds_toArray, List.set_cons_zero, List.set_cons_succ, i64_w, i32_w]
    rfl
   exact norm_ (by simp only [putAll, Act.put, List.setIfInBounds_toArray, List.set_cons_zero, List.set_cons_succ]) (hCont g3 _ ⟨hHeld, B3d, BRd, HBd, G3⟩)
 rintro g3 w8 ⟨hHeld, B3, BR, HB, G3⟩
 clear BRd HBd
 have u0 : w8.cell? ⟨g3, 0, none⟩ = some (.int .i64 0) := (blk_cell B3.out 0).trans rfl
 have uf0 := blk_frozen B3.out 0
 refine norm_ (a' := ?_) ?_ ?_
 rotate_left
 ·simp only [putAll, Act.put, List.setIfInBounds_toArray, List.set_cons_zero, List.set_cons_succ]
  rfl
 refine pure_ (i := 15) (N := some 5) (v := ?_) (a' := ?_) #[true, true, true, true, true, true, true, true, true, true, true, true, true, true, true, true, false, false] rfl rfl (any_of HT_.out (by kernel_rfl)) (fun _ _ _ h => h) (Or.inl ⟨by rfl, ?_⟩) ?_ ?_
 rotate_left
 ·intro w'
  go_simp
  with_reducible rfl
 rotate_left
 ·simp only [Act.put, List.setIfInBounds_toArray, List.set_cons_zero, List.set_cons_succ, i64_w, i32_w]
  rfl
 refine pure_ (i := 16) (N := some 6) (v := ?_) (a' := ?_) #[true, true, true, true, true, true, true, true, true, true, true, true, true, true, true, true, true, false] rfl rfl (any_of HT_.out (by kernel_rfl)) (fun _ _ _ h => h) (Or.inl ⟨by rfl, ?_⟩) ?_ ?_
 rotate_left
 ·intro w'
  go_simp
  with_reducible rfl
 rotate_left
 ·simp only [Act.put, List.setIfInBounds_toArray, List.set_cons_zero, List.set_cons_succ, i64_w, i32_w]
  rfl
 refine last_ (i := 17) (N := none) #[true, true, true, true, true, true, true, true, true, true, true, true, true, true, true, true, true, true] rfl rfl (one_of HT_.out (by kernel_rfl)) (by decide) (fun K hK => ?_)
 refine skip_ (w1 := ?_) (by rfl) rfl ?_ ?_
 rotate_left
 ·go_simp
  rfl
 refine hK.out _ _ ?_
 clear hK K
 refine done_ (done_of HT_.out (by kernel_rfl)) ?_
 clear HT_ HW_ hHeld u0 uf0
 have nr3 : g ≠ g3 := Nat.ne_of_lt (Nat.lt_of_lt_of_le (blk_lt HBB.out) G3.out)
 have C3 := Aside0.mk (show (w8.setCell ⟨g3, 0, none⟩ (.int .i64 s3)).heap[g3]? = some (.cells #[.int .i64 s3] 26 (0, 0)) from blk_put B3.out 0 _ rfl)
 have CR := Aside0.mk (show (w8.setCell ⟨g3, 0, none⟩ (.int .i64 s3)).heap[g]? = some (.cells (RdB A l.length c at_ none) 56 (0, 0)) from blk_far (p := ⟨g3, 0, none⟩) BR.out nr3 _)
 have CB := Aside0.mk (show Below w.heap.size w (w8.setCell ⟨g3, 0, none⟩ (.int .i64 s3)) from below_set HB.out G3.out)
 clear B3 BR HB
 generalize (w8.setCell ⟨g3, 0, none⟩ (.int .i64 s3)) = w9 at C3 CR CB ⊢
 have y0 : w9.cell? ⟨g3, 0, none⟩ = some (.int .i64 s3) := (blk_cell C3.out 0).trans rfl
 have k1 : w9.cell? ⟨g, 2, none⟩ = some (.pointer none) := (blk_cell CR.out 2).trans rfl
 have kf := blk_frozen CR.out 2
 have n3 : g3 ≠ g := nr3.symm
 go_wp2_with (go_at_call 38; (with_reducible refine (bp_cas g g3 _ _ k1 kf y0).mono ?_); rintro _ _ ⟨rfl, rfl⟩)
 go_ret
 exact ⟨rfl, g3, blk_put CR.out 2 _ rfl, blk_far (p := ⟨g, 2, none⟩) C3.out n3 _, G3.out, bgrown_below CB.out (bgrown_set CR.out _ _)⟩
end Go.Proofs.Ytaiklcpmlkpfjaa.P
namespace Go.Proofs.Ytaiklcpmlkpfjaa.P
open Go.RowKit YtaiklcpmlkpfjaaW.PrintWords YtaiklcpmlkpfjaaW.PrintLast YtaiklcpmlkpfjaaW.PrintMore
open Classical
def rbN (l : List Int) (n at_ e : Int) : Int × Int × Int := if e = 0 then (if (getSpec l at_ n).2.2 = 0 then ((getSpec l at_ n).1, (getSpec l at_ n).2.1, 0) else (0, at_, (getSpec l at_ n).2.2)) else (0, at_, e)
def PE (w : World) (p : Option Addr) (e : Int) : Prop := (p = none ∧ e = 0) ∨ ∃ gb, p = some ⟨gb, 0, none⟩ ∧ ¬ e = 0 ∧ w.heap[gb]? = some (.cells #[.int .i64 e] 26 (0, 0))
theorem PE.nil (w : World) : PE w none 0 := Or.inl ⟨rfl, rfl⟩
theorem bn_number (g : Nat) (A : Option Addr) (c : Nat) (l : List Int) (at_ e sz v at2 e2 : Int) (p : Option Addr) (w : World) (hN : rbN l sz at_ e = (v, at2, e2)) (hB : Bytes l) (hl : l.length ≤ 1000000000000) (hr : Kd.C (Kd.int .u8) w A l.length l) (hc : l.length ≤ c)
  (hb : w.heap[g]? = some (.cells (RdB A l.length c at_ p) 56 (0, 0))) (hp : PE w p e) :
  Calls Try.prog 24 #[.pointer (some ⟨g, 0, none⟩), .int .i64 sz] w fun x w' => x = .returned (.int .i64 v) ∧ ∃ p2, w'.heap[g]? = some (.cells (RdB A l.length c at2 p2) 56 (0, 0)) ∧ PE w' p2 e2 ∧ w.grownBy w' (some g) := by
 unfold rbN at hN
 rcases hp with ⟨rfl, he⟩ | ⟨gb, rfl, he, hgb⟩
 ·rw [if_pos he] at hN
  obtain ⟨s1, s2, s3, hG⟩ : ∃ s1 s2 s3, getSpec l at_ sz = (s1, s2, s3) := ⟨_, _, _, rfl⟩
  rw [hG] at hN
  by_cases hs : s3 = 0
  ·rw [if_pos hs] at hN
   simp only [Prod.mk.injEq] at hN
   obtain ⟨rfl, rfl, rfl⟩ := hN
   refine (bn_ok g A c l at_ sz s1 s2 s3 w hG hs hB hl hr hc hb).mono ?_
   rintro x w' ⟨rfl, h1, h2⟩
   exact ⟨rfl, none, h1, .inl ⟨rfl, rfl⟩, h2⟩
  ·rw [if_neg hs] at hN
   simp only [Prod.mk.injEq] at hN
   obtain ⟨rfl, rfl, rfl⟩ := hN
   refine (bn_x g A c l at_ sz s1 s2 s3 w hG hs hB hl hr hc hb).mono ?_
   rintro x w' ⟨rfl, gb, h1, h3, _, h2⟩
   exact ⟨rfl, _, h1, .inr ⟨gb, rfl, hs, h3⟩, h2⟩
 ·rw [if_neg he] at hN
  simp only [Prod.mk.injEq] at hN
  obtain ⟨rfl, rfl, rfl⟩ := hN
  refine (bn_E g gb A l.length c at_ e sz w hb hgb).mono ?_
  rintro x w' ⟨rfl, rfl⟩
  exact ⟨rfl, _, hb, .inr ⟨gb, rfl, he, hgb⟩, rfl, rfl, rfl, Nat.le_refl _, fun _ _ _ => rfl⟩
def blL (l : List Int) : Nat → List S59 → Int → Int → List S59 × Int × Int
 | 0, Y, at_, e => (Y, at_, e)
 | m + 1, Y, at_, e => blL l m (Y ++ [⟨(rbN l 1 at_ e).1, (rbN l 4 (rbN l 1 at_ e).2.1 (rbN l 1 at_ e).2.2).1⟩]) (rbN l 4 (rbN l 1 at_ e).2.1 (rbN l 1 at_ e).2.2).2.1 (rbN l 4 (rbN l 1 at_ e).2.1 (rbN l 1 at_ e).2.2).2.2
def bnFin (n : Int) (Y : List S59) (at_ e : Int) : Int × List S59 × Int × Int := if e = 0 then (if RBn n Y then (n, Y, at_, 0) else (0, [], 0, 4)) else (0, [], 0, e)
def bnRest (l : List Int) (n m p2 e2 : Int) : Int × List S59 × Int × Int := bnFin n (blL l m.toNat [] p2 e2).1 (blL l m.toNat [] p2 e2).2.1 (blL l m.toNat [] p2 e2).2.2
def bnGo (l : List Int) (a : Int) : Int × List S59 × Int × Int := bnRest l (rbN l 4 a 0).1 (rbN l 1 (rbN l 4 a 0).2.1 (rbN l 4 a 0).2.2).1 (rbN l 1 (rbN l 4 a 0).2.1 (rbN l 4 a 0).2.2).2.1 (rbN l 1 (rbN l 4 a 0).2.1 (rbN l 4 a 0).2.2).2.2
instance (l : List Int) : Decidable (Bytes l) := by unfold Bytes; exact List.decidableBAll _ _
def beacon_Parse.f (l : List Int) (a : Int) : Option (Int × List S59 × Int × Int) := if l.length ≤ 1000000000000 ∧ Bytes l then some (bnGo l a) else none
theorem rbN_one {l : List Int} (hB : Bytes l) {a e v p f : Int} (h : rbN l 1 a e = (v, p, f)) : 0 ≤ v ∧ v ≤ 255 := by
 unfold rbN at h
 split at h
 ·split at h
  ·rename_i h0
   have hw := get_was l hB a 1 (by omega) (by omega) h0
   simp only [Prod.mk.injEq] at h
   obtain ⟨rfl, _, _⟩ := h
   rw [show ((1 : Nat) : Int) = 1 from rfl, show (256 : Int) ^ 1 = 256 by decide] at hw
   omega
  ·simp only [Prod.mk.injEq] at h; omega
 ·simp only [Prod.mk.injEq] at h; omega
theorem PE.below {w w' : World} {p : Option Addr} {e : Int} (h : PE w p e) (hb : Below w.heap.size w w') : PE w' p e := by
 rcases h with h | ⟨gb, h1, h2, h3⟩
 ·exact .inl h
 ·exact .inr ⟨gb, h1, h2, blk_below h3 hb⟩
theorem PE.grown {w w' : World} {p : Option Addr} {e : Int} {b : Option Nat} (h : PE w p e) (hg : w.grownBy w' b) (hb : ∀ gb o, w.heap[gb]? = some (.cells o 26 (0, 0)) → some gb ≠ b) : PE w' p e := by
 rcases h with h | ⟨gb, h1, h2, h3⟩
 ·exact .inl h
 ·exact .inr ⟨gb, h1, h2, blk_grown h3 hg (hb gb _ h3)⟩
theorem PE.set {w : World} {p : Option Addr} {e : Int} {g i : Nat} {u : Value} (h : PE w p e) (hb : ∀ gb o, w.heap[gb]? = some (.cells o 26 (0, 0)) → gb ≠ g) : PE (w.setCell ⟨g, i, none⟩ u) p e := by
 rcases h with h | ⟨gb, h1, h2, h3⟩
 ·exact .inl h
 ·exact .inr ⟨gb, h1, h2, blk_far (p := ⟨g, i, none⟩) h3 (hb gb _ h3) _⟩
structure BnSt (w0 w : World) (A : Option Addr) (n c g4 g7 g8 : Nat) (at_ e N : Int) (u : Value) (Y : List S59) : Prop where
 bl : Below w0.heap.size w0 w
 b4 : w.heap[g4]? = some (.cells #[.int .i64 0, .slice none 0 0] 25 (0, 0))
 br : ∃ p, w.heap[g7]? = some (.cells (RdB A n c at_ p) 56 (0, 0)) ∧ PE w p e
 b8 : w.heap[g8]? = some (.cells #[.int .i64 N, u] 25 (0, 0))
 row : Kd.R k59 59 w w0.heap.size (fun _ => True) u Y
 n4 : w0.heap.size ≤ g4
 n7 : w0.heap.size ≤ g7
 n8 : w0.heap.size ≤ g8
 d48 : g4 ≠ g8
theorem BnSt.below {w0 w : World} {A : Option Addr} {n c g4 g7 g8 : Nat} {at_ e N : Int} {u : Value} {Y : List S59} {w' : World} (h : BnSt w0 w A n c g4 g7 g8 at_ e N u Y) (hb : Below w.heap.size w w') : BnSt w0 w' A n c g4 g7 g8 at_ e N u Y := by
 obtain ⟨p, h1, h2⟩ := h.br
 exact ⟨below_step h.bl hb, blk_below h.b4 hb, ⟨p, blk_below h1 hb, h2.below hb⟩, blk_below h.b8 hb, Kd.R_below h.row hb, h.n4, h.n7, h.n8, h.d48⟩
theorem BnSt.drew {w0 w : World} {A : Option Addr} {n c g4 g7 g8 : Nat} {at_ e N : Int} {u : Value} {Y : List S59} (h : BnSt w0 w A n c g4 g7 g8 at_ e N u Y) : BnSt w0 w.drew A n c g4 g7 g8 at_ e N u Y := h.below (below_drew (Below.refl _ _))
theorem BnSt.call {w0 w : World} {A : Option Addr} {n c g4 g7 g8 : Nat} {at_ e N : Int} {u : Value} {Y : List S59} {w' : World} {at2 e2 : Int} {p2 : Option Addr} (h : BnSt w0 w A n c g4 g7 g8 at_ e N u Y) (hb : w'.heap[g7]? = some (.cells (RdB A n c at2 p2) 56 (0, 0))) (hp : PE w' p2 e2) (hg : w.grownBy w' (some g7)) : BnSt w0 w' A n c g4 g7 g8 at2 e2 N u Y := by
 obtain ⟨p, h1, h2⟩ := h.br
 exact ⟨pw_below_grown h.bl (some g7) (below_size h.bl) hg (fun k_ e_ => by cases e_; exact h.n7), blk_grown h.b4 hg (fun e_ => blk_ne h.b4 h1 (by decide) (Option.some.inj e_)), ⟨p2, hb, hp⟩, blk_grown h.b8 hg (fun e_ => blk_ne h.b8 h1 (by decide) (Option.some.inj e_)),
  Kd.R_mono (Kd.R_grown (Kd.R_types h.row h1 (by decide)) hg (fun k hk e_ => hk.2 (Option.some.inj e_))) (fun _ _ => trivial), h.n4, h.n7, h.n8, h.d48⟩
theorem BnSt.set0 {w0 w : World} {A : Option Addr} {n c g4 g7 g8 : Nat} {at_ e N : Int} {u : Value} {Y : List S59} (h : BnSt w0 w A n c g4 g7 g8 at_ e N u Y) (N2 : Int) : BnSt w0 (w.setCell ⟨g8, 0, none⟩ (.int .i64 N2)) A n c g4 g7 g8 at_ e N2 u Y := by
 obtain ⟨p, h1, h2⟩ := h.br
 exact ⟨below_set h.bl h.n8, blk_far (p := ⟨g8, 0, none⟩) h.b4 h.d48 _, ⟨p, blk_far (p := ⟨g8, 0, none⟩) h1 (blk_ne h1 h.b8 (by decide)) _, h2.set (fun gb o ho => blk_ne ho h.b8 (by decide))⟩, blk_put h.b8 0 _ rfl,
  Kd.R_mono (Kd.R_set h.row h.b8 (by decide) 0 _) (fun _ _ => trivial), h.n4, h.n7, h.n8, h.d48⟩
theorem BnSt.set1 {w0 w : World} {A : Option Addr} {n c g4 g7 g8 : Nat} {at_ e N : Int} {u : Value} {Y : List S59} (h : BnSt w0 w A n c g4 g7 g8 at_ e N u Y) {u2 : Value} {Y2 : List S59} (hr : Kd.R k59 59 w w0.heap.size (fun _ => True) u2 Y2) : BnSt w0 (w.setCell ⟨g8, 1, none⟩ u2) A n c g4 g7 g8 at_ e N u2 Y2 := by
 obtain ⟨p, h1, h2⟩ := h.br
 exact ⟨below_set h.bl h.n8, blk_far (p := ⟨g8, 1, none⟩) h.b4 h.d48 _, ⟨p, blk_far (p := ⟨g8, 1, none⟩) h1 (blk_ne h1 h.b8 (by decide)) _, h2.set (fun gb o ho => blk_ne ho h.b8 (by decide))⟩, blk_put h.b8 1 _ rfl,
  Kd.R_mono (Kd.R_set hr h.b8 (by decide) 1 _) (fun _ _ => trivial), h.n4, h.n7, h.n8, h.d48⟩
theorem BnSt.app8 {w0 w : World} {A : Option Addr} {n c g4 g7 g8 : Nat} {at_ e N : Int} {u : Value} {Y : List S59} {w' : World} (h : BnSt w0 w A n c g4 g7 g8 at_ e N u Y) (hg : w.grownBy w' u.ownBlock) : w'.heap[g8]? = some (.cells #[.int .i64 N, u] 25 (0, 0)) := blk_grown h.b8 hg (Kd.R_ne h.row h.b8 (by decide))
theorem BnSt.app {w0 w : World} {A : Option Addr} {n c g4 g7 g8 : Nat} {at_ e N : Int} {u : Value} {Y : List S59} {w' : World} {u2 : Value} {Y2 : List S59} (h : BnSt w0 w A n c g4 g7 g8 at_ e N u Y) (hr : Kd.R k59 59 w' w0.heap.size (fun _ => True) u2 Y2) (hb : Below w0.heap.size w0 w') (hg : w.grownBy w' u.ownBlock) : BnSt w0 (w'.setCell ⟨g8, 1, none⟩ u2) A n c g4 g7 g8 at_ e N u2 Y2 := by
 obtain ⟨p, h1, h2⟩ := h.br
 have b8 := h.app8 hg
 have b4 := blk_grown h.b4 hg (Kd.R_ne h.row h.b4 (by decide))
 have b7 := blk_grown h1 hg (Kd.R_ne h.row h1 (by decide))
 have pe := h2.grown hg (fun gb o ho => Kd.R_ne h.row ho (by decide))
 exact ⟨below_set hb h.n8, blk_far (p := ⟨g8, 1, none⟩) b4 h.d48 _, ⟨p, blk_far (p := ⟨g8, 1, none⟩) b7 (blk_ne b7 b8 (by decide)) _, pe.set (fun gb o ho => blk_ne ho b8 (by decide))⟩, blk_put b8 1 _ rfl,
  Kd.R_mono (Kd.R_set hr b8 (by decide) 1 _) (fun _ _ => trivial), h.n4, h.n7, h.n8, h.d48⟩
structure BnEc (w0 w : World) (A : Option Addr) (n c g4 g7 g8 g9 : Nat) (at_ e N : Int) (u : Value) (Y : List S59) (x y : Int) : Prop where
 st : BnSt w0 w A n c g4 g7 g8 at_ e N u Y
 b9 : w.heap[g9]? = some (.cells #[.int .i64 x, .int .i64 y] 59 (0, 0))
 away : Kd.R k59 59 w w0.heap.size (fun k => True ∧ k ≠ g9) u Y
 n9 : w0.heap.size ≤ g9
theorem BnEc.new {w0 w : World} {A : Option Addr} {n c g4 g7 g8 : Nat} {at_ e N : Int} {u : Value} {Y : List S59} {w' : World} {g9 : Nat} (h : BnSt w0 w A n c g4 g7 g8 at_ e N u Y) (hb : Below w.heap.size w w') (h9 : w'.heap[g9]? = some (.cells #[.int .i64 0, .int .i64 0] 59 (0, 0))) (hg : w.heap.size ≤ g9) : BnEc w0 w' A n c g4 g7 g8 g9 at_ e N u Y 0 0 :=
 ⟨h.below hb, h9, Kd.R_below (Kd.R_elderB h.row g9 hg) hb, Nat.le_trans (below_size h.bl) hg⟩
theorem BnEc.set {w0 w : World} {A : Option Addr} {n c g4 g7 g8 : Nat} {at_ e N : Int} {u : Value} {Y : List S59} {g9 : Nat} {x y x2 y2 : Int} (h : BnEc w0 w A n c g4 g7 g8 g9 at_ e N u Y x y) (i : Nat) (z : Int) (hs : (#[Value.int .i64 x, .int .i64 y] : Array Value).setIfInBounds i (.int .i64 z) = #[.int .i64 x2, .int .i64 y2]) : BnEc w0 (w.setCell ⟨g9, i, none⟩ (.int .i64 z)) A n c g4 g7 g8 g9 at_ e N u Y x2 y2 := by
 obtain ⟨p, h1, h2⟩ := h.st.br
 have far := Kd.R_far (p := ⟨g9, i, none⟩) h.away (fun _ hk => hk.2) (.int .i64 z)
 exact ⟨⟨below_set h.st.bl h.n9, blk_far (p := ⟨g9, i, none⟩) h.st.b4 (blk_ne h.st.b4 h.b9 (by decide)) _, ⟨p, blk_far (p := ⟨g9, i, none⟩) h1 (blk_ne h1 h.b9 (by decide)) _, h2.set (fun gb o ho => blk_ne ho h.b9 (by decide))⟩, blk_far (p := ⟨g9, i, none⟩) h.st.b8 (blk_ne h.st.b8 h.b9 (by decide)) _,
  Kd.R_mono far (fun _ _ => trivial), h.st.n4, h.st.n7, h.st.n8, h.st.d48⟩, blk_put h.b9 i _ hs, far, h.n9⟩
theorem BnEc.call {w0 w : World} {A : Option Addr} {n c g4 g7 g8 : Nat} {at_ e N : Int} {u : Value} {Y : List S59} {g9 : Nat} {x y : Int} {w' : World} {at2 e2 : Int} {p2 : Option Addr} (h : BnEc w0 w A n c g4 g7 g8 g9 at_ e N u Y x y) (hb : w'.heap[g7]? = some (.cells (RdB A n c at2 p2) 56 (0, 0))) (hp : PE w' p2 e2) (hg : w.grownBy w' (some g7)) : BnEc w0 w' A n c g4 g7 g8 g9 at2 e2 N u Y x y := by
 obtain ⟨p, h1, h2⟩ := h.st.br
 exact ⟨h.st.call hb hp hg, blk_grown h.b9 hg (fun e_ => blk_ne h.b9 h1 (by decide) (Option.some.inj e_)), Kd.R_mono (Kd.R_grown (Kd.R_types h.away h1 (by decide)) hg (fun k hk e_ => hk.2 (Option.some.inj e_))) (fun _ hk => hk.1), h.n9⟩
def beacon_Parse.T11 : Bool × List (List Nat × List Nat) := (true, [([], []), ([], []), ([1], [1]), ([2], [2]), ([0, 0], [0]), ([4, 0, 4], []), ([3, 5, 0, 1, 2, 3, 4, 5], [3])])
def beacon_Parse.B11 : List Nat := [0, 0, 2, 6, 1, 17, 63]
theorem beacon_Parse.tab11 : rtab .any (opsOf Try.f8 11) = beacon_Parse.T11 := by kernel_rfl
theorem beacon_Parse.bits11 : waitsOk beacon_Parse.T11.2 beacon_Parse.B11 = true := by kernel_rfl
def beacon_Parse.T14 : Bool × List (List Nat × List Nat) := (true, [([], []), ([], []), ([1], [1]), ([2], [2]), ([3], [3]), ([0, 0], [0]), ([4, 5, 0, 1, 2, 3, 4, 5], [4]), ([6, 0, 1, 2, 3, 4, 5, 6], [])])
def beacon_Parse.B14 : List Nat := [0, 0, 2, 6, 14, 1, 63, 127]
theorem beacon_Parse.tab14 : rtab .any (opsOf Try.f8 14) = beacon_Parse.T14 := by kernel_rfl
theorem beacon_Parse.bits14 : waitsOk beacon_Parse.T14.2 beacon_Parse.B14 = true := by kernel_rfl
theorem beacon_Parse.calls (A0 : Option Addr) (c0 : Nat) (l0 : List Int) (a1 : Int) (r1 : Int) (r2 : List S59) (r3 r4 : Int) (w : World) (hr0 : Kd.C (Kd.int .u8) w A0 l0.length l0) (hc0 : l0.length ≤ c0) (h : beacon_Parse.f l0 a1 = some (r1, r2, r3, r4)) :
  Calls Try.prog 8 #[.slice A0 l0.length c0, .int .i64 a1] w fun e w' => ∃ v1_ : Value, e = .returned (.tuple #[.agg #[.int .i64 r1, v1_], .int .i64 r3, .int .i64 r4]) ∧ Kd.R k59 59 w' w.heap.size (fun _ => True) v1_ r2 ∧ Below w.heap.size w w' := by
 have hu25 := Try.underlying25
 have hu59 := Try.underlying59
 have hu56 := Try.underlying56
 obtain ⟨hL, hB, hP⟩ : l0.length ≤ 1000000000000 ∧ Bytes l0 ∧ bnGo l0 a1 = (r1, r2, r3, r4) := by
  unfold beacon_Parse.f at h
  split at h
  ·rename_i hc
   exact ⟨hc.1, hc.2, Option.some.inj h⟩
  ·exact absurd h (by simp)
 clear h
 unfold bnGo at hP
 obtain ⟨n, p1, e1, h1⟩ : ∃ n p e, rbN l0 4 a1 0 = (n, p, e) := ⟨_, _, _, rfl⟩
 rw [h1] at hP
 simp only at hP
 obtain ⟨m, p2, e2, h2⟩ : ∃ n p e, rbN l0 1 p1 e1 = (n, p, e) := ⟨_, _, _, rfl⟩
 rw [h2] at hP
 simp only [bnRest] at hP
 have hm := rbN_one hB h2
 obtain ⟨M, rfl⟩ := Int.eq_ofNat_of_zero_le hm.1
 rw [Int.toNat_natCast] at hP
 obtain ⟨Y, at3, e3, hz⟩ : ∃ Y at3 e3, blL l0 M [] p2 e2 = (Y, at3, e3) := ⟨_, _, _, rfl⟩
 rw [hz] at hP
 simp only [bnFin] at hP
 have HL := Aside0.mk hL
 have HY := Aside0.mk hB
 have HR0 := Aside0.mk hr0
 have HC0 := Aside0.mk hc0
 have H1 := Aside0.mk h1
 have H2 := Aside0.mk h2
 have HZ := Aside0.mk hz
 have HP := Aside0.mk hP
 have HM := Aside0.mk hm.2
 clear hL hB hr0 hc0 h1 h2 hz hP hm
 go_enter Try.func8, Try.ntmps8
 go_upto_region 3 with (first
  | ((with_reducible refine gate_dst (N := 4) rfl ?_); refine box_event ?hg (N := 4) ?hd (cs := #[.int .i64 0, .slice none 0 0]) (t := 25) ?hr ?_; (case hd => rfl); (case hg => rfl); (case hr => first | (go_simp; done) | (go_simp; rfl)); intro g4 hg w4 hbox hb; have HB4 := Aside0.mk hb; have G4 := Aside0.mk (Nat.le_of_eq hg.symm); have B4 := Aside0.mk hbox; clear hb hbox hg)
  | ((with_reducible refine gate_dst (N := 14) rfl ?_); refine box_event ?hg (N := 14) ?hd (cs := RdB A0 l0.length c0 a1 none) (t := 56) ?hr ?_; (case hd => rfl); (case hg => rfl); (case hr => first | (go_simp; done) | (go_simp; rfl)); intro g7 hg w5 hbox hb; have HB5 := Aside0.mk (below_step HB4.out hb); have G7 := Aside0.mk (show w.heap.size ≤ g7 by rw [hg]; exact below_size HB4.out); have B45 := Aside0.mk (blk_below B4.out hb); have BR := Aside0.mk hbox; clear hb hbox hg HB4 B4)
  | (go_at_call 24; (with_reducible refine (bn_number g7 A0 c0 l0 a1 0 4 _ _ _ none _ H1.out HY.out HL.out (Kd.C_below HR0.out HB5.out) HC0.out BR.out (PE.nil w5)).mono ?_); rintro x_ w16 ⟨rfl, pp1, hbx, hpx, hgr⟩; have HB6 := Aside0.mk (pw_below_grown HB5.out (some g7) (below_size HB5.out) hgr (fun k_ e_ => by cases e_; exact G7.out)); have B46 := Aside0.mk (blk_grown B45.out hgr (fun e_ => blk_ne B45.out BR.out (by decide) (Option.some.inj e_))); have BR6 := Aside0.mk hbx; have PE6 := Aside0.mk hpx; clear hbx hpx hgr HB5 B45 BR)
  | ((with_reducible refine gate_dst (N := 8) rfl ?_); refine box_event ?hg (N := 8) ?hd (cs := #[.int .i64 0, .slice none 0 0]) (t := 25) ?hr ?_; (case hd => rfl); (case hg => rfl); (case hr => first | (go_simp; done) | (go_simp; rfl)); intro g8 hg w8 hbox hb; have ST0 := Aside0.mk (BnSt.mk (c := c0) (below_step HB6.out hb) (blk_below B46.out hb) ⟨pp1, blk_below BR6.out hb, PE.below PE6.out hb⟩ hbox (Kd.R_nil _ _ _ _ _) G4.out G7.out (by rw [hg]; exact below_size HB6.out) (by rw [hg]; exact Nat.ne_of_lt (blk_lt B46.out))); clear hb hbox hg; have u0 := (blk_cell ST0.out.b8 0).trans rfl; have u1 := (blk_cell ST0.out.b8 1).trans rfl; have uf0 := blk_frozen ST0.out.b8 0; have uf1 := blk_frozen ST0.out.b8 1))
 have ST := Aside0.mk ((ST0.out.set0 n).set1 (u2 := .slice none 0 0) (Y2 := []) (Kd.R_nil _ _ _ _ _))
 clear ST0 u0 u1 uf0 uf1
 generalize ((w8.setCell ⟨g8, 0, none⟩ (.int .i64 n)).setCell ⟨g8, 1, none⟩ (.slice none 0 0)) = wq at ST ⊢
 obtain ⟨pp, hbr, hpe⟩ := ST.out.br
 go_wp2_with ((go_at_call 24; (with_reducible refine (bn_number g7 A0 c0 l0 p1 e1 1 _ _ _ _ _ H2.out HY.out HL.out (Kd.C_below HR0.out ST.out.bl) HC0.out hbr hpe).mono ?_); rintro x_ w19 ⟨rfl, pp2, hbx, hpx, hgr⟩; have STn := Aside0.mk (ST.out.call hbx hpx hgr); clear hbx hpx hgr))
 clear ST hbr hpe
 have ST := STn
 clear STn
 go_loopg [20] M (fun kq v20 wr => ∃ (i : Nat) (at_ e : Int) (u : Value) (Z : List S59), v20 = .int .i64 i ∧ Aside0 (i + kq = M) ∧ Aside0 (blL l0 kq Z at_ e = (Y, at3, e3)) ∧ Aside0 (Z.length = i) ∧ Aside0 (BnSt w wr A0 l0.length c0 g4 g7 g8 at_ e n u Z))
 case atStart => exact ⟨0, p2, e2, .slice none 0 0, [], rfl, ⟨by omega⟩, HZ, ⟨rfl⟩, ST⟩
 case round =>
  clear ST HZ
  obtain ⟨i, at_, e, u, Z, rfl, HI, HZ, HN, ST⟩ := hrel
  cases gk with
  | zero =>
   obtain rfl : i = M := by have := HI.out; omega
   have hz := HZ.out
   simp only [blL, Prod.mk.injEq] at hz
   obtain ⟨rfl, rfl, rfl⟩ := hz
   clear HZ HI
   obtain ⟨pp, hbr, hpe⟩ := ST.out.br
   obtain ⟨Au, cu, eu⟩ := Kd.R_slice ST.out.row
   subst eu
   rcases hpe with ⟨rfl, he⟩ | ⟨gb, rfl, he, hgb⟩
   ·subst he
    have hP := HP.out
    rw [if_pos rfl] at hP
    have h2 : wr.cell? ⟨g7, 2, none⟩ = some (.pointer none) := (blk_cell hbr 2).trans rfl
    have k0 : wr.cell? ⟨g8, 0, none⟩ = some (.int .i64 n) := (blk_cell ST.out.b8 0).trans rfl
    have k1 : wr.cell? ⟨g8, 1, none⟩ = some (.slice Au Z.length cu) := (blk_cell ST.out.b8 1).trans rfl
    obtain ⟨K, hK⟩ := (bncheck_ev n Z (by have := HN.out; have := HM.out; omega)).rounds
    by_cases hR : RBn n Z
    ·rw [if_pos hR] at hP hK
     simp only [Prod.mk.injEq] at hP
     obtain ⟨rfl, rfl, rfl, rfl⟩ := hP
     have HK := Aside0.mk hK
     clear hK hR HP
     go_upto_region 14 with (first
      | (go_at_call 25; (with_reducible refine (bp_load0 g7 _ h2).mono ?_); rintro _ _ ⟨rfl, rfl⟩)
      | (go_at_call 22; (with_reducible refine (beacon_Check.calls K n Au cu Z 0 _ (Kd.R_reads' ST.out.row).2.2 (Kd.R_reads' ST.out.row).2.1 HK.out).mono ?_); rintro x_ ws ⟨rfl, hb⟩; have STn := Aside0.mk (ST.out.below hb); clear hb; have y0 := (blk_cell STn.out.b4 0).trans rfl; have y1 := (blk_cell STn.out.b4 1).trans rfl; have yf0 := blk_frozen STn.out.b4 0; have yf1 := blk_frozen STn.out.b4 1))
     clear y0 y1 yf0 yf1 k0 k1 h2 hbr ST
     have ST := Aside0.mk STn.out.drew
     clear STn
     obtain ⟨pp7, hb7, hp7⟩ := ST.out.br
     refine start_ (n := 8) (S := fun w' => w'.cell? ⟨g8, 0, none⟩ = some (.int .i64 n) ∧ w'.cell? ⟨g8, 1, none⟩ = some (.slice Au Z.length cu) ∧ w'.cell? ⟨g7, 1, none⟩ = some (.int .i64 at_)) (ds := []) #[false, false, false, false, false, false, false, false] (by kernel_rfl) rfl rfl ⟨(blk_cell ST.out.b8 0).trans rfl, (blk_cell ST.out.b8 1).trans rfl, (blk_cell hb7 1).trans rfl⟩ (fun hHeld => ?_); refine with_tabW beacon_Parse.tab14 beacon_Parse.bits14 (fun HT_ HW_ => ?_)
     generalize ws.drew = wd at ST hHeld ⊢
     have o0 : wd.cell? ⟨g4, 0, none⟩ = some (.int .i64 0) := (blk_cell ST.out.b4 0).trans rfl
     have o1 : wd.cell? ⟨g4, 1, none⟩ = some (.slice none 0 0) := (blk_cell ST.out.b4 1).trans rfl
     have of0 := blk_frozen ST.out.b4 0
     have of1 := blk_frozen ST.out.b4 1
     have n84 : g8 ≠ g4 := ST.out.d48.symm
     have n74 : g7 ≠ g4 := by obtain ⟨_, h7, _⟩ := ST.out.br; exact blk_ne h7 ST.out.b4 (by decide)
     refine pure_ (i := 1) (N := some 52) (v := ?_) (a' := ?_) #[false, true, false, false, false, false, false, false] rfl rfl (any_of HT_.out (by kernel_rfl)) (fun _ _ _ h => h) (Or.inl ⟨by rfl, ?_⟩) ?_ ?_
     rotate_left
     ·intro w'
      go_simp
      with_reducible rfl
     rotate_left
     ·simp only [Act.put, List.setIfInBounds_toArray, List.set_cons_zero, List.set_cons_succ, i64_w, i32_w]
      rfl
     refine pure_ (i := 2) (N := some 53) (v := ?_) (a' := ?_) #[false, true, true, false, false, false, false, false] rfl rfl (any_of HT_.out (by kernel_rfl)) (fun _ _ _ h => h) (Or.inl ⟨by rfl, ?_⟩) ?_ ?_
     rotate_left
     ·intro w'
      go_simp
      with_reducible rfl
     rotate_left
     ·simp only [Act.put, List.setIfInBounds_toArray, List.set_cons_zero, List.set_cons_succ, i64_w, i32_w]
      rfl
     refine pure_ (i := 3) (N := some 54) (v := ?_) (a' := ?_) #[false, true, true, true, false, false, false, false] rfl rfl (any_of HT_.out (by kernel_rfl)) (fun _ _ _ h => h) (Or.inl ⟨by rfl, ?_⟩) ?_ ?_
     rotate_left
     ·intro w'
      go_simp
      with_reducible rfl
     rotate_left
     ·simp only [Act.put, List.setIfInBounds_toArray, List.set_cons_zero, List.set_cons_succ, i64_w, i32_w]
      rfl
     refine take_ (i := 0) (N := some 51) (v := ?_) (a' := ?_) #[true, true, true, true, false, false, false, false] rfl rfl (take_ofW HT_.out HW_.out (by kernel_rfl)) (fun _ _ _ h => h) (Or.inl ⟨by rfl, ?_⟩) hHeld ?_ ?_
     rotate_left
     ·rintro w' ⟨s0, s1, s2⟩
      go_simp
      with_reducible rfl
     rotate_left
     ·simp only [Act.put, List.setIfInBounds_toArray, List.set_cons_zero, List.set_cons_succ, i64_w, i32_w]
      rfl
     refine take_ (i := 4) (N := some 55) (v := ?_) (a' := ?_) #[true, true, true, true, true, false, false, false] rfl rfl (take_ofW HT_.out HW_.out (by kernel_rfl)) (fun _ _ _ h => h) (Or.inl ⟨by rfl, ?_⟩) hHeld ?_ ?_
     rotate_left
     ·rintro w' ⟨s0, s1, s2⟩
      go_simp
      with_reducible rfl
     rotate_left
     ·simp only [Act.put, List.setIfInBounds_toArray, List.set_cons_zero, List.set_cons_succ, i64_w, i32_w]
      rfl
     refine one_ (i := 5) (N := none) #[true, true, true, true, true, true, false, false] rfl rfl (one_of HT_.out (by kernel_rfl)) (by decide) (fun K hK => ?_)
     refine skip_ (w1 := ?_) (by rfl) rfl ?_ ?_
     rotate_left
     ·go_simp
      rfl
     refine hK.out _ _ ?_ (fun hHeld2 => ?_)
     ·refine ⟨?_, ?_, ?_⟩
      ·(repeat (first | refine (cell_far n84 _).trans ?_ | refine (cell_far n74 _).trans ?_)); exact hHeld.1
      ·(repeat (first | refine (cell_far n84 _).trans ?_ | refine (cell_far n74 _).trans ?_)); exact hHeld.2.1
      ·(repeat (first | refine (cell_far n84 _).trans ?_ | refine (cell_far n74 _).trans ?_)); exact hHeld.2.2
     clear hHeld
     have hHeld := hHeld2
     clear hHeld2
     clear hK K
     refine pure_ (i := 6) (N := some 5) (v := ?_) (a' := ?_) #[true, true, true, true, true, true, true, false] rfl rfl (any_of HT_.out (by kernel_rfl)) (fun _ _ _ h => h) (Or.inl ⟨by rfl, ?_⟩) ?_ ?_
     rotate_left
     ·intro w'
      go_simp
      with_reducible rfl
     rotate_left
     ·simp only [Act.put, List.setIfInBounds_toArray, List.set_cons_zero, List.set_cons_succ, i64_w, i32_w]
      rfl
     refine pure_ (i := 7) (N := some 6) (v := ?_) (a' := ?_) #[true, true, true, true, true, true, true, true] rfl rfl (any_of HT_.out (by kernel_rfl)) (fun _ _ _ h => h) (Or.inl ⟨by rfl, ?_⟩) ?_ ?_
     rotate_left
     ·intro w'
      go_simp
      with_reducible rfl
     rotate_left
     ·simp only [Act.put, List.setIfInBounds_toArray, List.set_cons_zero, List.set_cons_succ, i64_w, i32_w]
      rfl
     refine done_ (done_of HT_.out (by kernel_rfl)) ?_
     clear HT_ HW_
     try go_wp2
     refine bodyPost_ret (results_ctt rfl _ _ g4 25 #[.int .i64 n, .slice Au Z.length cu] (0, 0) _ rfl (blk_put (blk_put ST.out.b4 0 (.int .i64 n) (cs' := #[.int .i64 n, .slice none 0 0]) rfl) 1 (.slice Au Z.length cu) (cs' := #[.int .i64 n, .slice Au Z.length cu]) rfl) Try.underlying25 rfl (by kernel_rfl)) rfl ?_
     exact ⟨_, rfl, Kd.R_mono (Kd.R_far (p := ⟨g4, 1, none⟩) (Kd.R_far (p := ⟨g4, 0, none⟩) (Kd.R_types ST.out.row ST.out.b4 (by decide)) (fun _ hk => hk.2) _) (fun _ hk => hk.2) _) (fun _ _ => trivial), below_set (below_set ST.out.bl ST.out.n4) ST.out.n4⟩
    ·rw [if_neg hR] at hP hK
     simp only [Prod.mk.injEq] at hP
     obtain ⟨rfl, rfl, rfl, rfl⟩ := hP
     have HK := Aside0.mk hK
     clear hK hR HP
     go_wp2_with (first
      | (go_at_call 25; (with_reducible refine (bp_load0 g7 _ h2).mono ?_); rintro _ _ ⟨rfl, rfl⟩)
      | (go_at_call 22; (with_reducible refine (beacon_Check.calls K n Au cu Z 1 _ (Kd.R_reads' ST.out.row).2.2 (Kd.R_reads' ST.out.row).2.1 HK.out).mono ?_); rintro x_ ws ⟨rfl, hb⟩; have STn := Aside0.mk (ST.out.below hb); clear hb; have y0 := (blk_cell STn.out.b4 0).trans rfl; have y1 := (blk_cell STn.out.b4 1).trans rfl; have yf0 := blk_frozen STn.out.b4 0; have yf1 := blk_frozen STn.out.b4 1))
     clear ST
     have ST := STn
     refine bodyPost_ret (results_ctt rfl _ _ g4 25 #[.int .i64 0, .slice none 0 0] (0, 0) _ rfl (blk_put (blk_put ST.out.b4 0 (.int .i64 0) (cs' := #[.int .i64 0, .slice none 0 0]) rfl) 1 (.slice none 0 0) (cs' := #[.int .i64 0, .slice none 0 0]) rfl) Try.underlying25 rfl (by kernel_rfl)) rfl ?_
     exact ⟨_, rfl, Kd.R_nil _ _ _ _ _, below_set (below_set ST.out.bl ST.out.n4) ST.out.n4⟩
   ·have hP := HP.out
    rw [if_neg he] at hP
    simp only [Prod.mk.injEq] at hP
    obtain ⟨rfl, rfl, rfl, rfl⟩ := hP
    have GB := Aside0.mk hgb
    have h2 : wr.cell? ⟨g7, 2, none⟩ = some (.pointer (some ⟨gb, 0, none⟩)) := (blk_cell hbr 2).trans rfl
    clear hgb hbr he HP
    go_upto_region 11 with ((go_at_call 25; (with_reducible refine (bp_load1 g7 gb e _ h2 GB.out).mono ?_); rintro _ _ ⟨rfl, rfl⟩))
    clear h2
    have STd := Aside0.mk ST.out.drew
    clear ST
    have ST := STd
    clear STd
    have GBd := Aside0.mk (show wr.drew.heap[gb]? = _ from GB.out)
    clear GB
    have GB := GBd
    clear GBd
    refine start_ (n := 7) (S := fun w' => w'.cell? ⟨gb, 0, none⟩ = some (.int .i64 e)) (ds := []) #[false, false, false, false, false, false, false] (by kernel_rfl) rfl rfl ((blk_cell GB.out 0).trans rfl) (fun hHeld => ?_); refine with_tabW beacon_Parse.tab11 beacon_Parse.bits11 (fun HT_ HW_ => ?_)
    generalize wr.drew = wd at ST hHeld GB ⊢
    have o0 : wd.cell? ⟨g4, 0, none⟩ = some (.int .i64 0) := (blk_cell ST.out.b4 0).trans rfl
    have o1 : wd.cell? ⟨g4, 1, none⟩ = some (.slice none 0 0) := (blk_cell ST.out.b4 1).trans rfl
    have of0 := blk_frozen ST.out.b4 0
    have of1 := blk_frozen ST.out.b4 1
    have nb4 : gb ≠ g4 := blk_ne GB.out ST.out.b4 (by decide)
    refine pure_ (i := 0) (N := some 42) (v := ?_) (a' := ?_) #[true, false, false, false, false, false, false] rfl rfl (any_of HT_.out (by kernel_rfl)) (fun _ _ _ h => h) (Or.inl ⟨by rfl, ?_⟩) ?_ ?_
    rotate_left
    ·intro w'
     go_simp
     with_reducible rfl
    rotate_left
    ·simp only [Act.put, List.setIfInBounds_toArray, List.set_cons_zero, List.set_cons_succ, i64_w, i32_w]
     rfl
    refine pure_ (i := 1) (N := some 43) (v := ?_) (a' := ?_) #[true, true, false, false, false, false, false] rfl rfl (any_of HT_.out (by kernel_rfl)) (fun _ _ _ h => h) (Or.inl ⟨by rfl, ?_⟩) ?_ ?_
    rotate_left
    ·intro w'
     go_simp
     with_reducible rfl
    rotate_left
    ·simp only [Act.put, List.setIfInBounds_toArray, List.set_cons_zero, List.set_cons_succ, i64_w, i32_w]
     rfl
    refine pure_ (i := 2) (N := some 44) (v := ?_) (a' := ?_) #[true, true, true, false, false, false, false] rfl rfl (any_of HT_.out (by kernel_rfl)) (fun _ _ _ h => h) (Or.inl ⟨by rfl, ?_⟩) ?_ ?_
    rotate_left
    ·intro w'
     go_simp
     with_reducible rfl
    rotate_left
    ·simp only [Act.put, List.setIfInBounds_toArray, List.set_cons_zero, List.set_cons_succ, i64_w, i32_w]
     rfl
    refine take_ (i := 3) (N := some 45) (v := ?_) (a' := ?_) #[true, true, true, true, false, false, false] rfl rfl (take_ofW HT_.out HW_.out (by kernel_rfl)) (fun _ _ _ h => h) (Or.inl ⟨by rfl, ?_⟩) hHeld ?_ ?_
    rotate_left
    ·intro w' s0
     go_simp
     with_reducible rfl
    rotate_left
    ·simp only [Act.put, List.setIfInBounds_toArray, List.set_cons_zero, List.set_cons_succ, i64_w, i32_w]
     rfl
    refine one_ (i := 4) (N := none) #[true, true, true, true, true, false, false] rfl rfl (one_of HT_.out (by kernel_rfl)) (by decide) (fun K hK => ?_)
    refine skip_ (w1 := ?_) (by rfl) rfl ?_ ?_
    rotate_left
    ·go_simp
     rfl
    refine hK.out _ _ ?_ (fun hHeld2 => ?_)
    ·(repeat (first | refine (cell_far nb4 _).trans ?_)); exact hHeld
    clear hHeld
    have hHeld := hHeld2
    clear hHeld2
    clear hK K
    refine pure_ (i := 5) (N := some 5) (v := ?_) (a' := ?_) #[true, true, true, true, true, true, false] rfl rfl (any_of HT_.out (by kernel_rfl)) (fun _ _ _ h => h) (Or.inl ⟨by rfl, ?_⟩) ?_ ?_
    rotate_left
    ·intro w'
     go_simp
     with_reducible rfl
    rotate_left
    ·simp only [Act.put, List.setIfInBounds_toArray, List.set_cons_zero, List.set_cons_succ, i64_w, i32_w]
     rfl
    refine pure_ (i := 6) (N := some 6) (v := ?_) (a' := ?_) #[true, true, true, true, true, true, true] rfl rfl (any_of HT_.out (by kernel_rfl)) (fun _ _ _ h => h) (Or.inl ⟨by rfl, ?_⟩) ?_ ?_
    rotate_left
    ·intro w'
     go_simp
     with_reducible rfl
    rotate_left
    ·simp only [Act.put, List.setIfInBounds_toArray, List.set_cons_zero, List.set_cons_succ, i64_w, i32_w]
     rfl
    refine done_ (done_of HT_.out (by kernel_rfl)) ?_
    clear HT_ HW_
    try go_wp2
    refine bodyPost_ret (results_ctt rfl _ _ g4 25 #[.int .i64 0, .slice none 0 0] (0, 0) _ rfl (blk_put (blk_put ST.out.b4 0 (.int .i64 0) (cs' := #[.int .i64 0, .slice none 0 0]) rfl) 1 (.slice none 0 0) (cs' := #[.int .i64 0, .slice none 0 0]) rfl) Try.underlying25 rfl (by kernel_rfl)) rfl ?_
    exact ⟨_, rfl, Kd.R_nil _ _ _ _ _, below_set (below_set ST.out.bl ST.out.n4) ST.out.n4⟩
  | succ k1 =>
   have hz := HZ.out
   simp only [blL] at hz
   obtain ⟨x, q1, f1, hx⟩ : ∃ x q f, rbN l0 1 at_ e = (x, q, f) := ⟨_, _, _, rfl⟩
   rw [hx] at hz
   simp only at hz
   obtain ⟨y, q2, f2, hy⟩ : ∃ x q f, rbN l0 4 q1 f1 = (x, q, f) := ⟨_, _, _, rfl⟩
   rw [hy] at hz
   simp only at hz
   clear HZ
   have HZ := Aside0.mk hz
   have HX := Aside0.mk hx
   have HV := Aside0.mk hy
   clear hz hx hy
   have hlt : decide ((i : Int) < (M : Int)) = true := decide_eq_true (by have := HI.out; omega)
   have hltn : decide (i < M) = true := decide_eq_true (by have := HI.out; omega)
   have hi0 : (0 : Int) ≤ (i : Int) := by omega
   have hi1 : (i : Int) < 256 := by have := HI.out; have := HM.out; omega
   obtain ⟨pp, hbr, hpe⟩ := ST.out.br
   go_upto_region 6 with (first
    | (go_at_call 24; (with_reducible refine (bn_number g7 A0 c0 l0 at_ e 1 _ _ _ _ _ HX.out HY.out HL.out (Kd.C_below HR0.out ST.out.bl) HC0.out hbr hpe).mono ?_); rintro x_ w23 ⟨rfl, pp3, hbx, hpx, hgr⟩; have STn := Aside0.mk (ST.out.call hbx hpx hgr); clear hbx hpx hgr ST hbr hpe; have ST := STn; clear STn)
    | ((with_reducible refine gate_dst (N := 9) rfl ?_); refine box_event ?hg (N := 9) ?hd (cs := #[.int .i64 0, .int .i64 0]) (t := 59) ?hr ?_; (case hd => rfl); (case hg => rfl); (case hr => first | (go_simp; done) | (go_simp; rfl)); intro g9 hg w9 hbox hb; have E9 := Aside0.mk (BnEc.new ST.out hb hbox (Nat.le_of_eq hg.symm)); clear hb hbox hg ST; have v0 := (blk_cell E9.out.b9 0).trans rfl; have v1 := (blk_cell E9.out.b9 1).trans rfl; have vf0 := blk_frozen E9.out.b9 0; have vf1 := blk_frozen E9.out.b9 1))
   have E2 := Aside0.mk ((E9.out.set (x2 := x) (y2 := 0) 0 x rfl).set (x2 := x) (y2 := 0) 1 0 rfl)
   clear E9 v0 v1 vf0 vf1
   generalize ((w9.setCell ⟨g9, 0, none⟩ (.int .i64 x)).setCell ⟨g9, 1, none⟩ (.int .i64 0)) = wa at E2 ⊢
   obtain ⟨pp, hbr, hpe⟩ := E2.out.st.br
   go_upto_region 7 with ((go_at_call 24; (with_reducible refine (bn_number g7 A0 c0 l0 q1 f1 4 _ _ _ _ _ HV.out HY.out HL.out (Kd.C_below HR0.out E2.out.st.bl) HC0.out hbr hpe).mono ?_); rintro x_ w26 ⟨rfl, pp4, hbx, hpx, hgr⟩; have E3 := Aside0.mk (E2.out.call hbx hpx hgr); clear hbx hpx hgr E2 hbr hpe; have z1 := (blk_cell E3.out.b9 1).trans rfl; have zf1 := blk_frozen E3.out.b9 1))
   have E4 := Aside0.mk (E3.out.set (x2 := x) (y2 := y) 1 y rfl)
   clear E3 z1 zf1
   generalize (w26.setCell ⟨g9, 1, none⟩ (.int .i64 y)) = wb at E4 ⊢
   have m0 : wb.cell? ⟨g8, 1, none⟩ = some u := (blk_cell E4.out.st.b8 1).trans rfl
   have m1 : wb.cell? ⟨g9, 0, none⟩ = some (.int .i64 x) := (blk_cell E4.out.b9 0).trans rfl
   have m2 : wb.cell? ⟨g9, 1, none⟩ = some (.int .i64 y) := (blk_cell E4.out.b9 1).trans rfl
   obtain ⟨Z2, hZ2⟩ : ∃ Z2 : List S59, Z2 = Z ++ [(⟨x, y⟩ : S59)] := ⟨_, rfl⟩
   have NZ := Aside0.mk hZ2
   clear hZ2
   go_wp2_with (((with_reducible refine gate_builtin (b := .append) (xs := #[.tmp 29, .tmp 31]) rfl ?_); at_builtin; refine Kd.R_append k59 (w0 := w) w.heap.size rfl (.tmp 29) (.tmp 31) 23 59 (.agg #[(.int .i64 0), (.int .i64 0)]) 16 rfl Try.underlying23 info59 rfl (by decide) (by omega) u Z (⟨x, y⟩ : S59) [.int .i64 x, .int .i64 y] (fun _ => True) (fun _ => False) rfl rfl ?aP (fun _ hk => hk.elim) ?aF ?aO ?aB ?aS ?aL ?_; (case aP => exact k59_mkM _ _ _ (⟨x, y⟩ : S59)); (case aB => exact E4.out.st.bl); (case aF => exact (fun _ _ => trivial)); (case aO => exact E4.out.st.row); (case aS => exact below_size E4.out.st.bl); (case aL => have := HN.out; have := HI.out; have := HM.out; omega); intro v2 w2 ho hb hg hat; rw [← NZ.out] at ho; obtain ⟨A2, c2, ev2⟩ := Kd.R_slice ho; subst ev2; have hc1 : w2.cell? ⟨g8, 1, none⟩ = some u := (blk_cell (E4.out.st.app8 hg) 1).trans rfl; have hf1 := blk_frozen (E4.out.st.app8 hg) 1; have STn := Aside0.mk (E4.out.st.app ho hb hg); clear ho hb hg hat))
   go_roundg k1
   case measure => have := HI.out; omega
   case rel => exact ⟨i + 1, q2, f2, _, Z2, by simp, ⟨by have := HI.out; omega⟩, ⟨by rw [NZ.out]; exact HZ.out⟩, ⟨by rw [NZ.out, List.length_append, HN.out]; rfl⟩, STn⟩
end Go.Proofs.Ytaiklcpmlkpfjaa.P
namespace Go.Proofs.Ytaiklcpmlkpfjaa.P
open Go.RowKit YtaiklcpmlkpfjaaW.PrintWords YtaiklcpmlkpfjaaW.PrintLast YtaiklcpmlkpfjaaW.PrintMore
open YtaiklcpmlkpfjaaW.PrintWords.Aside0 renaming mk → YA
attribute [local go_sem] max2_int min2_int max_two min_two max_three min_three max_four min_four
mutual
def thalwegref01_Get.j0 : Nat → List Int → Int → Int → Bool → Option (Int × Int × Int)
 | 0, _, _, _, _ => none
 | k + 1, x0, x1, x2, x26 => if x26 = true then (some (0, 0, 1)) else (if (wrap64 ((x0.length : Int) - x1)) < x2 then (some (0, 0, 6)) else (thalwegref01_Get.l0 k x0 x1 x2 0 0))
def thalwegref01_Get.l0 : Nat → List Int → Int → Int → Int → Int → Option (Int × Int × Int)
 | 0, _, _, _, _, _ => none
 | k + 1, x0, x1, x2, x9, x10 => if x10 < x2 then (if 0 ≤ (wrap64 (x1 + x10)) then (if (wrap64 (x1 + x10)) < (x0.length : Int) then (thalwegref01_Get.l0 k x0 x1 x2 (wrap64 ((wrap64 (256 * x9)) + (wrap64 (rd x0 (wrap64 (x1 + x10)))))) (wrap64 (x10 + 1))) else (none)) else (none)) else (some (x9, wrap64 (x1 + x2), 0))
end
def thalwegref01_Get.f (k : Nat) (l0 : List Int) (a1 : Int) (a2 : Int) : Option (Int × Int × Int) := if a2 < 1 then (thalwegref01_Get.j0 k l0 a1 a2 true) else (if a2 > 7 then (thalwegref01_Get.j0 k l0 a1 a2 true) else (if a1 < 0 then (thalwegref01_Get.j0 k l0 a1 a2 true) else (thalwegref01_Get.j0 k l0 a1 a2 (decide (a1 > (l0.length : Int))))))
theorem thalwegref01_Get.mono_l : ∀ k, (∀ y0 y1 y2 y3, LeO (thalwegref01_Get.j0 k y0 y1 y2 y3) (thalwegref01_Get.j0 (k + 1) y0 y1 y2 y3)) ∧ (∀ y0 y1 y2 y3 y4, LeO (thalwegref01_Get.l0 k y0 y1 y2 y3 y4) (thalwegref01_Get.l0 (k + 1) y0 y1 y2 y3 y4))
 | 0 => ⟨fun _ _ _ _ r h => by simp [thalwegref01_Get.j0] at h, fun _ _ _ _ _ r h => by simp [thalwegref01_Get.l0] at h⟩
 | k + 1 => by
  obtain ⟨ih0, ih1⟩ := thalwegref01_Get.mono_l k
  refine ⟨?_, ?_⟩
  ·intro y0 y1 y2 y3
   unfold thalwegref01_Get.j0
   repeat' first
   | (with_reducible exact ih0 _ _ _ _)
   | (with_reducible exact ih1 _ _ _ _ _)
   | (with_reducible exact LeO.refl _)
   | (with_reducible exact LeO.none _)
   | (with_reducible refine LeO.ite ?_ ?_)
   | (with_reducible refine LeO.bind ?_ (fun _ => ?_))
   | exact ih0 _ _ _ _
   | exact ih1 _ _ _ _ _
   | exact LeO.none _
   | refine LeO.ite ?_ ?_
   | refine LeO.bind ?_ (fun _ => ?_)
  intro y0 y1 y2 y3 y4
  unfold thalwegref01_Get.l0
  repeat' first
  | (with_reducible exact ih0 _ _ _ _)
  | (with_reducible exact ih1 _ _ _ _ _)
  | (with_reducible exact LeO.refl _)
  | (with_reducible exact LeO.none _)
  | (with_reducible refine LeO.ite ?_ ?_)
  | (with_reducible refine LeO.bind ?_ (fun _ => ?_))
  | exact ih0 _ _ _ _
  | exact ih1 _ _ _ _ _
  | exact LeO.none _
  | refine LeO.ite ?_ ?_
  | refine LeO.bind ?_ (fun _ => ?_)
theorem thalwegref01_Get.mono : ∀ a0 a1 a2 k, LeO (thalwegref01_Get.f k a0 a1 a2) (thalwegref01_Get.f (k + 1) a0 a1 a2) := by
 intro a0 a1 a2 k
 obtain ⟨ih0, ih1⟩ := thalwegref01_Get.mono_l k
 unfold thalwegref01_Get.f
 repeat' first
   | (with_reducible exact ih0 _ _ _ _)
   | (with_reducible exact ih1 _ _ _ _ _)
   | (with_reducible exact LeO.refl _)
   | (with_reducible exact LeO.none _)
   | (with_reducible refine LeO.ite ?_ ?_)
   | (with_reducible refine LeO.bind ?_ (fun _ => ?_))
   | exact ih0 _ _ _ _
   | exact ih1 _ _ _ _ _
   | exact LeO.none _
   | refine LeO.ite ?_ ?_
   | refine LeO.bind ?_ (fun _ => ?_)
theorem thalwegref01_Get.calls (k : Nat) (A0 : Option Addr) (c0 : Nat) (l0 : List Int) (a1 : Int) (a2 : Int) (r1 : Int) (r2 : Int) (r3 : Int) (w : World) (hr0 : Kd.C (Kd.int .u8) w A0 l0.length l0) (hc0 : l0.length ≤ c0) (h : thalwegref01_Get.f k l0 a1 a2 = some (r1, r2, r3)) :
  Calls Try.prog 26 #[.slice A0 l0.length c0, .int .i64 a1, .int .i64 a2] w fun e w' => e = .returned (.tuple #[.int .i64 r1, .int .i64 r2, .int .i64 r3]) ∧ Drawn0 w w' := by
 have HR0 := YA hr0; have HC0 := YA hc0; clear hr0 hc0
 have H : (if a2 < 1 then (thalwegref01_Get.j0 k l0 a1 a2 true) else (if a2 > 7 then (thalwegref01_Get.j0 k l0 a1 a2 true) else (if a1 < 0 then (thalwegref01_Get.j0 k l0 a1 a2 true) else (thalwegref01_Get.j0 k l0 a1 a2 (decide (a1 > (l0.length : Int))))))) = some (r1, r2, r3) := h
 clear h; have HC4 := YA H; clear H
 go_enter Try.func26, Try.ntmps26
 go_upto_region 1 with (fail)
 go_cut [26] (fun v26 wc => ∃ (kq : Nat) (x26_3 : Bool), v26 = .bool x26_3 ∧ Aside0 (thalwegref01_Get.j0 kq l0 a1 a2 x26_3 = some (r1, r2, r3)) ∧ Aside0 (kq ≤ k) ∧ Drawn0 w wc)
 case first =>
  have H := HC4.out
  clear HC4
  by_cases c5 : a2 < 1
  ·rw [if_pos c5] at H
   have c5b0 : decide (a2 < 1) = true := decide_eq_true c5; clear c5
   (first | rw [c5b0] | (simp only [i64_w, i32_w]; rw [c5b0]) | rw [c5b1] | skip)
   have H' := YA H
   clear H
   go_wp2
   go_meet
   case rel => exact ⟨_, (true), (by first | rfl | (simp; done) | (simp [*]; done)), H', ⟨by first | omega | exact Nat.le_refl _⟩, by repeat (first | exact Drawn0.refl _ | apply Drawn0.step)⟩
  rw [if_neg c5] at H; have c5b0 : decide (a2 < 1) = false := decide_eq_false c5; clear c5
  (first | rw [c5b0] | (simp only [i64_w, i32_w]; rw [c5b0]) | rw [c5b1] | skip)
  by_cases c6 : a2 > 7
  ·rw [if_pos c6] at H
   have c6b0 : decide (7 < a2) = true := decide_eq_true c6; clear c6
   have H' := YA H
   clear H
   go_wp2
   go_meet
   case rel => exact ⟨_, (true), (by first | rfl | (simp; done) | (simp [*]; done)), H', ⟨by first | omega | exact Nat.le_refl _⟩, by repeat (first | exact Drawn0.refl _ | apply Drawn0.step)⟩
  rw [if_neg c6] at H; have c6b0 : decide (7 < a2) = false := decide_eq_false c6; clear c6
  by_cases c7 : a1 < 0
  ·rw [if_pos c7] at H
   have c7b0 : decide (a1 < 0) = true := decide_eq_true c7; clear c7
   have H' := YA H
   clear H
   go_wp2
   go_meet
   case rel => exact ⟨_, (true), (by first | rfl | (simp; done) | (simp [*]; done)), H', ⟨by first | omega | exact Nat.le_refl _⟩, by repeat (first | exact Drawn0.refl _ | apply Drawn0.step)⟩
  rw [if_neg c7] at H; have c7b0 : decide (a1 < 0) = false := decide_eq_false c7; clear c7
  have H' := YA H
  clear H
  go_wp2
  go_meet
  case rel => exact ⟨_, (decide (a1 > (l0.length : Int))), (by first | rfl | (simp; done) | (simp [*]; done)), H', ⟨by first | omega | exact Nat.le_refl _⟩, by repeat (first | exact Drawn0.refl _ | apply Drawn0.step)⟩
 case rest =>
  clear HC4
  try clear c2; try clear p2
  try clear c5; try clear c5b0
  try clear c6; try clear c6b0
  try clear c7; try clear c7b0
  obtain ⟨kq, x26_3, rfl, HA, HJ3, ⟨mc3, rfl⟩⟩ := hcut
  cases kq with
  | zero => exact absurd HA.out (by simp [thalwegref01_Get.j0])
  | succ kj3 =>
   have H := HA.out
   clear HA
   simp only [thalwegref01_Get.j0] at H
   by_cases c8 : x26_3 = true
   ·subst c8
    have H1 : (some (0, 0, 1)) = some (r1, r2, r3) := by rw [if_pos rfl] at H; exact H
    clear H
    have H := H1
    clear H1
    simp only [Option.some.injEq, Prod.mk.injEq] at H
    obtain ⟨rfl, rfl, rfl⟩ := H
    go_wp2
    go_ret3
    exact ⟨by first | rfl | (simp; done) | (simp [*]; done), by repeat (first | exact Drawn0.refl _ | apply Drawn0.step)⟩
   replace c8 := Bool.eq_false_iff.mpr c8
   subst c8
   have H1 : (if (wrap64 ((l0.length : Int) - a1)) < a2 then (some (0, 0, 6)) else (thalwegref01_Get.l0 kj3 l0 a1 a2 0 0)) = some (r1, r2, r3) := by rw [if_neg (show ¬ (false = true) by decide)] at H; exact H
   clear H
   have H := H1
   clear H1
   by_cases c9 : (wrap64 ((l0.length : Int) - a1)) < a2
   ·rw [if_pos c9] at H
    have c9b0 : decide ((wrap64 ((l0.length : Int) - a1)) < a2) = true := decide_eq_true c9
    clear c9
    simp only [Option.some.injEq, Prod.mk.injEq] at H
    obtain ⟨rfl, rfl, rfl⟩ := H
    go_wp2
    go_ret3
    exact ⟨by first | rfl | (simp; done) | (simp [*]; done), by repeat (first | exact Drawn0.refl _ | apply Drawn0.step)⟩
   rw [if_neg c9] at H
   have c9b0 : decide ((wrap64 ((l0.length : Int) - a1)) < a2) = false := decide_eq_false c9
   clear c9
   have H' := YA H
   clear H
   go_wp2
   go_loopg [9, 10] kj3 (fun kq v9 v10 w' => ∃ (x9_2 : Int) (x10_2 : Int), v9 = .int .i64 x9_2 ∧ v10 = .int .i64 x10_2 ∧ Aside0 (thalwegref01_Get.l0 kq l0 a1 a2 x9_2 x10_2 = some (r1, r2, r3)) ∧ Aside0 (kq ≤ kj3) ∧ Drawn0 w w')
   case atStart => exact ⟨(0), (0), (by first | rfl | (simp; done) | (simp [*]; done)), (by first | rfl | (simp; done) | (simp [*]; done)), H', ⟨Nat.le_refl _⟩, by repeat (first | exact Drawn0.refl _ | apply Drawn0.step)⟩
   case round =>
    clear H'
    try clear c2; try clear p2
    try clear c3; try clear c5
    try clear c5b0; try clear c6
    try clear c6b0; try clear p6
    try clear c7; try clear c7b0
    try clear c8; try clear c9
    try clear c9b0; try clear p2
    obtain ⟨x9_2, x10_2, rfl, rfl, HA, HK2, ⟨m2, rfl⟩⟩ := hrel
    cases gk with
    | zero => exact absurd HA.out (by simp [thalwegref01_Get.l0])
    | succ k2 =>
     have H := HA.out
     clear HA
     simp only [thalwegref01_Get.l0] at H
     by_cases c10 : x10_2 < a2
     ·rw [if_pos c10] at H
      have c10b0 : decide (x10_2 < a2) = true := decide_eq_true c10; clear c10
      obtain ⟨ji11, hji11⟩ : ∃ j_ : Int, (wrap64 (a1 + x10_2)) = j_ := ⟨_, rfl⟩
      replace H : (if 0 ≤ (ji11) then (if (ji11) < (l0.length : Int) then (thalwegref01_Get.l0 k2 l0 a1 a2 (wrap64 ((wrap64 (256 * x9_2)) + (wrap64 (rd l0 (ji11))))) (wrap64 (x10_2 + 1))) else (none)) else (none)) = some (r1, r2, r3) := by first | (rw [hji11] at H; exact H) | (simp only [hji11] at H ⊢; exact H)
      have hji11w : (IntKind.i64.wrap (a1 + x10_2)) = ji11 := (i64_w _).trans hji11
      by_cases c12 : 0 ≤ (ji11)
      rotate_left
      ·rw [if_neg c12] at H
       exact absurd H (by simp)
      rw [if_pos c12] at H; have c12b0 : decide (0 ≤ (ji11)) = true := decide_eq_true c12; clear c12
      by_cases c13 : (ji11) < (l0.length : Int)
      rotate_left
      ·rw [if_neg c13] at H
       exact absurd H (by simp)
      rw [if_pos c13] at H
      have c13b0 : decide ((ji11) < (l0.length : Int)) = true := decide_eq_true c13
      clear c13
      have H' := YA H
      clear H
      have p117 : 0 ≤ ((ji11) : Int) := of_decide_eq_true (by first | (with_reducible assumption) | assumption)
      have q117 : (ji11) < (l0.length : Int) := of_decide_eq_true (by first | (with_reducible assumption) | assumption)
      obtain ⟨ad117, e117, hx117_0⟩ := Kd.at_int HR0.out (ji11) p117 q117
      cases e117
      replace p117 := eq_true p117
      replace q117 := eq_true q117
      go_wp2
      go_roundg k2
      case measure => have := HJ3.out; have := HK2.out; omega
      case rel => exact ⟨(wrap64 ((wrap64 (256 * x9_2)) + (wrap64 (rd l0 (ji11))))), (wrap64 (x10_2 + 1)), (by first | rfl | (simp; done) | (simp only [← hji11] <;> (first | rfl | simp)) | (simp [*]; done)), (by first | rfl | (simp; done) | (simp [*]; done)), H', ⟨by have := HJ3.out; have := HK2.out; omega⟩, by repeat (first | exact Drawn0.refl _ | apply Drawn0.step)⟩
     rw [if_neg c10] at H; have c10b0 : decide (x10_2 < a2) = false := decide_eq_false c10; clear c10
     simp only [Option.some.injEq, Prod.mk.injEq] at H
     obtain ⟨rfl, rfl, rfl⟩ := H
     go_wp2
     go_ret3
     exact ⟨by first | rfl | (simp; done) | (simp [*]; done), by repeat (first | exact Drawn0.refl _ | apply Drawn0.step)⟩
end Go.Proofs.Ytaiklcpmlkpfjaa.P
namespace Go.Proofs.Ytaiklcpmlkpfjaa.P
open Go.RowKit YtaiklcpmlkpfjaaW.PrintWords YtaiklcpmlkpfjaaW.PrintLast YtaiklcpmlkpfjaaW.PrintMore
open YtaiklcpmlkpfjaaW.PrintWords renaming below_alloc → YA, pw_below_drewN → YB, below_drew1 → YC, below_step → YD, below_size → YE, blk_drewN → YF, blk_drew → YG, blk_alloc → YH, blk_cell → YI, blk_frozen → YJ, blk_below → YK
open YtaiklcpmlkpfjaaW.PrintWords.Aside0 renaming mk → YL
open List renaming map_toArray → YM, length_take → YN, length_drop → YO
open YtaiklcpmlkpfjaaW.PrintWords.Kd renaming R_alloc → YP, R_drewN → YQ, R_drew → YR
attribute [local go_sem] max2_int min2_int max_two min_two max_three min_three max_four min_four
def thalwegref06_Parse.l0 : Nat → List Int → Int → Int → Int → Int → List (S59) → Option (Int × (List (S59)) × Int × Int)
 | 0, _, _, _, _, _, _ => none
 | k + 1, x0, x1, x9, x11, x126000, x126001 => if x11 < x9 then ((thalwegref01_Get.f k x0 x1 1).bind fun bt127 => (if bt127.2.2 = 0 then ((thalwegref01_Get.f k x0 bt127.2.1 4).bind fun bt130 => (if bt130.2.2 = 0 then (if x126001.length < 8796093022208 then (thalwegref06_Parse.l0 k x0 bt130.2.1 x9 (wrap64 (x11 + 1)) x126000 (x126001 ++ [(⟨bt127.1, bt130.1⟩ : S59)])) else (none)) else (some (0, ([] : List (S59)), 0, bt130.2.2)))) else (some (0, ([] : List (S59)), 0, bt127.2.2)))) else ((thalwegref06_Right.f k x126000 x126001).bind fun t126 => (if t126 = true then (some (x126000, x126001, x1, 0)) else (some (0, ([] : List (S59)), 0, 4))))
def thalwegref06_Parse.f (k : Nat) (l0 : List Int) (a1 : Int) : Option (Int × (List (S59)) × Int × Int) := (thalwegref01_Get.f k l0 a1 4).bind fun bt119 => (if bt119.2.2 = 0 then ((thalwegref01_Get.f k l0 bt119.2.1 1).bind fun bt122 => (if bt122.2.2 = 0 then (thalwegref06_Parse.l0 k l0 bt122.2.1 bt122.1 0 bt119.1 ([] : List (S59))) else (some (0, ([] : List (S59)), 0, bt122.2.2)))) else (some (0, ([] : List (S59)), 0, bt119.2.2)))
theorem thalwegref06_Parse.mono_l : ∀ k, (∀ y0 y1 y2 y3 y4 y5, LeO (thalwegref06_Parse.l0 k y0 y1 y2 y3 y4 y5) (thalwegref06_Parse.l0 (k + 1) y0 y1 y2 y3 y4 y5))
 | 0 => fun _ _ _ _ _ _ r h => by simp [thalwegref06_Parse.l0] at h
 | k + 1 => by
  have ih0 := thalwegref06_Parse.mono_l k
  ·intro y0 y1 y2 y3 y4 y5
   unfold thalwegref06_Parse.l0
   repeat' first
   | (with_reducible exact ih0 _ _ _ _ _ _)
   | (with_reducible exact thalwegref01_Get.mono _ _ _ _)
   | (with_reducible exact thalwegref06_Right.mono _ _ _)
   | (with_reducible exact LeO.refl _)
   | (with_reducible exact LeO.none _)
   | (with_reducible refine LeO.ite ?_ ?_)
   | (with_reducible refine LeO.bind ?_ (fun _ => ?_))
   | exact ih0 _ _ _ _ _ _
   | exact thalwegref01_Get.mono _ _ _ _
   | exact thalwegref06_Right.mono _ _ _
   | exact LeO.none _
   | refine LeO.ite ?_ ?_
   | refine LeO.bind ?_ (fun _ => ?_)
theorem thalwegref06_Parse.mono : ∀ a0 a1 k, LeO (thalwegref06_Parse.f k a0 a1) (thalwegref06_Parse.f (k + 1) a0 a1) := by
 intro a0 a1 k
 have ih0 := thalwegref06_Parse.mono_l k
 unfold thalwegref06_Parse.f
 repeat' first
   | (with_reducible exact ih0 _ _ _ _ _ _)
   | (with_reducible exact thalwegref01_Get.mono _ _ _ _)
   | (with_reducible exact thalwegref06_Right.mono _ _ _)
   | (with_reducible exact LeO.refl _)
   | (with_reducible exact LeO.none _)
   | (with_reducible refine LeO.ite ?_ ?_)
   | (with_reducible refine LeO.bind ?_ (fun _ => ?_))
   | exact ih0 _ _ _ _ _ _
   | exact thalwegref01_Get.mono _ _ _ _
   | exact thalwegref06_Right.mono _ _ _
   | exact LeO.none _
   | refine LeO.ite ?_ ?_
   | refine LeO.bind ?_ (fun _ => ?_)
theorem thalwegref06_Parse.calls (k : Nat) (A0 : Option Addr) (c0 : Nat) (l0 : List Int) (a1 : Int) (r1 : Int) (r2 : List (S59)) (r3 : Int) (r4 : Int) (w : World) (hr0 : Kd.C (Kd.int .u8) w A0 l0.length l0) (hc0 : l0.length ≤ c0) (h : thalwegref06_Parse.f k l0 a1 = some (r1, r2, r3, r4)) :
  Calls Try.prog 9 #[.slice A0 l0.length c0, .int .i64 a1] w fun e w' => ∃ v1_ : Value, e = .returned (.tuple #[.agg #[.int .i64 r1, v1_], .int .i64 r3, .int .i64 r4]) ∧ Kd.R k59 59 w' w.heap.size (fun _ => True) v1_ r2 ∧ Below w.heap.size w w' := by
 have hu25 := Try.underlying25
 have hu59 := Try.underlying59
 have HR0 := YL hr0; have HC0 := YL hc0; clear hr0 hc0
 have HB := YL (Below.refl w.heap.size w)
 have H : ((thalwegref01_Get.f k l0 a1 4).bind fun bt119 => (if bt119.2.2 = 0 then ((thalwegref01_Get.f k l0 bt119.2.1 1).bind fun bt122 => (if bt122.2.2 = 0 then (thalwegref06_Parse.l0 k l0 bt122.2.1 bt122.1 0 bt119.1 ([] : List (S59))) else (some (0, ([] : List (S59)), 0, bt122.2.2)))) else (some (0, ([] : List (S59)), 0, bt119.2.2)))) = some (r1, r2, r3, r4) := h
 clear h; replace H := Option.bind_eq_some_iff.mp H
 obtain ⟨⟨t119, t120, t121⟩, A30, H⟩ := H
 replace H : (if t121 = 0 then ((thalwegref01_Get.f k l0 t120 1).bind fun bt122 => (if bt122.2.2 = 0 then (thalwegref06_Parse.l0 k l0 bt122.2.1 bt122.1 0 t119 ([] : List (S59))) else (some (0, ([] : List (S59)), 0, bt122.2.2)))) else (some (0, ([] : List (S59)), 0, t121))) = some (r1, r2, r3, r4) := H
 have A3 := YL A30; clear A30
 by_cases c4 : t121 = 0
 ·rw [if_pos c4] at H
  have c4b0 : (t121 == 0) = true := beq_iff_eq.mpr c4
  have c4b1 : (t121 != 0) = false := bne_eq_false_iff_eq.mpr c4
  clear c4; replace H := Option.bind_eq_some_iff.mp H
  obtain ⟨⟨t122, t123, t124⟩, A50, H⟩ := H
  replace H : (if t124 = 0 then (thalwegref06_Parse.l0 k l0 t123 t122 0 t119 ([] : List (S59))) else (some (0, ([] : List (S59)), 0, t124))) = some (r1, r2, r3, r4) := H
  have A5 := YL A50; clear A50
  by_cases c6 : t124 = 0
  ·rw [if_pos c6] at H
   have c6b0 : (t124 == 0) = true := beq_iff_eq.mpr c6
   have c6b1 : (t124 != 0) = false := bne_eq_false_iff_eq.mpr c6
   clear c6
   have H' := YL H
   clear H
   go_enter Try.func9, Try.ntmps9
   go_wp2_with (first | ((with_reducible refine gate_dst (N := 4) rfl ?_); refine box_event ?hg (N := 4) ?hd (cs := #[.int .i64 0, .slice none 0 0]) (t := 25) ?hr ?_; (case hd => rfl); (case hg => rfl); (case hr => first | (go_simp; done) | (go_simp; rfl)); intro gb118 hg w7 hbox hb; have n0_ := YL (YD (by repeat (first | (with_reducible first | exact HB.out | apply YA | apply YB | apply YC) | exact HB.out)) hb); have n1_ := YL (hbox); have n2_ := YL ((by rw [hg]; exact (YE (by repeat (first | (with_reducible first | exact HB.out | apply YA | apply YB | apply YC) | exact HB.out))) : w.heap.size ≤ gb118)); have n3_ := YL ((by rw [hg]; exact (YE (by repeat (first | (with_reducible first | exact HB.out | apply YA | apply YB | apply YC) | exact HB.out))) : w.heap.size ≤ gb118)); clear HB; have HB := n0_; have BK118 := n1_; have GW118 := n2_; have GE118 := n3_; clear n0_ n1_ n2_ n3_; clear hb hbox hg) | ((with_reducible refine gate_callee (f := 26) rfl ?_); refine goesL_ (some 19) rfl rfl Try.func26 (by kernel_rfl) rfl #[.slice A0 l0.length c0, .int .i64 a1, .int .i64 4] rfl (by (try simp only [YM, List.map_cons, List.map_nil]); first | done | rfl | (simp only [YO, YN]; rfl)) ?_; (with_reducible refine (thalwegref01_Get.calls k _ _ l0 a1 4 t119 t120 t121 _ ?side1 ?side2 A3.out).mono ?_); (case side1 => repeat (first | exact (Kd.C_below HR0.out HB.out) | (with_reducible refine Kd.C_alloc ?_ _) | (with_reducible refine Kd.C_drewN ?_ _) | (with_reducible refine Kd.C_drew ?_))); (case side2 => exact HC0.out); rintro e w' ⟨rfl, ⟨nd, rfl⟩⟩; refine ⟨_, rfl, ?_⟩; (try (rw [drewN_self w7]; generalize hq_ : World.drewN w7 _ = w7; have n0_ : Aside0 (w7.heap[gb118]? = some (.cells #[.int .i64 0, .slice none 0 0] 25 (0, 0))) := ⟨by rw [← hq_]; exact (by (with_reducible repeat (first | refine YF ?_ _ | refine YG ?_ | refine YH ?_ _)); exact BK118.out)⟩; have n1_ : Aside0 (Below w.heap.size w w7) := ⟨by rw [← hq_]; exact (by repeat (first | (with_reducible first | exact HB.out | apply YA | apply YB | apply YC | refine below_set ?_ GE118.out) | exact HB.out))⟩; clear BK118 HB hq_; have BK118 := n0_; have HB := n1_; clear n0_ n1_))) | ((with_reducible refine gate_callee (f := 26) rfl ?_); refine goesL_ (some 30) rfl rfl Try.func26 (by kernel_rfl) rfl #[.slice A0 l0.length c0, .int .i64 t120, .int .i64 1] rfl (by (try simp only [YM, List.map_cons, List.map_nil]); first | done | rfl | (simp only [YO, YN]; rfl)) ?_; (with_reducible refine (thalwegref01_Get.calls k _ _ l0 t120 1 t122 t123 t124 _ ?side1 ?side2 A5.out).mono ?_); (case side1 => repeat (first | exact (Kd.C_below HR0.out HB.out) | (with_reducible refine Kd.C_alloc ?_ _) | (with_reducible refine Kd.C_drewN ?_ _) | (with_reducible refine Kd.C_drew ?_))); (case side2 => exact HC0.out); rintro e w' ⟨rfl, ⟨nd, rfl⟩⟩; refine ⟨_, rfl, ?_⟩; (try (rw [drewN_self w7]; generalize hq_ : World.drewN w7 _ = w7; have n0_ : Aside0 (w7.heap[gb118]? = some (.cells #[.int .i64 0, .slice none 0 0] 25 (0, 0))) := ⟨by rw [← hq_]; exact (by (with_reducible repeat (first | refine YF ?_ _ | refine YG ?_ | refine YH ?_ _)); exact BK118.out)⟩; have n1_ : Aside0 (Below w.heap.size w w7) := ⟨by rw [← hq_]; exact (by repeat (first | (with_reducible first | exact HB.out | apply YA | apply YB | apply YC | refine below_set ?_ GE118.out) | exact HB.out))⟩; clear BK118 HB hq_; have BK118 := n0_; have HB := n1_; clear n0_ n1_))) | ((with_reducible refine gate_dst (N := 10) rfl ?_); refine box_event ?hg (N := 10) ?hd (cs := #[.int .i64 0, .slice none 0 0]) (t := 25) ?hr ?_; (case hd => rfl); (case hg => rfl); (case hr => first | (go_simp; done) | (go_simp; rfl)); intro gb125 hg w8 hbox hb; have n0_ := YL (YK (g := gb118) (o := .cells #[.int .i64 0, .slice none 0 0] 25 (0, 0)) (by (with_reducible repeat (first | refine YF ?_ _ | refine YG ?_ | refine YH ?_ _)); exact BK118.out) hb); have n1_ := YL (YD (by repeat (first | (with_reducible first | exact HB.out | apply YA | apply YB | apply YC | refine below_set ?_ GE118.out) | exact HB.out)) hb); have n2_ := YL (hbox); have n3_ := YL ((by rw [hg]; exact (YE (by repeat (first | (with_reducible first | exact HB.out | apply YA | apply YB | apply YC | refine below_set ?_ GE118.out) | exact HB.out))) : w.heap.size ≤ gb125)); have n4_ := YL ((by rw [hg]; exact (YE (by repeat (first | (with_reducible first | exact HB.out | apply YA | apply YB | apply YC | refine below_set ?_ GE118.out) | exact HB.out))) : w.heap.size ≤ gb125)); have n5_ := YL ((by rw [hg]; exact Nat.ne_of_lt (blk_lt (g := gb118) (o := .cells #[.int .i64 0, .slice none 0 0] 25 (0, 0)) (by (with_reducible repeat (first | refine YF ?_ _ | refine YG ?_ | refine YH ?_ _)); exact BK118.out)) : gb118 ≠ gb125)); have n6_ := YL ((by rw [hg]; exact Nat.ne_of_gt (blk_lt (g := gb118) (o := .cells #[.int .i64 0, .slice none 0 0] 25 (0, 0)) (by (with_reducible repeat (first | refine YF ?_ _ | refine YG ?_ | refine YH ?_ _)); exact BK118.out)) : gb125 ≠ gb118)); clear BK118; clear HB; have BK118 := n0_; have HB := n1_; have BK125 := n2_; have GW125 := n3_; have GE125 := n4_; have NB118_125 := n5_; have NB125_118 := n6_; clear n0_ n1_ n2_ n3_ n4_ n5_ n6_; clear hb hbox hg; have hnb9 := NB125_118.out; have hnc9 := NB118_125.out; have q10_0 : w8.cell? ⟨gb125, 0, none⟩ = some (.int .i64 0) := (YI BK125.out 0).trans rfl; have q10_1 : w8.cell? ⟨gb125, 1, none⟩ = some (.slice none 0 0) := (YI BK125.out 1).trans rfl; have f10_0 := YJ BK125.out 0; have f10_1 := YJ BK125.out 1))
   go_loopg [1, 11] k (fun kq v1 v11 w' => ∃ (x1_1 : Int) (x11_1 : Int) (x119000_1 : Int) (x126001_1 : List (S59)) (u126001 : Value), v1 = .int .i64 x1_1 ∧ v11 = .int .i64 x11_1 ∧ Aside0 (thalwegref06_Parse.l0 kq l0 x1_1 t122 x11_1 t119 x126001_1 = some (r1, r2, r3, r4)) ∧ Aside0 (kq ≤ k) ∧ Aside0 (Kd.R k59 59 w' w.heap.size (fun _ => True) u126001 x126001_1) ∧ Aside0 (w'.heap[gb118]? = some (.cells #[.int .i64 x119000_1, (.slice none 0 0)] 25 (0, 0))) ∧ Aside0 (w'.heap[gb125]? = some (.cells #[.int .i64 t119, u126001] 25 (0, 0))) ∧ Aside0 (Below w.heap.size w w'))
   case atStart => exact ⟨(t123), (0), (0), (([] : List (S59))), (.slice none 0 0), (by first | rfl | (simp; done) | (simp [*]; done)), (by first | rfl | (simp; done) | (simp [*]; done)), H', ⟨Nat.le_refl _⟩, ⟨by first | exact Kd.R_nil _ _ _ _ _ | exact Kd.N_nil _ _ _ _ _ | exact Kd.V_nil _ _ _ _ _ | exact Kd.Q_nil _ _ _ _ _ | exact Kd.S_nil _ _ _ _ _⟩, ⟨by (with_reducible repeat (first | refine YF ?_ _ | refine YG ?_ | refine YH ?_ _)); refine blk_far ?_ NB118_125.out _; (with_reducible repeat (first | refine YF ?_ _ | refine YG ?_ | refine YH ?_ _)); refine blk_far ?_ NB118_125.out _; (with_reducible repeat (first | refine YF ?_ _ | refine YG ?_ | refine YH ?_ _)); exact BK118.out⟩, ⟨by (with_reducible repeat (first | refine YF ?_ _ | refine YG ?_ | refine YH ?_ _)); refine blk_put (cs := #[.int .i64 t119, .slice none 0 0]) ?_ 1 _ rfl; (with_reducible repeat (first | refine YF ?_ _ | refine YG ?_ | refine YH ?_ _)); refine blk_put (cs := #[.int .i64 0, .slice none 0 0]) ?_ 0 _ rfl; (with_reducible repeat (first | refine YF ?_ _ | refine YG ?_ | refine YH ?_ _)); exact BK125.out⟩, ⟨by repeat (first | (with_reducible first | exact HB.out | apply YA | apply YB | apply YC | refine below_set ?_ GE118.out | refine below_set ?_ GE125.out) | exact HB.out)⟩⟩
   case round =>
    clear H'
    try clear c2; try clear p2
    try clear c4; try clear c4b0
    try clear c4b1; try clear c6
    try clear c6b0; try clear c6b1
    try clear c9; try clear q10_0
    try clear q10_1; try clear f10_0; try clear f10_1
    obtain ⟨x1_1, x11_1, x119000_1, x126001_1, u126001, rfl, rfl, HA, HK1, HO_126001, BK118, BK125, HB⟩ := hrel
    cases gk with
    | zero => exact absurd HA.out (by simp [thalwegref06_Parse.l0])
    | succ k1 =>
     have H := HA.out
     clear HA
     simp only [thalwegref06_Parse.l0] at H
     by_cases c11 : x11_1 < t122
     ·rw [if_pos c11] at H
      have c11b0 : decide (x11_1 < t122) = true := decide_eq_true c11; clear c11; replace H := Option.bind_eq_some_iff.mp H
      obtain ⟨⟨t127, t128, t129⟩, A120, H⟩ := H
      replace H : (if t129 = 0 then ((thalwegref01_Get.f k1 l0 t128 4).bind fun bt130 => (if bt130.2.2 = 0 then (if x126001_1.length < 8796093022208 then (thalwegref06_Parse.l0 k1 l0 bt130.2.1 t122 (wrap64 (x11_1 + 1)) t119 (x126001_1 ++ [(⟨t127, bt130.1⟩ : S59)])) else (none)) else (some (0, ([] : List (S59)), 0, bt130.2.2)))) else (some (0, ([] : List (S59)), 0, t129))) = some (r1, r2, r3, r4) := H
      have A12 := YL A120; clear A120
      by_cases c13 : t129 = 0
      ·rw [if_pos c13] at H
       have c13b0 : (t129 == 0) = true := beq_iff_eq.mpr c13
       have c13b1 : (t129 != 0) = false := bne_eq_false_iff_eq.mpr c13
       clear c13; replace H := Option.bind_eq_some_iff.mp H
       obtain ⟨⟨t130, t131, t132⟩, A140, H⟩ := H
       replace H : (if t132 = 0 then (if x126001_1.length < 8796093022208 then (thalwegref06_Parse.l0 k1 l0 t131 t122 (wrap64 (x11_1 + 1)) t119 (x126001_1 ++ [(⟨t127, t130⟩ : S59)])) else (none)) else (some (0, ([] : List (S59)), 0, t132))) = some (r1, r2, r3, r4) := H
       have A14 := YL A140; clear A140
       by_cases c15 : t132 = 0
       ·rw [if_pos c15] at H
        have c15b0 : (t132 == 0) = true := beq_iff_eq.mpr c15
        have c15b1 : (t132 != 0) = false := bne_eq_false_iff_eq.mpr c15
        clear c15
        by_cases c16 : x126001_1.length < 8796093022208
        rotate_left
        ·rw [if_neg c16] at H
         exact absurd H (by simp)
        rw [if_pos c16] at H; have LMc16 := YL c16; clear c16
        obtain ⟨y133, hy133⟩ : ∃ y_ : List (S59), y_ = (x126001_1 ++ [(⟨t127, t130⟩ : S59)]) := ⟨_, rfl⟩
        replace H : (thalwegref06_Parse.l0 k1 l0 t131 t122 (wrap64 (x11_1 + 1)) t119 y133) = some (r1, r2, r3, r4) := by first | (rw [hy133]; with_reducible exact H) | (have H2_ := (Option.bind_some _ _).symm.trans H; rw [hy133]; with_reducible exact H2_) | (have H2_ := (Option.bind_some _ _).symm.trans H; with_reducible exact H2_) | with_reducible exact H | (rw [hy133]; exact H) | exact H
        have Ny133 := YL hy133; clear hy133
        have H' := YL H
        clear H
        go_wp2_with (first | ((with_reducible refine gate_callee (f := 26) rfl ?_); refine goesL_ (some 48) rfl rfl Try.func26 (by kernel_rfl) rfl #[.slice A0 l0.length c0, .int .i64 x1_1, .int .i64 1] rfl (by (try simp only [YM, List.map_cons, List.map_nil]); first | done | rfl | (simp only [YO, YN]; rfl)) ?_; (with_reducible refine (thalwegref01_Get.calls k1 _ _ l0 x1_1 1 t127 t128 t129 _ ?side1 ?side2 A12.out).mono ?_); (case side1 => repeat (first | exact (Kd.C_below HR0.out HB.out) | (with_reducible refine Kd.C_alloc ?_ _) | (with_reducible refine Kd.C_drewN ?_ _) | (with_reducible refine Kd.C_drew ?_))); (case side2 => exact HC0.out); rintro e w' ⟨rfl, ⟨nd, rfl⟩⟩; refine ⟨_, rfl, ?_⟩; (try (rw [drewN_self wr]; generalize hq_ : World.drewN wr _ = wr; have n0_ : Aside0 (Kd.R k59 59 wr w.heap.size (fun _ => True) u126001 x126001_1) := ⟨by rw [← hq_]; exact (by (with_reducible repeat (first | apply YP | apply YQ | apply YR)); exact HO_126001.out)⟩; have n1_ : Aside0 (wr.heap[gb118]? = some (.cells #[.int .i64 x119000_1, .slice none 0 0] 25 (0, 0))) := ⟨by rw [← hq_]; exact (by (with_reducible repeat (first | refine YF ?_ _ | refine YG ?_ | refine YH ?_ _)); exact BK118.out)⟩; have n2_ : Aside0 (wr.heap[gb125]? = some (.cells #[.int .i64 t119, u126001] 25 (0, 0))) := ⟨by rw [← hq_]; exact (by (with_reducible repeat (first | refine YF ?_ _ | refine YG ?_ | refine YH ?_ _)); exact BK125.out)⟩; have n3_ : Aside0 (Below w.heap.size w wr) := ⟨by rw [← hq_]; exact (by repeat (first | (with_reducible first | exact HB.out | apply YA | apply YB | apply YC | refine below_set ?_ GE118.out | refine below_set ?_ GE125.out) | exact HB.out))⟩; clear HO_126001 BK118 BK125 HB hq_; have HO_126001 := n0_; have BK118 := n1_; have BK125 := n2_; have HB := n3_; clear n0_ n1_ n2_ n3_))) | ((with_reducible refine gate_callee (f := 26) rfl ?_); refine goesL_ (some 59) rfl rfl Try.func26 (by kernel_rfl) rfl #[.slice A0 l0.length c0, .int .i64 t128, .int .i64 4] rfl (by (try simp only [YM, List.map_cons, List.map_nil]); first | done | rfl | (simp only [YO, YN]; rfl)) ?_; (with_reducible refine (thalwegref01_Get.calls k1 _ _ l0 t128 4 t130 t131 t132 _ ?side1 ?side2 A14.out).mono ?_); (case side1 => repeat (first | exact (Kd.C_below HR0.out HB.out) | (with_reducible refine Kd.C_alloc ?_ _) | (with_reducible refine Kd.C_drewN ?_ _) | (with_reducible refine Kd.C_drew ?_))); (case side2 => exact HC0.out); rintro e w' ⟨rfl, ⟨nd, rfl⟩⟩; refine ⟨_, rfl, ?_⟩; (try (rw [drewN_self wr]; generalize hq_ : World.drewN wr _ = wr; have n0_ : Aside0 (Kd.R k59 59 wr w.heap.size (fun _ => True) u126001 x126001_1) := ⟨by rw [← hq_]; exact (by (with_reducible repeat (first | apply YP | apply YQ | apply YR)); exact HO_126001.out)⟩; have n1_ : Aside0 (wr.heap[gb118]? = some (.cells #[.int .i64 x119000_1, .slice none 0 0] 25 (0, 0))) := ⟨by rw [← hq_]; exact (by (with_reducible repeat (first | refine YF ?_ _ | refine YG ?_ | refine YH ?_ _)); exact BK118.out)⟩; have n2_ : Aside0 (wr.heap[gb125]? = some (.cells #[.int .i64 t119, u126001] 25 (0, 0))) := ⟨by rw [← hq_]; exact (by (with_reducible repeat (first | refine YF ?_ _ | refine YG ?_ | refine YH ?_ _)); exact BK125.out)⟩; have n3_ : Aside0 (Below w.heap.size w wr) := ⟨by rw [← hq_]; exact (by repeat (first | (with_reducible first | exact HB.out | apply YA | apply YB | apply YC | refine below_set ?_ GE118.out | refine below_set ?_ GE125.out) | exact HB.out))⟩; clear HO_126001 BK118 BK125 HB hq_; have HO_126001 := n0_; have BK118 := n1_; have BK125 := n2_; have HB := n3_; clear n0_ n1_ n2_ n3_)); have hnb17 := NB125_118.out; have hnc17 := NB118_125.out; have q18_0 : wr.cell? ⟨gb125, 0, none⟩ = some (.int .i64 t119) := (YI BK125.out 0).trans rfl; have q18_1 : wr.cell? ⟨gb125, 1, none⟩ = some (u126001) := (YI BK125.out 1).trans rfl; have f18_0 := YJ BK125.out 0; have f18_1 := YJ BK125.out 1) | ((with_reducible refine gate_builtin (b := .append) (xs := #[.tmp 68, .tmp 72]) rfl ?_); at_builtin; refine Kd.R_append k59 (w0 := w) w.heap.size rfl (.tmp 68) (.tmp 72) 23 59 (.agg #[(.int .i64 0), (.int .i64 0)]) 16 rfl Try.underlying23 info59 rfl (by decide) (by omega) u126001 x126001_1 (⟨t127, t130⟩ : S59) [.int .i64 t127, .int .i64 t130] (fun _ => True) (fun _ => False) rfl rfl ?aP (fun _ hk => hk.elim) ?aF ?aO ?aB ?aS ?aL ?_; (case aP => exact k59_mkM _ _ _ (⟨t127, t130⟩ : S59)); (case aB => exact (by repeat (first | (with_reducible first | exact HB.out | apply YA | apply YB | apply YC | refine below_set ?_ GE118.out | refine below_set ?_ GE125.out) | exact HB.out))); (case aF => exact (fun _ _ => trivial)); (case aO => exact (by (with_reducible repeat (first | apply YP | apply YQ | apply YR)); exact HO_126001.out)); (case aS => exact (YE (by repeat (first | (with_reducible first | exact HB.out | apply YA | apply YB | apply YC | refine below_set ?_ GE118.out | refine below_set ?_ GE125.out) | exact HB.out)))); (case aL => have := LMc16.out; omega); intro v134 w19 ho hb hg hat; rw [← Ny133.out] at ho; have n0_ := YL (blk_grown (g := gb118) (o := .cells #[.int .i64 x119000_1, .slice none 0 0] 25 (0, 0)) (by (with_reducible repeat (first | refine YF ?_ _ | refine YG ?_ | refine YH ?_ _)); exact BK118.out) hg (Kd.R_ne HO_126001.out BK118.out (by decide))); have n1_ := YL (blk_grown (g := gb125) (o := .cells #[.int .i64 t119, u126001] 25 (0, 0)) (by (with_reducible repeat (first | refine YF ?_ _ | refine YG ?_ | refine YH ?_ _)); exact BK125.out) hg (Kd.R_ne HO_126001.out BK125.out (by decide))); have n2_ := YL (hb); have n3_ := YL (ho); clear BK118; clear BK125; clear HB; clear HO_126001; have BK118 := n0_; have BK125 := n1_; have HB := n2_; have HO135 := n3_; clear n0_ n1_ n2_ n3_; clear ho hb hg hat; obtain ⟨Ao20, co20, eo20⟩ := Kd.R_slice HO135.out; subst eo20; have q21_0 : w19.cell? ⟨gb125, 0, none⟩ = some (.int .i64 t119) := (YI BK125.out 0).trans rfl; have q21_1 : w19.cell? ⟨gb125, 1, none⟩ = some (u126001) := (YI BK125.out 1).trans rfl; have f21_0 := YJ BK125.out 0; have f21_1 := YJ BK125.out 1))
        go_roundg k1
        case measure => have := HK1.out; omega
        case rel => exact ⟨(t131), (wrap64 (x11_1 + 1)), (x119000_1), (y133), (.slice Ao20 y133.length co20), (by first | rfl | (simp; done) | (simp [*]; done)), (by first | rfl | (simp; done) | (simp [*]; done)), H', ⟨by have := HK1.out; omega⟩, ⟨by (with_reducible repeat (first | apply YP | apply YQ | apply YR)); exact Kd.R_mono (Kd.R_far (p := ⟨gb125, 1, none⟩) (Kd.R_types HO135.out BK125.out (by decide)) (fun _ hk => hk.2) (.slice Ao20 y133.length co20)) (fun _ hk => trivial)⟩, ⟨by (with_reducible repeat (first | refine YF ?_ _ | refine YG ?_ | refine YH ?_ _)); refine blk_far ?_ NB118_125.out _; (with_reducible repeat (first | refine YF ?_ _ | refine YG ?_ | refine YH ?_ _)); exact BK118.out⟩, ⟨by (with_reducible repeat (first | refine YF ?_ _ | refine YG ?_ | refine YH ?_ _)); refine blk_put (cs := #[.int .i64 t119, u126001]) ?_ 1 _ rfl; (with_reducible repeat (first | refine YF ?_ _ | refine YG ?_ | refine YH ?_ _)); exact BK125.out⟩, ⟨by repeat (first | (with_reducible first | exact HB.out | apply YA | apply YB | apply YC | refine below_set ?_ GE118.out | refine below_set ?_ GE125.out) | exact HB.out)⟩⟩
       rw [if_neg c15] at H
       have c15b0 : (t132 == 0) = false := beq_eq_false_iff_ne.mpr c15
       have c15b1 : (t132 != 0) = true := bne_iff_ne.mpr c15
       simp only [Option.some.injEq, Prod.mk.injEq] at H
       obtain ⟨rfl, rfl, rfl, rfl⟩ := H
       go_wp2_with (first | ((with_reducible refine gate_callee (f := 26) rfl ?_); refine goesL_ (some 48) rfl rfl Try.func26 (by kernel_rfl) rfl #[.slice A0 l0.length c0, .int .i64 x1_1, .int .i64 1] rfl (by (try simp only [YM, List.map_cons, List.map_nil]); first | done | rfl | (simp only [YO, YN]; rfl)) ?_; (with_reducible refine (thalwegref01_Get.calls k1 _ _ l0 x1_1 1 t127 t128 t129 _ ?side1 ?side2 A12.out).mono ?_); (case side1 => repeat (first | exact (Kd.C_below HR0.out HB.out) | (with_reducible refine Kd.C_alloc ?_ _) | (with_reducible refine Kd.C_drewN ?_ _) | (with_reducible refine Kd.C_drew ?_))); (case side2 => exact HC0.out); rintro e w' ⟨rfl, ⟨nd, rfl⟩⟩; refine ⟨_, rfl, ?_⟩; (try (rw [drewN_self wr]; generalize hq_ : World.drewN wr _ = wr; have n0_ : Aside0 (Kd.R k59 59 wr w.heap.size (fun _ => True) u126001 x126001_1) := ⟨by rw [← hq_]; exact (by (with_reducible repeat (first | apply YP | apply YQ | apply YR)); exact HO_126001.out)⟩; have n1_ : Aside0 (wr.heap[gb118]? = some (.cells #[.int .i64 x119000_1, .slice none 0 0] 25 (0, 0))) := ⟨by rw [← hq_]; exact (by (with_reducible repeat (first | refine YF ?_ _ | refine YG ?_ | refine YH ?_ _)); exact BK118.out)⟩; have n2_ : Aside0 (wr.heap[gb125]? = some (.cells #[.int .i64 t119, u126001] 25 (0, 0))) := ⟨by rw [← hq_]; exact (by (with_reducible repeat (first | refine YF ?_ _ | refine YG ?_ | refine YH ?_ _)); exact BK125.out)⟩; have n3_ : Aside0 (Below w.heap.size w wr) := ⟨by rw [← hq_]; exact (by repeat (first | (with_reducible first | exact HB.out | apply YA | apply YB | apply YC | refine below_set ?_ GE118.out | refine below_set ?_ GE125.out) | exact HB.out))⟩; clear HO_126001 BK118 BK125 HB hq_; have HO_126001 := n0_; have BK118 := n1_; have BK125 := n2_; have HB := n3_; clear n0_ n1_ n2_ n3_))) | ((with_reducible refine gate_callee (f := 26) rfl ?_); refine goesL_ (some 59) rfl rfl Try.func26 (by kernel_rfl) rfl #[.slice A0 l0.length c0, .int .i64 t128, .int .i64 4] rfl (by (try simp only [YM, List.map_cons, List.map_nil]); first | done | rfl | (simp only [YO, YN]; rfl)) ?_; (with_reducible refine (thalwegref01_Get.calls k1 _ _ l0 t128 4 t130 t131 t132 _ ?side1 ?side2 A14.out).mono ?_); (case side1 => repeat (first | exact (Kd.C_below HR0.out HB.out) | (with_reducible refine Kd.C_alloc ?_ _) | (with_reducible refine Kd.C_drewN ?_ _) | (with_reducible refine Kd.C_drew ?_))); (case side2 => exact HC0.out); rintro e w' ⟨rfl, ⟨nd, rfl⟩⟩; refine ⟨_, rfl, ?_⟩; (try (rw [drewN_self wr]; generalize hq_ : World.drewN wr _ = wr; have n0_ : Aside0 (Kd.R k59 59 wr w.heap.size (fun _ => True) u126001 x126001_1) := ⟨by rw [← hq_]; exact (by (with_reducible repeat (first | apply YP | apply YQ | apply YR)); exact HO_126001.out)⟩; have n1_ : Aside0 (wr.heap[gb118]? = some (.cells #[.int .i64 x119000_1, .slice none 0 0] 25 (0, 0))) := ⟨by rw [← hq_]; exact (by (with_reducible repeat (first | refine YF ?_ _ | refine YG ?_ | refine YH ?_ _)); exact BK118.out)⟩; have n2_ : Aside0 (wr.heap[gb125]? = some (.cells #[.int .i64 t119, u126001] 25 (0, 0))) := ⟨by rw [← hq_]; exact (by (with_reducible repeat (first | refine YF ?_ _ | refine YG ?_ | refine YH ?_ _)); exact BK125.out)⟩; have n3_ : Aside0 (Below w.heap.size w wr) := ⟨by rw [← hq_]; exact (by repeat (first | (with_reducible first | exact HB.out | apply YA | apply YB | apply YC | refine below_set ?_ GE118.out | refine below_set ?_ GE125.out) | exact HB.out))⟩; clear HO_126001 BK118 BK125 HB hq_; have HO_126001 := n0_; have BK118 := n1_; have BK125 := n2_; have HB := n3_; clear n0_ n1_ n2_ n3_)); have hnb22 := NB118_125.out; have hnc22 := NB125_118.out; have q23_0 : wr.cell? ⟨gb118, 0, none⟩ = some (.int .i64 x119000_1) := (YI BK118.out 0).trans rfl; have q23_1 : wr.cell? ⟨gb118, 1, none⟩ = some (.slice none 0 0) := (YI BK118.out 1).trans rfl; have f23_0 := YJ BK118.out 0; have f23_1 := YJ BK118.out 1))
       refine bodyPost_ret (results_ctt rfl _ _ gb118 25 #[.int .i64 0, .slice none 0 0] (0, 0) _ rfl (by (with_reducible repeat (first | refine YF ?_ _ | refine YG ?_ | refine YH ?_ _)); refine blk_put (cs := #[.int .i64 0, .slice none 0 0]) ?_ 1 _ rfl; (with_reducible repeat (first | refine YF ?_ _ | refine YG ?_ | refine YH ?_ _)); refine blk_put (cs := #[.int .i64 x119000_1, .slice none 0 0]) ?_ 0 _ rfl; (with_reducible repeat (first | refine YF ?_ _ | refine YG ?_ | refine YH ?_ _)); exact BK118.out) Try.underlying25 rfl (by kernel_rfl)) rfl ?_
       exact ⟨_, by first | rfl | (simp [errW_none, errW_some] <;> rfl) | (simp [*, errW_none, errW_some] <;> rfl), by first | exact Kd.R_nil _ _ _ _ _ | exact Kd.N_nil _ _ _ _ _ | exact Kd.V_nil _ _ _ _ _ | exact Kd.Q_nil _ _ _ _ _ | exact Kd.S_nil _ _ _ _ _, by repeat (first | (with_reducible first | exact HB.out | apply YA | apply YB | apply YC | refine below_set ?_ GE118.out | refine below_set ?_ GE125.out) | exact HB.out)⟩
      rw [if_neg c13] at H
      have c13b0 : (t129 == 0) = false := beq_eq_false_iff_ne.mpr c13
      have c13b1 : (t129 != 0) = true := bne_iff_ne.mpr c13
      simp only [Option.some.injEq, Prod.mk.injEq] at H
      obtain ⟨rfl, rfl, rfl, rfl⟩ := H
      go_wp2_with (first | ((with_reducible refine gate_callee (f := 26) rfl ?_); refine goesL_ (some 48) rfl rfl Try.func26 (by kernel_rfl) rfl #[.slice A0 l0.length c0, .int .i64 x1_1, .int .i64 1] rfl (by (try simp only [YM, List.map_cons, List.map_nil]); first | done | rfl | (simp only [YO, YN]; rfl)) ?_; (with_reducible refine (thalwegref01_Get.calls k1 _ _ l0 x1_1 1 t127 t128 t129 _ ?side1 ?side2 A12.out).mono ?_); (case side1 => repeat (first | exact (Kd.C_below HR0.out HB.out) | (with_reducible refine Kd.C_alloc ?_ _) | (with_reducible refine Kd.C_drewN ?_ _) | (with_reducible refine Kd.C_drew ?_))); (case side2 => exact HC0.out); rintro e w' ⟨rfl, ⟨nd, rfl⟩⟩; refine ⟨_, rfl, ?_⟩; (try (rw [drewN_self wr]; generalize hq_ : World.drewN wr _ = wr; have n0_ : Aside0 (Kd.R k59 59 wr w.heap.size (fun _ => True) u126001 x126001_1) := ⟨by rw [← hq_]; exact (by (with_reducible repeat (first | apply YP | apply YQ | apply YR)); exact HO_126001.out)⟩; have n1_ : Aside0 (wr.heap[gb118]? = some (.cells #[.int .i64 x119000_1, .slice none 0 0] 25 (0, 0))) := ⟨by rw [← hq_]; exact (by (with_reducible repeat (first | refine YF ?_ _ | refine YG ?_ | refine YH ?_ _)); exact BK118.out)⟩; have n2_ : Aside0 (wr.heap[gb125]? = some (.cells #[.int .i64 t119, u126001] 25 (0, 0))) := ⟨by rw [← hq_]; exact (by (with_reducible repeat (first | refine YF ?_ _ | refine YG ?_ | refine YH ?_ _)); exact BK125.out)⟩; have n3_ : Aside0 (Below w.heap.size w wr) := ⟨by rw [← hq_]; exact (by repeat (first | (with_reducible first | exact HB.out | apply YA | apply YB | apply YC | refine below_set ?_ GE118.out | refine below_set ?_ GE125.out) | exact HB.out))⟩; clear HO_126001 BK118 BK125 HB hq_; have HO_126001 := n0_; have BK118 := n1_; have BK125 := n2_; have HB := n3_; clear n0_ n1_ n2_ n3_)); have hnb24 := NB118_125.out; have hnc24 := NB125_118.out; have q25_0 : wr.cell? ⟨gb118, 0, none⟩ = some (.int .i64 x119000_1) := (YI BK118.out 0).trans rfl; have q25_1 : wr.cell? ⟨gb118, 1, none⟩ = some (.slice none 0 0) := (YI BK118.out 1).trans rfl; have f25_0 := YJ BK118.out 0; have f25_1 := YJ BK118.out 1))
      refine bodyPost_ret (results_ctt rfl _ _ gb118 25 #[.int .i64 0, .slice none 0 0] (0, 0) _ rfl (by (with_reducible repeat (first | refine YF ?_ _ | refine YG ?_ | refine YH ?_ _)); refine blk_put (cs := #[.int .i64 0, .slice none 0 0]) ?_ 1 _ rfl; (with_reducible repeat (first | refine YF ?_ _ | refine YG ?_ | refine YH ?_ _)); refine blk_put (cs := #[.int .i64 x119000_1, .slice none 0 0]) ?_ 0 _ rfl; (with_reducible repeat (first | refine YF ?_ _ | refine YG ?_ | refine YH ?_ _)); exact BK118.out) Try.underlying25 rfl (by kernel_rfl)) rfl ?_
      exact ⟨_, by first | rfl | (simp [errW_none, errW_some] <;> rfl) | (simp [*, errW_none, errW_some] <;> rfl), by first | exact Kd.R_nil _ _ _ _ _ | exact Kd.N_nil _ _ _ _ _ | exact Kd.V_nil _ _ _ _ _ | exact Kd.Q_nil _ _ _ _ _ | exact Kd.S_nil _ _ _ _ _, by repeat (first | (with_reducible first | exact HB.out | apply YA | apply YB | apply YC | refine below_set ?_ GE118.out | refine below_set ?_ GE125.out) | exact HB.out)⟩
     rw [if_neg c11] at H; have c11b0 : decide (x11_1 < t122) = false := decide_eq_false c11; clear c11; replace H := Option.bind_eq_some_iff.mp H; obtain ⟨t126, A260, H⟩ := H
     replace H : (if t126 = true then (some (t119, x126001_1, x1_1, 0)) else (some (0, ([] : List (S59)), 0, 4))) = some (r1, r2, r3, r4) := H
     have A26 := YL A260; clear A260
     by_cases c27 : t126 = true
     ·subst c27
      have H1 : (some (t119, x126001_1, x1_1, 0)) = some (r1, r2, r3, r4) := by rw [if_pos rfl] at H; exact H
      clear H
      have H := H1
      clear H1
      simp only [Option.some.injEq, Prod.mk.injEq] at H
      obtain ⟨rfl, rfl, rfl, rfl⟩ := H
      have hnb28 := NB125_118.out
      have hnc28 := NB118_125.out
      have q29_0 : wr.cell? ⟨gb125, 0, none⟩ = some (.int .i64 t119) := (YI BK125.out 0).trans rfl
      have q29_1 : wr.cell? ⟨gb125, 1, none⟩ = some (u126001) := (YI BK125.out 1).trans rfl
      have f29_0 := YJ BK125.out 0
      have f29_1 := YJ BK125.out 1
      obtain ⟨Ao30, co30, eo30⟩ := Kd.R_slice HO_126001.out
      subst eo30
      go_wp2_with (first | ((with_reducible refine gate_callee (f := 23) rfl ?_); refine goesL_ (some 77) rfl rfl Try.func23 (by kernel_rfl) rfl #[.agg #[.int .i64 t119, .slice Ao30 x126001_1.length co30]] rfl (by (try simp only [YM, List.map_cons, List.map_nil]); first | done | rfl | (simp only [YO, YN]; rfl)) ?_; (with_reducible refine (thalwegref06_Right.calls k1 t119 _ _ x126001_1 true _ ?side1 ?side2 A26.out).mono ?_); (case side1 => repeat (first | exact (Kd.R_reads' HO_126001.out).2.2 | (with_reducible refine Kd.C_alloc ?_ _) | (with_reducible refine Kd.C_drewN ?_ _) | (with_reducible refine Kd.C_drew ?_))); (case side2 => exact (Kd.R_reads' HO_126001.out).2.1); rintro e w31 ⟨rfl, hb⟩; refine ⟨_, rfl, ?_⟩; have n0_ := YL (Kd.R_below (by (with_reducible repeat (first | apply YP | apply YQ | apply YR)); exact HO_126001.out) hb); have n1_ := YL (YK (g := gb118) (o := .cells #[.int .i64 x119000_1, .slice none 0 0] 25 (0, 0)) (by (with_reducible repeat (first | refine YF ?_ _ | refine YG ?_ | refine YH ?_ _)); exact BK118.out) hb); have n2_ := YL (YK (g := gb125) (o := .cells #[.int .i64 t119, .slice Ao30 x126001_1.length co30] 25 (0, 0)) (by (with_reducible repeat (first | refine YF ?_ _ | refine YG ?_ | refine YH ?_ _)); exact BK125.out) hb); have n3_ := YL (YD (by repeat (first | (with_reducible first | exact HB.out | apply YA | apply YB | apply YC | refine below_set ?_ GE118.out | refine below_set ?_ GE125.out) | exact HB.out)) hb); clear HO_126001; clear BK118; clear BK125; clear HB; have HO_126001 := n0_; have BK118 := n1_; have BK125 := n2_; have HB := n3_; clear n0_ n1_ n2_ n3_; (try clear hb); (try clear hb2); (try clear hk); (try clear hi); have q32_0 : w31.cell? ⟨gb125, 0, none⟩ = some (.int .i64 t119) := (YI BK125.out 0).trans rfl; have q32_1 : w31.cell? ⟨gb125, 1, none⟩ = some (.slice Ao30 x126001_1.length co30) := (YI BK125.out 1).trans rfl; have f32_0 := YJ BK125.out 0; have f32_1 := YJ BK125.out 1; have q33_0 : w31.cell? ⟨gb118, 0, none⟩ = some (.int .i64 x119000_1) := (YI BK118.out 0).trans rfl; have q33_1 : w31.cell? ⟨gb118, 1, none⟩ = some (.slice none 0 0) := (YI BK118.out 1).trans rfl; have f33_0 := YJ BK118.out 0; have f33_1 := YJ BK118.out 1))
      refine bodyPost_ret (results_ctt rfl _ _ gb118 25 #[.int .i64 t119, .slice Ao30 x126001_1.length co30] (0, 0) _ rfl (by (with_reducible repeat (first | refine YF ?_ _ | refine YG ?_ | refine YH ?_ _)); refine blk_put (cs := #[.int .i64 t119, .slice none 0 0]) ?_ 1 _ rfl; (with_reducible repeat (first | refine YF ?_ _ | refine YG ?_ | refine YH ?_ _)); refine blk_put (cs := #[.int .i64 x119000_1, .slice none 0 0]) ?_ 0 _ rfl; (with_reducible repeat (first | refine YF ?_ _ | refine YG ?_ | refine YH ?_ _)); exact BK118.out) Try.underlying25 rfl (by kernel_rfl)) rfl ?_
      exact ⟨_, by first | rfl | (simp [errW_none, errW_some] <;> rfl) | (simp [*, errW_none, errW_some] <;> rfl), by (with_reducible repeat (first | apply YP | apply YQ | apply YR)); exact Kd.R_mono (Kd.R_far (p := ⟨gb118, 1, none⟩) (Kd.R_far (p := ⟨gb118, 0, none⟩) (Kd.R_types HO_126001.out BK118.out (by decide)) (fun _ hk => hk.2) (.int .i64 t119)) (fun _ hk => hk.2) (.slice Ao30 x126001_1.length co30)) (fun _ hk => trivial), by repeat (first | (with_reducible first | exact HB.out | apply YA | apply YB | apply YC | refine below_set ?_ GE118.out | refine below_set ?_ GE125.out) | exact HB.out)⟩
     replace c27 := Bool.eq_false_iff.mpr c27
     subst c27
     have H1 : (some (0, ([] : List (S59)), 0, 4)) = some (r1, r2, r3, r4) := by rw [if_neg (show ¬ (false = true) by decide)] at H; exact H
     clear H
     have H := H1
     clear H1
     simp only [Option.some.injEq, Prod.mk.injEq] at H
     obtain ⟨rfl, rfl, rfl, rfl⟩ := H
     have hnb34 := NB125_118.out
     have hnc34 := NB118_125.out
     have q35_0 : wr.cell? ⟨gb125, 0, none⟩ = some (.int .i64 t119) := (YI BK125.out 0).trans rfl
     have q35_1 : wr.cell? ⟨gb125, 1, none⟩ = some (u126001) := (YI BK125.out 1).trans rfl
     have f35_0 := YJ BK125.out 0
     have f35_1 := YJ BK125.out 1
     obtain ⟨Ao36, co36, eo36⟩ := Kd.R_slice HO_126001.out
     subst eo36
     go_wp2_with (first | ((with_reducible refine gate_callee (f := 23) rfl ?_); refine goesL_ (some 77) rfl rfl Try.func23 (by kernel_rfl) rfl #[.agg #[.int .i64 t119, .slice Ao36 x126001_1.length co36]] rfl (by (try simp only [YM, List.map_cons, List.map_nil]); first | done | rfl | (simp only [YO, YN]; rfl)) ?_; (with_reducible refine (thalwegref06_Right.calls k1 t119 _ _ x126001_1 false _ ?side1 ?side2 A26.out).mono ?_); (case side1 => repeat (first | exact (Kd.R_reads' HO_126001.out).2.2 | (with_reducible refine Kd.C_alloc ?_ _) | (with_reducible refine Kd.C_drewN ?_ _) | (with_reducible refine Kd.C_drew ?_))); (case side2 => exact (Kd.R_reads' HO_126001.out).2.1); rintro e w37 ⟨rfl, hb⟩; refine ⟨_, rfl, ?_⟩; have n0_ := YL (Kd.R_below (by (with_reducible repeat (first | apply YP | apply YQ | apply YR)); exact HO_126001.out) hb); have n1_ := YL (YK (g := gb118) (o := .cells #[.int .i64 x119000_1, .slice none 0 0] 25 (0, 0)) (by (with_reducible repeat (first | refine YF ?_ _ | refine YG ?_ | refine YH ?_ _)); exact BK118.out) hb); have n2_ := YL (YK (g := gb125) (o := .cells #[.int .i64 t119, .slice Ao36 x126001_1.length co36] 25 (0, 0)) (by (with_reducible repeat (first | refine YF ?_ _ | refine YG ?_ | refine YH ?_ _)); exact BK125.out) hb); have n3_ := YL (YD (by repeat (first | (with_reducible first | exact HB.out | apply YA | apply YB | apply YC | refine below_set ?_ GE118.out | refine below_set ?_ GE125.out) | exact HB.out)) hb); clear HO_126001; clear BK118; clear BK125; clear HB; have HO_126001 := n0_; have BK118 := n1_; have BK125 := n2_; have HB := n3_; clear n0_ n1_ n2_ n3_; (try clear hb); (try clear hb2); (try clear hk); (try clear hi); have q38_0 : w37.cell? ⟨gb118, 0, none⟩ = some (.int .i64 x119000_1) := (YI BK118.out 0).trans rfl; have q38_1 : w37.cell? ⟨gb118, 1, none⟩ = some (.slice none 0 0) := (YI BK118.out 1).trans rfl; have f38_0 := YJ BK118.out 0; have f38_1 := YJ BK118.out 1))
     refine bodyPost_ret (results_ctt rfl _ _ gb118 25 #[.int .i64 0, .slice none 0 0] (0, 0) _ rfl (by (with_reducible repeat (first | refine YF ?_ _ | refine YG ?_ | refine YH ?_ _)); refine blk_put (cs := #[.int .i64 0, .slice none 0 0]) ?_ 1 _ rfl; (with_reducible repeat (first | refine YF ?_ _ | refine YG ?_ | refine YH ?_ _)); refine blk_put (cs := #[.int .i64 x119000_1, .slice none 0 0]) ?_ 0 _ rfl; (with_reducible repeat (first | refine YF ?_ _ | refine YG ?_ | refine YH ?_ _)); exact BK118.out) Try.underlying25 rfl (by kernel_rfl)) rfl ?_
     exact ⟨_, by first | rfl | (simp [errW_none, errW_some] <;> rfl) | (simp [*, errW_none, errW_some] <;> rfl), by first | exact Kd.R_nil _ _ _ _ _ | exact Kd.N_nil _ _ _ _ _ | exact Kd.V_nil _ _ _ _ _ | exact Kd.Q_nil _ _ _ _ _ | exact Kd.S_nil _ _ _ _ _, by repeat (first | (with_reducible first | exact HB.out | apply YA | apply YB | apply YC | refine below_set ?_ GE118.out | refine below_set ?_ GE125.out) | exact HB.out)⟩
  rw [if_neg c6] at H
  have c6b0 : (t124 == 0) = false := beq_eq_false_iff_ne.mpr c6
  have c6b1 : (t124 != 0) = true := bne_iff_ne.mpr c6
  simp only [Option.some.injEq, Prod.mk.injEq] at H
  obtain ⟨rfl, rfl, rfl, rfl⟩ := H
  go_enter Try.func9, Try.ntmps9
  go_wp2_with (first | ((with_reducible refine gate_dst (N := 4) rfl ?_); refine box_event ?hg (N := 4) ?hd (cs := #[.int .i64 0, .slice none 0 0]) (t := 25) ?hr ?_; (case hd => rfl); (case hg => rfl); (case hr => first | (go_simp; done) | (go_simp; rfl)); intro gb118 hg w39 hbox hb; have n0_ := YL (YD (by repeat (first | (with_reducible first | exact HB.out | apply YA | apply YB | apply YC) | exact HB.out)) hb); have n1_ := YL (hbox); have n2_ := YL ((by rw [hg]; exact (YE (by repeat (first | (with_reducible first | exact HB.out | apply YA | apply YB | apply YC) | exact HB.out))) : w.heap.size ≤ gb118)); have n3_ := YL ((by rw [hg]; exact (YE (by repeat (first | (with_reducible first | exact HB.out | apply YA | apply YB | apply YC) | exact HB.out))) : w.heap.size ≤ gb118)); clear HB; have HB := n0_; have BK118 := n1_; have GW118 := n2_; have GE118 := n3_; clear n0_ n1_ n2_ n3_; clear hb hbox hg) | ((with_reducible refine gate_callee (f := 26) rfl ?_); refine goesL_ (some 19) rfl rfl Try.func26 (by kernel_rfl) rfl #[.slice A0 l0.length c0, .int .i64 a1, .int .i64 4] rfl (by (try simp only [YM, List.map_cons, List.map_nil]); first | done | rfl | (simp only [YO, YN]; rfl)) ?_; (with_reducible refine (thalwegref01_Get.calls k _ _ l0 a1 4 t119 t120 t121 _ ?side1 ?side2 A3.out).mono ?_); (case side1 => repeat (first | exact (Kd.C_below HR0.out HB.out) | (with_reducible refine Kd.C_alloc ?_ _) | (with_reducible refine Kd.C_drewN ?_ _) | (with_reducible refine Kd.C_drew ?_))); (case side2 => exact HC0.out); rintro e w' ⟨rfl, ⟨nd, rfl⟩⟩; refine ⟨_, rfl, ?_⟩; (try (rw [drewN_self w39]; generalize hq_ : World.drewN w39 _ = w39; have n0_ : Aside0 (w39.heap[gb118]? = some (.cells #[.int .i64 0, .slice none 0 0] 25 (0, 0))) := ⟨by rw [← hq_]; exact (by (with_reducible repeat (first | refine YF ?_ _ | refine YG ?_ | refine YH ?_ _)); exact BK118.out)⟩; have n1_ : Aside0 (Below w.heap.size w w39) := ⟨by rw [← hq_]; exact (by repeat (first | (with_reducible first | exact HB.out | apply YA | apply YB | apply YC | refine below_set ?_ GE118.out) | exact HB.out))⟩; clear BK118 HB hq_; have BK118 := n0_; have HB := n1_; clear n0_ n1_))) | ((with_reducible refine gate_callee (f := 26) rfl ?_); refine goesL_ (some 30) rfl rfl Try.func26 (by kernel_rfl) rfl #[.slice A0 l0.length c0, .int .i64 t120, .int .i64 1] rfl (by (try simp only [YM, List.map_cons, List.map_nil]); first | done | rfl | (simp only [YO, YN]; rfl)) ?_; (with_reducible refine (thalwegref01_Get.calls k _ _ l0 t120 1 t122 t123 t124 _ ?side1 ?side2 A5.out).mono ?_); (case side1 => repeat (first | exact (Kd.C_below HR0.out HB.out) | (with_reducible refine Kd.C_alloc ?_ _) | (with_reducible refine Kd.C_drewN ?_ _) | (with_reducible refine Kd.C_drew ?_))); (case side2 => exact HC0.out); rintro e w' ⟨rfl, ⟨nd, rfl⟩⟩; refine ⟨_, rfl, ?_⟩; (try (rw [drewN_self w39]; generalize hq_ : World.drewN w39 _ = w39; have n0_ : Aside0 (w39.heap[gb118]? = some (.cells #[.int .i64 0, .slice none 0 0] 25 (0, 0))) := ⟨by rw [← hq_]; exact (by (with_reducible repeat (first | refine YF ?_ _ | refine YG ?_ | refine YH ?_ _)); exact BK118.out)⟩; have n1_ : Aside0 (Below w.heap.size w w39) := ⟨by rw [← hq_]; exact (by repeat (first | (with_reducible first | exact HB.out | apply YA | apply YB | apply YC | refine below_set ?_ GE118.out) | exact HB.out))⟩; clear BK118 HB hq_; have BK118 := n0_; have HB := n1_; clear n0_ n1_)); have q40_0 : w39.cell? ⟨gb118, 0, none⟩ = some (.int .i64 0) := (YI BK118.out 0).trans rfl; have q40_1 : w39.cell? ⟨gb118, 1, none⟩ = some (.slice none 0 0) := (YI BK118.out 1).trans rfl; have f40_0 := YJ BK118.out 0; have f40_1 := YJ BK118.out 1))
  refine bodyPost_ret (results_ctt rfl _ _ gb118 25 #[.int .i64 0, .slice none 0 0] (0, 0) _ rfl (by (with_reducible repeat (first | refine YF ?_ _ | refine YG ?_ | refine YH ?_ _)); refine blk_put (cs := #[.int .i64 0, .slice none 0 0]) ?_ 1 _ rfl; (with_reducible repeat (first | refine YF ?_ _ | refine YG ?_ | refine YH ?_ _)); refine blk_put (cs := #[.int .i64 0, .slice none 0 0]) ?_ 0 _ rfl; (with_reducible repeat (first | refine YF ?_ _ | refine YG ?_ | refine YH ?_ _)); exact BK118.out) Try.underlying25 rfl (by kernel_rfl)) rfl ?_
  exact ⟨_, by first | rfl | (simp [errW_none, errW_some] <;> rfl) | (simp [*, errW_none, errW_some] <;> rfl), by first | exact Kd.R_nil _ _ _ _ _ | exact Kd.N_nil _ _ _ _ _ | exact Kd.V_nil _ _ _ _ _ | exact Kd.Q_nil _ _ _ _ _ | exact Kd.S_nil _ _ _ _ _, by repeat (first | (with_reducible first | exact HB.out | apply YA | apply YB | apply YC | refine below_set ?_ GE118.out) | exact HB.out)⟩
 rw [if_neg c4] at H
 have c4b0 : (t121 == 0) = false := beq_eq_false_iff_ne.mpr c4
 have c4b1 : (t121 != 0) = true := bne_iff_ne.mpr c4
 simp only [Option.some.injEq, Prod.mk.injEq] at H
 obtain ⟨rfl, rfl, rfl, rfl⟩ := H
 go_enter Try.func9, Try.ntmps9
 go_wp2_with (first | ((with_reducible refine gate_dst (N := 4) rfl ?_); refine box_event ?hg (N := 4) ?hd (cs := #[.int .i64 0, .slice none 0 0]) (t := 25) ?hr ?_; (case hd => rfl); (case hg => rfl); (case hr => first | (go_simp; done) | (go_simp; rfl)); intro gb118 hg w41 hbox hb; have n0_ := YL (YD (by repeat (first | (with_reducible first | exact HB.out | apply YA | apply YB | apply YC) | exact HB.out)) hb); have n1_ := YL (hbox); have n2_ := YL ((by rw [hg]; exact (YE (by repeat (first | (with_reducible first | exact HB.out | apply YA | apply YB | apply YC) | exact HB.out))) : w.heap.size ≤ gb118)); have n3_ := YL ((by rw [hg]; exact (YE (by repeat (first | (with_reducible first | exact HB.out | apply YA | apply YB | apply YC) | exact HB.out))) : w.heap.size ≤ gb118)); clear HB; have HB := n0_; have BK118 := n1_; have GW118 := n2_; have GE118 := n3_; clear n0_ n1_ n2_ n3_; clear hb hbox hg) | ((with_reducible refine gate_callee (f := 26) rfl ?_); refine goesL_ (some 19) rfl rfl Try.func26 (by kernel_rfl) rfl #[.slice A0 l0.length c0, .int .i64 a1, .int .i64 4] rfl (by (try simp only [YM, List.map_cons, List.map_nil]); first | done | rfl | (simp only [YO, YN]; rfl)) ?_; (with_reducible refine (thalwegref01_Get.calls k _ _ l0 a1 4 t119 t120 t121 _ ?side1 ?side2 A3.out).mono ?_); (case side1 => repeat (first | exact (Kd.C_below HR0.out HB.out) | (with_reducible refine Kd.C_alloc ?_ _) | (with_reducible refine Kd.C_drewN ?_ _) | (with_reducible refine Kd.C_drew ?_))); (case side2 => exact HC0.out); rintro e w' ⟨rfl, ⟨nd, rfl⟩⟩; refine ⟨_, rfl, ?_⟩; (try (rw [drewN_self w41]; generalize hq_ : World.drewN w41 _ = w41; have n0_ : Aside0 (w41.heap[gb118]? = some (.cells #[.int .i64 0, .slice none 0 0] 25 (0, 0))) := ⟨by rw [← hq_]; exact (by (with_reducible repeat (first | refine YF ?_ _ | refine YG ?_ | refine YH ?_ _)); exact BK118.out)⟩; have n1_ : Aside0 (Below w.heap.size w w41) := ⟨by rw [← hq_]; exact (by repeat (first | (with_reducible first | exact HB.out | apply YA | apply YB | apply YC | refine below_set ?_ GE118.out) | exact HB.out))⟩; clear BK118 HB hq_; have BK118 := n0_; have HB := n1_; clear n0_ n1_)); have q42_0 : w41.cell? ⟨gb118, 0, none⟩ = some (.int .i64 0) := (YI BK118.out 0).trans rfl; have q42_1 : w41.cell? ⟨gb118, 1, none⟩ = some (.slice none 0 0) := (YI BK118.out 1).trans rfl; have f42_0 := YJ BK118.out 0; have f42_1 := YJ BK118.out 1))
 refine bodyPost_ret (results_ctt rfl _ _ gb118 25 #[.int .i64 0, .slice none 0 0] (0, 0) _ rfl (by (with_reducible repeat (first | refine YF ?_ _ | refine YG ?_ | refine YH ?_ _)); refine blk_put (cs := #[.int .i64 0, .slice none 0 0]) ?_ 1 _ rfl; (with_reducible repeat (first | refine YF ?_ _ | refine YG ?_ | refine YH ?_ _)); refine blk_put (cs := #[.int .i64 0, .slice none 0 0]) ?_ 0 _ rfl; (with_reducible repeat (first | refine YF ?_ _ | refine YG ?_ | refine YH ?_ _)); exact BK118.out) Try.underlying25 rfl (by kernel_rfl)) rfl ?_
 exact ⟨_, by first | rfl | (simp [errW_none, errW_some] <;> rfl) | (simp [*, errW_none, errW_some] <;> rfl), by first | exact Kd.R_nil _ _ _ _ _ | exact Kd.N_nil _ _ _ _ _ | exact Kd.V_nil _ _ _ _ _ | exact Kd.Q_nil _ _ _ _ _ | exact Kd.S_nil _ _ _ _ _, by repeat (first | (with_reducible first | exact HB.out | apply YA | apply YB | apply YC | refine below_set ?_ GE118.out) | exact HB.out)⟩
end Go.Proofs.Ytaiklcpmlkpfjaa.P
namespace Go.Proofs.Ytaiklcpmlkpfjaa.P
open Go.RowKit YtaiklcpmlkpfjaaW.PrintWords YtaiklcpmlkpfjaaW.PrintLast YtaiklcpmlkpfjaaW.PrintMore
open Classical
theorem awake06 : Ev (fun k => thalweglaw06_awake.f k) true := Ev.of (fun k => thalweglaw06_awake.mono k) (k := 30) (by decide +kernel)
theorem bsame_l0 (n : Int) (Y : List S59) (hl : Y.length ≤ 1000000000000) : ∀ (d : Nat) (i : Int), 0 ≤ i → (Y.length : Int) - i = d → Ev (fun k => thalwegref06_Same.l0 k i n Y n Y) true := by
 intro d
 induction d with
 | zero =>
  intro i h0 hd
  refine Ev.from 1 fun k => ?_
  simp only [thalwegref06_Same.l0]
  rw [if_neg (by omega)]
 | succ d ih =>
  intro i h0 hd
  refine Ev.step (f := fun k => _) (fun k => by simp only [thalwegref06_Same.l0]; rfl) ?_
  simp only [if_pos (show i < (Y.length : Int) by omega), if_pos h0, beq_self_eq_true, Bool.not_true, Bool.or_self, Bool.false_eq_true, if_false, w64 (x := i + 1) (by omega) (by omega)]
  exact ih (i + 1) (by omega) (by omega)
theorem bsame_ev (n : Int) (Y : List S59) (hl : Y.length ≤ 1000000000000) : Ev (fun k => thalwegref06_Same.f k n Y n Y) true := by
 unfold thalwegref06_Same.f
 simp only [if_true, bne_self_eq_false]
 refine Ev.step (f := fun k => _) (fun k => by simp only [thalwegref06_Same.j0]; rfl) ?_
 simp only [Bool.false_eq_true, if_false]
 exact bsame_l0 n Y hl Y.length 0 (by omega) (by omega)
end Go.Proofs.Ytaiklcpmlkpfjaa.P
namespace Go.Proofs.Ytaiklcpmlkpfjaa.P
open Go.RowKit YtaiklcpmlkpfjaaW.PrintWords YtaiklcpmlkpfjaaW.PrintLast YtaiklcpmlkpfjaaW.PrintMore
theorem two256 (n : Nat) : (2 : Int) ^ (8 * n) = 256 ^ n := by rw [Int.pow_mul]; rfl
theorem wire_Put_eq (v n : Int) (hv : (Lit.int .i64 v).wf = true) : wire_Put.f v n = some (putSpec v n) := by
 have hb := bnd64 hv
 unfold wire_Put.f putSpec
 by_cases c1 : n < 1
 ·rw [if_pos c1, if_neg (by omega)]
 rw [if_neg c1]
 by_cases c2 : n > 7
 ·rw [if_pos c2, if_neg (by omega)]
 rw [if_neg c2]
 by_cases c3 : v < 0
 ·rw [if_pos c3, if_neg (by omega)]
 rw [if_neg c3, w64 (x := 8 * n) (by omega) (by omega), if_pos (by omega)]
 obtain ⟨m, rfl⟩ := Int.eq_ofNat_of_zero_le (show 0 ≤ n by omega)
 have hs : shr .i64 v (8 * (m : Int)) = v / 256 ^ m := by
  unfold shr
  rw [Nat.min_eq_left (by simp [IntKind.bits]; omega), show (8 * (m : Int)).toNat = 8 * m by omega, two256]
 have hp := pow256_pos m
 rw [hs, Int.toNat_natCast]
 by_cases c4 : v < 256 ^ m
 ·rw [if_pos (Int.ediv_eq_zero_of_lt (by omega) c4), if_pos ⟨by omega, by omega, by omega, c4⟩]
  unfold wire_bytes.f
  rw [wrap_u64, Int.emod_eq_of_lt (by omega) (by omega), if_pos (by omega)]
  rfl
 ·rw [if_neg (fun e => c4 (by have h5 := Int.emod_def v (256 ^ m); rw [e, Int.mul_zero] at h5; have h6 := Int.emod_lt_of_pos v hp; omega)), if_neg (by omega)]
end Go.Proofs.Ytaiklcpmlkpfjaa.P
namespace Go.Proofs.Ytaiklcpmlkpfjaa.P
open Go.RowKit YtaiklcpmlkpfjaaW.PrintWords YtaiklcpmlkpfjaaW.PrintLast YtaiklcpmlkpfjaaW.PrintMore
open Classical
theorem bwf64 {n : Int} (h0 : -9223372036854775808 ≤ n) (h1 : n ≤ 9223372036854775807) : (Lit.int .i64 n).wf = true := by
 simp [Lit.wf, IntKind.min, IntKind.max, IntKind.bits, IntKind.signed]
 omega
theorem bput4 {v : Int} (h : EpR v) : wire_Put.f v 4 = some (be 4 v, 0) := by
 have h0 := h.1
 have h1 := h.2
 rw [wire_Put_eq v 4 (bwf64 (by omega) (by omega))]
 unfold putSpec
 rw [if_pos ⟨by omega, by omega, h0, by rw [show (4 : Int).toNat = 4 from rfl, show (256 : Int) ^ 4 = 4294967296 by decide]; omega⟩]
 rfl
def EB (o : S59) : List Int := [o.f0 % 256] ++ be 4 o.f1
theorem EB_length (o : S59) : (EB o).length = 5 := by unfold EB; rw [List.length_append, be_length]; rfl
def bnB (n : Int) (Y : List S59) : List Int := be 4 n ++ ([(Y.length : Int) % 256] ++ Y.flatMap EB)
theorem ec_get (l : List S59) (i : Int) (h0 : 0 ≤ i) (h1 : i < l.length) : l.drop i.toNat = rd_T59 l i :: l.drop (i + 1).toNat := by
 have hi : i.toNat < l.length := by omega
 rw [List.drop_eq_getElem_cons hi, show (i + 1).toNat = i.toNat + 1 by omega]
 congr 1
 unfold rd_T59
 rw [List.getD_eq_getElem?_getD, List.getElem?_eq_getElem hi]
 rfl
theorem bnbytes_l0 (n : Int) (Y : List S59) (hl : Y.length ≤ 1000000) (hr : RBn n Y) : ∀ (d : Nat) (i : Int) (acc : List Int), 0 ≤ i → (Y.length : Int) - i = d → (acc.length : Int) ≤ 5 + 5 * i → Ev (fun k => beacon_Bytes.l0 k acc Y (Y.length : Int) i) (acc ++ (Y.drop i.toNat).flatMap EB, 0) := by
 intro d
 induction d with
 | zero =>
  intro i acc h0 hd ha
  refine Ev.from 1 fun k => ?_
  simp only [beacon_Bytes.l0]
  rw [if_neg (by omega), List.drop_eq_nil_of_le (by omega)]
  simp
 | succ d ih =>
  intro i acc h0 hd ha
  have h1 : i < (Y.length : Int) := by omega
  have hat := hr.2 i h0 h1
  refine Ev.step (f := fun k => _) (fun k => by simp only [beacon_Bytes.l0]; rfl) ?_
  rw [ec_get Y i h0 h1, List.flatMap_cons, ← List.append_assoc]
  simp only [if_pos h1, if_pos h0, bput4 hat.2.2.1, Option.bind_some, if_pos (show acc.length < 140737488355328 by omega), w64 (x := i + 1) (by omega) (by omega)]
  have e : acc ++ [(rd_T59 Y i).f0 % 256] ++ be 4 (rd_T59 Y i).f1 = acc ++ EB (rd_T59 Y i) := by unfold EB; rw [List.append_assoc]
  have hq : (acc ++ [(rd_T59 Y i).f0 % 256]).length + (be 4 (rd_T59 Y i).f1).length < 140737488355328 := by rw [List.length_append, List.length_singleton, be_length]; omega
  simp only [if_pos hq, e]
  exact ih (i + 1) _ (by omega) (by omega) (by rw [List.length_append, EB_length]; omega)
theorem bnbytes_ev (n : Int) (Y : List S59) (hl : Y.length ≤ 1000000) (h : RBn n Y) : Ev (fun k => beacon_Bytes.f k n Y) (bnB n Y, 0) := by
 have hc := bncheck_ev n Y (by omega)
 rw [if_pos h] at hc
 unfold beacon_Bytes.f
 refine Ev.bind hc ?_
 simp only [if_true, bput4 h.1, Option.bind_some]
 simp only [if_pos (show (be 4 n).length < 140737488355328 by rw [be_length]; omega)]
 have := bnbytes_l0 n Y hl h Y.length 0 (be 4 n ++ [(Y.length : Int) % 256]) (by omega) (by omega) (by rw [List.length_append, be_length, List.length_singleton]; omega)
 simpa [bnB] using this
theorem bnbytes_no (n : Int) (Y : List S59) (hl : Y.length ≤ 1000000) (h : ¬ RBn n Y) : Ev (fun k => beacon_Bytes.f k n Y) ([], 1) := by
 have hc := bncheck_ev n Y (by omega)
 rw [if_neg h] at hc
 unfold beacon_Bytes.f
 refine Ev.bind hc ?_
 simp only [if_neg (show ¬ (1 : Int) = 0 by decide)]
 exact Ev.now _
end Go.Proofs.Ytaiklcpmlkpfjaa.P
namespace Go.Proofs.Ytaiklcpmlkpfjaa.P
open Go.RowKit YtaiklcpmlkpfjaaW.PrintWords YtaiklcpmlkpfjaaW.PrintLast YtaiklcpmlkpfjaaW.PrintMore
theorem refPower_l0 (n : Nat) (hn : n ≤ 7) : ∀ (d i : Nat), i + d = n → Ev (fun k => thalwegref01_power.l0 k n (256 ^ i) i) (256 ^ n) := by
 intro d
 induction d with
 | zero =>
  intro i hi
  refine Ev.from 1 fun k => ?_
  simp only [thalwegref01_power.l0]
  rw [if_neg (by omega), show i = n by omega]
 | succ d ih =>
  intro i hi
  have hn2 := ih (i + 1) (by omega)
  have h1 : (i : Int) < (n : Int) := by omega
  have hw : wrap64 ((i : Int) + 1) = ((i + 1 : Nat) : Int) := by rw [w64 (by omega) (by omega)]; simp
  have hp := pow256_le i 6 (by omega)
  rw [show (256 : Int) ^ 6 = 281474976710656 by decide] at hp
  have hp0 := pow256_pos i
  have hm : wrap64 (256 * 256 ^ i) = 256 ^ (i + 1) := by rw [Int.pow_succ, Int.mul_comm]; exact w64 (by omega) (by omega)
  refine Ev.step (f := fun k => _) (fun k => by simp only [thalwegref01_power.l0]; rfl) ?_
  simp only [if_pos h1, hw, hm]
  exact hn2
theorem refPut_l0 (n : Nat) (v : Int) (hn : n ≤ 7) (h0 : 0 ≤ v) (h1 : v < 9223372036854775808) : ∀ (d i : Nat), i + d = n →
  Ev (fun k => thalwegref01_Put.l0 k (v / 256 ^ i) (List.replicate (n - i) 0 ++ be i v) ((n : Int) - 1 - i)) (be n v, 0) := by
 intro d
 induction d with
 | zero =>
  intro i hi
  obtain rfl : i = n := by omega
  refine Ev.from 1 fun k => ?_
  simp only [thalwegref01_Put.l0]
  rw [if_neg (by omega), Nat.sub_self]
  rfl
 | succ d ih =>
  intro i hi
  have hn2 := ih (i + 1) (by omega)
  have t1 : (n : Int) - 1 - i ≥ 0 := by omega
  have t2 : 0 ≤ (n : Int) - 1 - i := t1
  have hlen : (List.replicate (n - i) (0 : Int) ++ be i v).length = n := by rw [List.length_append, List.length_replicate, be_length]; omega
  have t3 : (n : Int) - 1 - i < ((List.replicate (n - i) (0 : Int) ++ be i v).length : Int) := by rw [hlen]; omega
  have hw : wrap64 ((n : Int) - 1 - i - 1) = (n : Int) - 1 - ((i + 1 : Nat) : Int) := by rw [w64 (by omega) (by omega)]; omega
  have hv0 : 0 ≤ v / 256 ^ i := Int.ediv_nonneg h0 (Int.le_of_lt (pow256_pos i))
  have hv1 : v / 256 ^ i ≤ v := Int.ediv_le_self _ h0
  have hd : wrap64 (Int.tdiv (v / 256 ^ i) 256) = v / 256 ^ (i + 1) := by
   rw [Int.tdiv_eq_ediv_of_nonneg hv0, Int.ediv_ediv_of_nonneg (Int.le_of_lt (pow256_pos i)), show (256 : Int) ^ i * 256 = 256 ^ (i + 1) from (Int.pow_succ ..).symm]
   have h2 : 0 ≤ v / 256 ^ (i + 1) := Int.ediv_nonneg h0 (Int.le_of_lt (pow256_pos _))
   have h3 : v / 256 ^ (i + 1) ≤ v := Int.ediv_le_self _ h0
   exact w64 (by omega) (by omega)
  have hm : Int.tmod (v / 256 ^ i) 256 % 256 = v / 256 ^ i % 256 := by
   rw [Int.tmod_eq_emod_of_nonneg hv0]
   omega
  have hs : (List.replicate (n - i) (0 : Int) ++ be i v).set ((n : Int) - 1 - i).toNat (v / 256 ^ i % 256) = List.replicate (n - (i + 1)) 0 ++ be (i + 1) v := by
   rw [show ((n : Int) - 1 - i).toNat = n - (i + 1) by omega, show n - i = (n - (i + 1)) + 1 by omega, be_set, be_cons]
  refine Ev.step (f := fun k => _) (fun k => by simp only [thalwegref01_Put.l0]; rfl) ?_
  simp only [if_pos t1, if_pos t2, if_pos t3, hw, hd, hm, hs]
  exact hn2
theorem refPut_ev (v n : Int) (hv : (Lit.int .i64 v).wf = true) : Ev (fun k => thalwegref01_Put.f k v n) (putSpec v n) := by
 have hb := bnd64 hv
 have done : Ev (fun k => thalwegref01_Put.j0 k v n true) ([], 1) := Ev.from 1 fun k => by simp only [thalwegref01_Put.j0, if_true]
 unfold thalwegref01_Put.f putSpec
 by_cases c1 : n < 1
 ·rw [if_neg (by omega)]; simp only [if_pos c1]; exact done
 by_cases c2 : n > 7
 ·rw [if_neg (by omega)]; simp only [if_neg c1, if_pos c2]; exact done
 by_cases c3 : v < 0
 ·rw [if_neg (by omega)]; simp only [if_neg c1, if_neg c2, if_pos c3]; exact done
 simp only [if_neg c1, if_neg c2, if_neg c3]
 obtain ⟨m, rfl⟩ := Int.eq_ofNat_of_zero_le (show 0 ≤ n by omega)
 have hm : m ≤ 7 := by omega
 refine Ev.bind (a := 256 ^ m) (by unfold thalwegref01_power.f; exact refPower_l0 m hm m 0 (by omega)) ?_
 simp only [Int.toNat_natCast]
 by_cases c4 : v < 256 ^ m
 ·rw [if_pos ⟨by omega, by omega, by omega, c4⟩]
  have hp := refPut_l0 m v hm (by omega) (by omega) m 0 (by omega)
  simp only [decide_eq_false (show ¬ v ≥ 256 ^ m by omega)]
  refine Ev.step (f := fun k => _) (fun k => by simp only [thalwegref01_Put.j0]; rfl) ?_
  have t1 : (0 : Int) ≤ (m : Int) := by omega
  have t2 : m ≤ 281474976710656 := by omega
  have t3 : wrap64 ((m : Int) - 1) = (m : Int) - 1 - ((0 : Nat) : Int) := by rw [w64 (by omega) (by omega)]; simp
  simp only [Bool.false_eq_true, if_false, if_pos t1, Int.toNat_natCast, if_pos t2, t3]
  simpa [be] using hp
 ·rw [if_neg (fun h => c4 h.2.2.2)]
  simp only [decide_eq_true (show v ≥ 256 ^ m by omega)]
  exact done
end Go.Proofs.Ytaiklcpmlkpfjaa.P
namespace Go.Proofs.Ytaiklcpmlkpfjaa.P
open Go.RowKit YtaiklcpmlkpfjaaW.PrintWords YtaiklcpmlkpfjaaW.PrintLast YtaiklcpmlkpfjaaW.PrintMore
open Classical
theorem rheard_ev (n : Int) (Y : List S59) (id : Int) (hl : Y.length ≤ 1000000) : Ev (fun k => thalwegref06_Heard.f k n Y id) (hearS Y id) := by
 suffices h : ∀ (d : Nat) (i : Int), 0 ≤ i → (Y.length : Int) - i = d → Ev (fun k => thalwegref06_Heard.l0 k id i n Y) (hearS (Y.drop i.toNat) id) by
  have := h Y.length 0 (by omega) (by omega)
  exact this
 intro d
 induction d with
 | zero =>
  intro i h0 hd
  refine Ev.from 1 fun k => ?_
  simp only [thalwegref06_Heard.l0]
  rw [if_neg (by omega), List.drop_eq_nil_of_le (by omega)]
  rfl
 | succ d ih =>
  intro i h0 hd
  have h1 : i < (Y.length : Int) := by omega
  refine Ev.step (f := fun k => _) (fun k => by simp only [thalwegref06_Heard.l0]; rfl) ?_
  rw [ec_get Y i h0 h1]
  simp only [if_pos h1, if_pos h0, hearS, w64 (x := i + 1) (by omega) (by omega)]
  by_cases he : (rd_T59 Y i).f0 = id
  ·simp only [if_pos he]
   exact Ev.now _
  ·simp only [if_neg he]
   exact ih (i + 1) (by omega) (by omega)
def refPut (id ep : Int) : Bool → List S59 → List S59
 | d, [] => if d = true then [] else [⟨id, ep⟩]
 | d, o :: r => if d = true then (if o.f0 = id then refPut id ep true r else o :: refPut id ep true r) else if o.f0 ≥ id then ⟨id, ep⟩ :: (if o.f0 = id then refPut id ep true r else o :: refPut id ep true r) else if o.f0 = id then refPut id ep false r else o :: refPut id ep false r
theorem refPut_true (id ep : Int) : ∀ (Y : List S59), (∀ o ∈ Y, o.f0 ≠ id) → refPut id ep true Y = Y := by
 intro Y
 induction Y with
 | nil => intro _; rfl
 | cons o r ih =>
  intro h
  simp only [refPut, if_true]
  rw [if_neg (h o (List.mem_cons_self ..)), ih (fun x hx => h x (List.mem_cons_of_mem _ hx))]
theorem refPut_eq (id ep : Int) : ∀ (Y : List S59), Srt Y → refPut id ep false Y = putS Y id ep := by
 intro Y
 induction Y with
 | nil => intro _; simp [refPut, putS]
 | cons o r ih =>
  intro h
  have h0 := List.pairwise_cons.1 h
  simp only [refPut, putS, Bool.false_eq_true, if_false]
  rcases Int.lt_trichotomy o.f0 id with h1 | h1 | h1
  ·rw [if_neg (show ¬ o.f0 ≥ id by omega), if_neg (show ¬ o.f0 = id by omega), if_pos h1, ih h0.2]
  ·rw [if_pos (show o.f0 ≥ id by omega), if_pos h1, if_neg (show ¬ o.f0 < id by omega), if_pos h1, refPut_true id ep r (fun x hx => by have := h0.1 x hx; omega)]
  ·rw [if_pos (show o.f0 ≥ id by omega), if_neg (show ¬ o.f0 = id by omega), if_neg (show ¬ o.f0 < id by omega), if_neg (show ¬ o.f0 = id by omega), refPut_true id ep r (fun x hx => by have := h0.1 x hx; omega)]
def rwFin (n : Int) (Y out : List S59) : Int × List S59 × Int := if RBn n Y then (if RBn n out then (n, out, 0) else (0, [], 1)) else (0, [], 1)
theorem rw_j2 (n : Int) (Y out : List S59) (hl : Y.length ≤ 1000) (ho : out.length ≤ 10000) : Ev (fun k => thalwegref06_With.j2 k n Y n out) (rwFin n Y out) := by
 refine Ev.step (f := fun k => _) (fun k => by simp only [thalwegref06_With.j2]; rfl) ?_
 refine Ev.bind (rnright_ev n Y (by omega)) ?_
 unfold rwFin
 by_cases h : RBn n Y
 ·rw [if_pos h, decide_eq_true h]
  simp only [if_true]
  refine Ev.bind (rnright_ev n out (by omega)) ?_
  by_cases h2 : RBn n out
  ·rw [if_pos h2, decide_eq_true h2]
   simp only [if_true]
   exact Ev.now _
  ·rw [if_neg h2, decide_eq_false h2]
   simp only [Bool.false_eq_true, if_false]
   exact Ev.now _
 ·rw [if_neg h, decide_eq_false h]
  simp only [Bool.false_eq_true, if_false]
  exact Ev.now _
theorem rw_l0 (id ep n : Int) (Y : List S59) (hl : Y.length ≤ 1000) : ∀ (d : Nat) (i : Int) (dn : Bool) (out : List S59), 0 ≤ i → (Y.length : Int) - i = d → out.length + 2 * d ≤ 3000 → Ev (fun k => thalwegref06_With.l0 k id ep dn i n Y n out) (rwFin n Y (out ++ refPut id ep dn (Y.drop i.toNat))) := by
 intro d
 induction d with
 | zero =>
  intro i dn out h0 hd ho
  refine Ev.step (f := fun k => _) (fun k => by simp only [thalwegref06_With.l0]; rfl) ?_
  rw [List.drop_eq_nil_of_le (by omega)]
  simp only [if_neg (show ¬ i < (Y.length : Int) by omega), refPut]
  cases dn with
  | true =>
   simp only [if_true, List.append_nil]
   exact rw_j2 n Y out hl (by omega)
  | false =>
   simp only [Bool.false_eq_true, if_false, if_pos (show out.length < 8796093022208 by omega)]
   exact rw_j2 n Y _ hl (by simp; omega)
 | succ d ih =>
  intro i dn out h0 hd ho
  have h1 : i < (Y.length : Int) := by omega
  have hw := w64 (x := i + 1) (by omega) (by omega)
  have key : ∀ (dn : Bool) (out : List S59), out.length + 2 * d ≤ 2999 → Ev (fun k => if (rd_T59 Y i).f0 = id then thalwegref06_With.l0 k id ep dn (wrap64 (i + 1)) n Y n out else if out.length < 8796093022208 then thalwegref06_With.l0 k id ep dn (wrap64 (i + 1)) n Y n (out ++ [⟨(rd_T59 Y i).f0, (rd_T59 Y i).f1⟩]) else none)
    (rwFin n Y (out ++ (if (rd_T59 Y i).f0 = id then refPut id ep dn (Y.drop (i + 1).toNat) else rd_T59 Y i :: refPut id ep dn (Y.drop (i + 1).toNat)))) := by
   intro dn out ho
   rw [hw]
   by_cases he : (rd_T59 Y i).f0 = id
   ·simp only [if_pos he]
    exact ih (i + 1) dn out (by omega) (by omega) (by omega)
   ·simp only [if_neg he, if_pos (show out.length < 8796093022208 by omega)]
    have := ih (i + 1) dn (out ++ [⟨(rd_T59 Y i).f0, (rd_T59 Y i).f1⟩]) (by omega) (by omega) (by simp; omega)
    rw [List.append_assoc] at this
    exact this
  refine Ev.step (f := fun k => _) (fun k => by simp only [thalwegref06_With.l0]; rfl) ?_
  rw [ec_get Y i h0 h1]
  simp only [if_pos h1, if_pos h0, refPut]
  cases dn with
  | true =>
   simp only [if_true]
   refine Ev.step (f := fun k => _) (fun k => by simp only [thalwegref06_With.j1]; rfl) ?_
   simp only [Bool.false_eq_true, if_false, if_pos h0, if_pos h1]
   exact key true out (by omega)
  | false =>
   simp only [Bool.false_eq_true, if_false]
   refine Ev.step (f := fun k => _) (fun k => by simp only [thalwegref06_With.j1]; rfl) ?_
   by_cases hg : (rd_T59 Y i).f0 ≥ id
   ·simp only [decide_eq_true hg, if_true, if_pos (show out.length < 8796093022208 by omega), Option.bind_some, if_pos h0, if_pos h1, if_pos hg]
    exact evq (key true (out ++ [⟨id, ep⟩]) (by simp; omega)) (by simp)
   ·simp only [decide_eq_false hg, Bool.false_eq_true, if_false, if_pos h0, if_pos h1, if_neg hg]
    exact key false out (by omega)
theorem rwith_ev (n : Int) (Y : List S59) (id ep : Int) (hl : Y.length ≤ 1000) : Ev (fun k => thalwegref06_With.f k n Y id ep) (if RBn n Y ∧ 0 ≤ id ∧ id < 64 ∧ EpR ep then (n, putS Y id ep, 0) else (0, [], 1)) := by
 have h := rw_l0 id ep n Y hl Y.length 0 false [] (by omega) (by omega) (by simp; omega)
 unfold thalwegref06_With.f
 refine evq h ?_
 simp only [List.nil_append, Int.toNat_zero, List.drop_zero, rwFin]
 by_cases hR : RBn n Y
 ·rw [if_pos hR, refPut_eq id ep Y (rb_parts.1 hR).2.2]
  by_cases h2 : 0 ≤ id ∧ id < 64 ∧ EpR ep
  ·rw [if_pos ((rb_putS hR id ep).2 h2), if_pos ⟨hR, h2⟩]
  ·rw [if_neg (fun hh => h2 ((rb_putS hR id ep).1 hh)), if_neg (fun hh => h2 hh.2)]
 ·rw [if_neg hR, if_neg (fun hh => hR hh.1)]
def outS (id : Int) (Y : List S59) : List S59 := Y.filter fun o => !(o.f0 == id)
theorem out_del (id : Int) : ∀ (Y : List S59), Srt Y → outS id Y = delS Y id := by
 intro Y
 induction Y with
 | nil => intro _; rfl
 | cons o r ih =>
  intro h
  have h0 := List.pairwise_cons.1 h
  simp only [outS, List.filter_cons, delS] at ih ⊢
  by_cases he : o.f0 = id
  ·rw [if_pos he, if_neg (by simp [he])]
   have : ∀ x ∈ r, (!(x.f0 == id)) = true := fun x hx => by
    have := h0.1 x hx
    simp
    omega
   exact List.filter_eq_self.2 this
  ·rw [if_neg he, if_pos (by simp [he]), ih h0.2]
theorem rwo_l0 (id n : Int) (Y : List S59) (hl : Y.length ≤ 1000) : ∀ (d : Nat) (i : Int) (out : List S59), 0 ≤ i → (Y.length : Int) - i = d → out.length + d ≤ 3000 → Ev (fun k => thalwegref06_Without.l0 k id i n Y n out) (if (out ++ outS id (Y.drop i.toNat)).length = Y.length then (0, [], 7) else (n, out ++ outS id (Y.drop i.toNat), 0)) := by
 intro d
 induction d with
 | zero =>
  intro i out h0 hd ho
  refine Ev.from 1 fun k => ?_
  simp only [thalwegref06_Without.l0]
  rw [if_neg (by omega), List.drop_eq_nil_of_le (by omega)]
  simp only [outS, List.filter_nil, List.append_nil]
  by_cases h : out.length = Y.length
  ·rw [if_pos h, if_pos (by omega)]
  ·rw [if_neg h, if_neg (by omega)]
 | succ d ih =>
  intro i out h0 hd ho
  have h1 : i < (Y.length : Int) := by omega
  refine Ev.step (f := fun k => _) (fun k => by simp only [thalwegref06_Without.l0]; rfl) ?_
  rw [ec_get Y i h0 h1]
  simp only [if_pos h1, if_pos h0, w64 (x := i + 1) (by omega) (by omega), outS, List.filter_cons]
  by_cases he : (rd_T59 Y i).f0 = id
  ·simp only [if_pos he, he, beq_self_eq_true, Bool.not_true, Bool.false_eq_true, if_false]
   exact ih (i + 1) out (by omega) (by omega) (by omega)
  ·have hb : ((rd_T59 Y i).f0 == id) = false := beq_eq_false_iff_ne.2 he
   simp only [if_neg he, hb, Bool.not_false, if_true, if_pos (show out.length < 8796093022208 by omega)]
   have := ih (i + 1) (out ++ [⟨(rd_T59 Y i).f0, (rd_T59 Y i).f1⟩]) (by omega) (by omega) (by simp; omega)
   rw [List.append_assoc] at this
   exact this
theorem del_short (id : Int) : ∀ (Y : List S59), ((delS Y id).length = Y.length) ↔ ¬ (hearS Y id).2 = true := by
 intro Y
 induction Y with
 | nil => simp [delS, hearS]
 | cons o r ih =>
  simp only [delS, hearS]
  by_cases he : o.f0 = id
  ·simp [he]
  ·simp [he]
   simpa using ih
theorem rwithout_ev (n : Int) (Y : List S59) (id : Int) (hl : Y.length ≤ 1000) : Ev (fun k => thalwegref06_Without.f k n Y id) (if RBn n Y then (if (hearS Y id).2 = true then (n, delS Y id, 0) else (0, [], 7)) else (0, [], 1)) := by
 unfold thalwegref06_Without.f
 refine Ev.bind (rnright_ev n Y (by omega)) ?_
 by_cases hR : RBn n Y
 ·rw [if_pos hR, decide_eq_true hR]
  simp only [if_true]
  have h := rwo_l0 id n Y hl Y.length 0 [] (by omega) (by omega) (by simp; omega)
  refine evq h ?_
  simp only [List.nil_append, Int.toNat_zero, List.drop_zero]
  rw [out_del id Y (rb_parts.1 hR).2.2]
  by_cases hh : (hearS Y id).2 = true
  ·rw [if_pos hh, if_neg (fun e => (del_short id Y).1 e hh)]
  ·rw [if_neg hh, if_pos ((del_short id Y).2 hh)]
 ·rw [if_neg hR, decide_eq_false hR]
  simp only [Bool.false_eq_true, if_false]
  exact Ev.now _
theorem rput4 {v : Int} (h : EpR v) : Ev (fun k => thalwegref01_Put.f k v 4) (be 4 v, 0) := by
 have := refPut_ev v 4 (bwf64 (by have := h.1; omega) (by have := h.2; omega))
 refine evq this ?_
 unfold putSpec
 rw [if_pos ⟨by omega, by omega, h.1, by have := h.2; rw [show (4 : Int).toNat = 4 from rfl, show (256 : Int) ^ 4 = 4294967296 by decide]; omega⟩]
 rfl
theorem rbytes_l0 (n : Int) (Y : List S59) (hl : Y.length ≤ 1000000) (hr : RBn n Y) : ∀ (d : Nat) (i : Int) (acc : List Int), 0 ≤ i → (Y.length : Int) - i = d → (acc.length : Int) ≤ 5 + 5 * i → Ev (fun k => thalwegref06_Bytes.l0 k acc i n Y) (acc ++ (Y.drop i.toNat).flatMap EB, 0) := by
 intro d
 induction d with
 | zero =>
  intro i acc h0 hd ha
  refine Ev.from 1 fun k => ?_
  simp only [thalwegref06_Bytes.l0]
  rw [if_neg (by omega), List.drop_eq_nil_of_le (by omega)]
  simp
 | succ d ih =>
  intro i acc h0 hd ha
  have h1 : i < (Y.length : Int) := by omega
  have hat := hr.2 i h0 h1
  refine Ev.step (f := fun k => _) (fun k => by simp only [thalwegref06_Bytes.l0]; rfl) ?_
  rw [ec_get Y i h0 h1, List.flatMap_cons, ← List.append_assoc]
  simp only [if_pos h1, if_pos h0]
  refine Ev.bind (rput4 hat.2.2.1) ?_
  simp only [Option.bind_some, if_pos (show acc.length < 140737488355328 by omega), w64 (x := i + 1) (by omega) (by omega)]
  have e : acc ++ [(rd_T59 Y i).f0 % 256] ++ be 4 (rd_T59 Y i).f1 = acc ++ EB (rd_T59 Y i) := by unfold EB; rw [List.append_assoc]
  have hq : (acc ++ [(rd_T59 Y i).f0 % 256]).length + (be 4 (rd_T59 Y i).f1).length < 140737488355328 := by rw [List.length_append, List.length_singleton, be_length]; omega
  simp only [if_pos hq, e]
  exact ih (i + 1) _ (by omega) (by omega) (by rw [List.length_append, EB_length]; omega)
theorem rbytes_ev (n : Int) (Y : List S59) (hl : Y.length ≤ 1000000) : Ev (fun k => thalwegref06_Bytes.f k n Y) (if RBn n Y then (bnB n Y, 0) else ([], 1)) := by
 unfold thalwegref06_Bytes.f
 refine Ev.bind (rnright_ev n Y (by omega)) ?_
 by_cases hR : RBn n Y
 ·rw [if_pos hR, decide_eq_true hR]
  simp only [if_true]
  refine Ev.bind (rput4 hR.1) ?_
  simp only [if_pos (show (be 4 n).length < 140737488355328 by rw [be_length]; omega)]
  have := rbytes_l0 n Y hl hR Y.length 0 (be 4 n ++ [(Y.length : Int) % 256]) (by omega) (by omega) (by rw [List.length_append, be_length, List.length_singleton]; omega)
  simpa [bnB] using this
 ·rw [if_neg hR, decide_eq_false hR]
  simp only [Bool.false_eq_true, if_false]
  exact Ev.now _
end Go.Proofs.Ytaiklcpmlkpfjaa.P
namespace Go.Proofs.Ytaiklcpmlkpfjaa.Pure
open Go.RowKit Go.Proofs.Ytaiklcpmlkpfjaa.P YtaiklcpmlkpfjaaW.PrintWords YtaiklcpmlkpfjaaW.PrintLast YtaiklcpmlkpfjaaW.PrintMore
open Classical
theorem bbytes_all (n : Int) (Y : List S59) (hl : Y.length ≤ 1000000) : Ev (fun k => beacon_Bytes.f k n Y) (if RBn n Y then (bnB n Y, 0) else ([], 1)) := by
 by_cases h : RBn n Y
 ·rw [if_pos h]; exact bnbytes_ev n Y hl h
 ·rw [if_neg h]; exact bnbytes_no n Y hl h
theorem bdoes_j0 (n n2 n3 e2 e3 : Int) (Y Y2 Y3 : List S59) (hl : Y.length ≤ 1000) (h2 : Y2.length ≤ 1001) (h3 : Y3.length ≤ 1000) : Ev (fun k => thalweglaw06_BeaconDoes.j0 k e2 e2 e3 e3 true n Y n Y n2 Y2 n2 Y2 n3 Y3 n3 Y3) true := by
 refine Ev.step (f := fun k => _) (fun k => by simp only [thalweglaw06_BeaconDoes.j0]; rfl) ?_
 refine Ev.bind awake06 ?_
 simp only [if_true]
 refine Ev.bind (bsame_ev n2 Y2 (by omega)) ?_
 simp only [if_true]
 refine Ev.bind (bsame_ev n3 Y3 (by omega)) ?_
 simp only [if_true]
 exact Ev.bind (bsame_ev n Y (by omega)) (Ev.now _)
theorem BeaconDoes : thalweglaw06_BeaconDoes.Pure := by
 intro x0 id ep h0 _ _
 obtain ⟨n, Y⟩ := x0
 simp only
 suffices h : Ev (fun k => thalweglaw06_BeaconDoes.f k n Y id ep) true by
  obtain ⟨K, hK⟩ := h
  exact ⟨K, hK K (Nat.le_refl _)⟩
 unfold thalweglaw06_BeaconDoes.f
 by_cases hl : (Y.length : Int) > 100
 ·simp only [if_pos hl]
  exact Ev.now _
 simp only [if_neg hl]
 have hown : thalwegref06_Own.f n Y = some (n, Y) := by
  unfold thalwegref06_Own.f
  rw [if_pos (by simp; omega)]
  rfl
 rw [hown]
 simp only [Option.bind_some]
 refine Ev.bind (bbytes_all n Y (by omega)) ?_
 refine Ev.bind (rbytes_ev n Y (by omega)) ?_
 rw [heard_eq n Y id (by omega)]
 simp only [Option.bind_some]
 refine Ev.bind (rheard_ev n Y id (by omega)) ?_
 rw [with_eq n Y id ep (by omega)]
 simp only [Option.bind_some]
 refine Ev.bind (rwith_ev n Y id ep (by omega)) ?_
 rw [without_eq n Y id (by omega)]
 simp only [Option.bind_some]
 refine Ev.bind (rwithout_ev n Y id (by omega)) ?_
 refine Ev.bind (bncheck_ev n Y (by omega)) ?_
 refine Ev.bind (rnright_ev n Y (by omega)) ?_
 have hc : (((if RBn n Y then (0 : Int) else 1) == 0) == decide (RBn n Y)) = true := by
  by_cases h : RBn n Y
  ·rw [if_pos h, decide_eq_true h]; rfl
  ·rw [if_neg h, decide_eq_false h]; rfl
 simp only [hc, if_true, beq_self_eq_true]
 obtain ⟨n2, Y2, e2, hw⟩ : ∃ n2 Y2 e2, (if RBn n Y ∧ 0 ≤ id ∧ id < 64 ∧ EpR ep then (n, putS Y id ep, 0) else ((0 : Int), ([] : List S59), (1 : Int))) = (n2, Y2, e2) := ⟨_, _, _, rfl⟩
 obtain ⟨n3, Y3, e3, hv⟩ : ∃ n3 Y3 e3, (if RBn n Y then (if (hearS Y id).2 = true then (n, delS Y id, 0) else ((0 : Int), ([] : List S59), (7 : Int))) else ((0 : Int), ([] : List S59), (1 : Int))) = (n3, Y3, e3) := ⟨_, _, _, rfl⟩
 have l1 := putS_length id ep Y
 have l2 := del_length id Y
 have h2 : Y2.length ≤ 1001 := by
  split at hw <;> (simp only [Prod.mk.injEq] at hw; rw [← hw.2.1]; first | omega | simp)
 have h3 : Y3.length ≤ 1000 := by
  split at hv
  ·split at hv <;> (simp only [Prod.mk.injEq] at hv; rw [← hv.2.1]; first | omega | simp)
  ·simp only [Prod.mk.injEq] at hv; rw [← hv.2.1]; simp
 rw [hw, hv]
 exact bdoes_j0 n n2 n3 e2 e3 Y Y2 Y3 (by omega) h2 h3
end Go.Proofs.Ytaiklcpmlkpfjaa.Pure
namespace Go.Proofs.YtaiklcpmlkpfjaaW.Opn
open Go.RowKit YtaiklcpmlkpfjaaW.PrintWords Go.ChangeShapes Go.WideShapes Go.Deep
def Opens (P : Program) (t : TypeId) {α : Type} (d : Kd α) (wf : α → Prop) : Prop :=
 ∀ {H : Type} (enc : TypeId × Value → H) (w : World) (base : Nat) (spare : Nat → Bool) (held : Bool) (fuel : Nat) (cs : List Value) (y : DataW H × List MemPlace),
  DataW.trod enc P w base spare held fuel t cs = some y → ∃ x : α, d.K w x cs ∧ wf x
theorem opens_int {P : Program} {t : TypeId} {k : IntKind} (ht : P.underlying t = some (.int k)) : Opens P t (Kd.int k) (fun x => (Lit.int k x).wf = true) := by
 intro H enc w base spare held fuel cs y h
 obtain ⟨n, rfl, _, hw⟩ := DataW.trod_int ht h
 exact ⟨n, rfl, hw⟩
theorem opens_iso {P : Program} {t : TypeId} {α β : Type} {d : Kd α} {wf : α → Prop} (f : β → α) (g : α → β) (hg : ∀ a, f (g a) = a) (h : Opens P t d wf) : Opens P t (Kd.iso d f) (fun b => wf (f b)) := by
 intro H enc w base spare held fuel cs y hy
 obtain ⟨x, hx, hw⟩ := h enc w base spare held fuel cs y hy
 exact ⟨g x, by show d.K w (f (g x)) cs; rw [hg]; exact hx, by show wf (f (g x)); rw [hg]; exact hw⟩
def OpensL (P : Program) : (ts : List TypeId) → {α : Type} → (d : Kd α) → (wf : α → Prop) → Prop := fun ts {α} d wf =>
 ∀ {H : Type} (enc : TypeId × Value → H) (w : World) (base : Nat) (spare : Nat → Bool) (held : Bool) (n : Nat) (cs : List Value) (xs : List (DataW H × List MemPlace)) (off : Nat),
  (∀ (i : Nat) (t : TypeId), ts[i]? = some t → ∃ y, DataW.trod enc P w base spare held n t ((cs.drop (off + ((ts.take i).map P.cellsOf).sum)).take (P.cellsOf t)) = some y) →
  ∃ x : α, d.K w x ((cs.drop off).take ((ts.map P.cellsOf).sum)) ∧ wf x
theorem opensL_one {P : Program} {t : TypeId} {α : Type} {d : Kd α} {wf : α → Prop} (h : Opens P t d wf) : OpensL P [t] d wf := by
 intro H enc w base spare held n cs xs off hx
 obtain ⟨y, hy⟩ := hx 0 t rfl
 simpa using h enc w base spare held n _ y (by simpa using hy)
theorem opensL_cons {P : Program} {t : TypeId} {ts : List TypeId} {α β : Type} {d : Kd α} {d' : Kd β} {wf : α → Prop} {wf' : β → Prop} (h : Opens P t d wf) (h' : OpensL P ts d' wf') :
  OpensL P (t :: ts) (Kd.pair d d') (fun x => wf x.1 ∧ wf' x.2) := by
 intro H enc w base spare held n cs xs off hx
 obtain ⟨y, hy⟩ := hx 0 t rfl
 obtain ⟨x, hk, hw⟩ := h enc w base spare held n _ y (by simpa using hy)
 obtain ⟨x', hk', hw'⟩ := h' enc w base spare held n cs xs (off + P.cellsOf t) (fun i u hu => by
  have := hx (i + 1) u hu
  simpa [Nat.add_assoc] using this)
 refine ⟨(x, x'), ⟨(cs.drop off).take (P.cellsOf t), (cs.drop (off + P.cellsOf t)).take ((ts.map P.cellsOf).sum), ?_, hk, hk'⟩, hw, hw'⟩
 simp only [List.map_cons, List.sum_cons]
 rw [List.take_add, List.drop_drop]
def lineB (P : Program) : List Field → Nat → Bool
 | [], _ => true
 | f :: fs, off => (f.offset == off) && lineB P fs (off + P.cellsOf f.type)
theorem line_at {P : Program} : ∀ (fs : List Field) (off : Nat), lineB P fs off = true → ∀ (i : Nat) (f : Field), fs[i]? = some f → f.offset = off + (((fs.map (·.type)).take i).map P.cellsOf).sum := by
 intro fs
 induction fs with
 | nil => intro off _ i f h; simp at h
 | cons g gs ih =>
  intro off hb i f h
  unfold lineB at hb
  rw [Bool.and_eq_true, beq_iff_eq] at hb
  cases i with
  | zero =>
   simp at h
   subst h
   simpa using hb.1
  | succ i =>
   have := ih _ hb.2 i f (by simpa using h)
   simp only [List.map_cons, List.take_succ_cons, List.sum_cons]
   omega
theorem opens_struct {P : Program} {t : TypeId} {fs : Array Field} {α : Type} {d : Kd α} {wf : α → Prop} (ht : P.underlying t = some (.struct fs)) (hl : lineB P fs.toList 0 = true) (hc : P.cellsOf t = ((fs.toList.map (·.type)).map P.cellsOf).sum)
  (h : OpensL P (fs.toList.map (·.type)) d wf) : Opens P t d wf := by
 intro H enc w base spare held fuel cs y hy
 obtain ⟨xs, n, _, _, hlen, hxl, hf⟩ := DataW.trod_struct ht hy
 obtain ⟨x, hk, hw⟩ := h enc w base spare held n cs xs 0 (fun i u hu => by
  rw [List.getElem?_map, Option.map_eq_some_iff] at hu
  obtain ⟨f, hf0, rfl⟩ := hu
  have hi : i < fs.size := by
   have := (List.getElem?_eq_some_iff.1 hf0).1
   simpa using this
  have h1 := hf i f (by rw [← Array.getElem?_toList]; exact hf0)
  rw [line_at _ 0 hl i f hf0] at h1
  exact ⟨_, h1.trans (List.getElem?_eq_getElem (by omega))⟩)
 rw [← hc, List.drop_zero, ← hlen, List.take_length] at hk
 exact ⟨x, hk, hw⟩
theorem reads_build {P : Program} {e : TypeId} {α : Type} {d : Kd α} {wf : α → Prop} (hs : P.cellsOf e = d.sz) (w : World) (ad : Addr) : ∀ (len : Nat), (∀ i, i < len → ∃ (x : α) (c : List Value), c.length = d.sz ∧ d.K w x c ∧ wf x ∧ ∀ j u, c[j]? = some u → w.cell? (ad.add (i * d.sz + j)) = some u) →
  ∃ xs : List α, xs.length = len ∧ (∀ x ∈ xs, wf x) ∧ ∀ j p, xs[j]? = some p → ∃ c, c.length = d.sz ∧ d.K w p c ∧ ∀ i u, c[i]? = some u → w.cell? (ad.add (j * d.sz + i)) = some u := by
 intro len
 induction len with
 | zero => intro _; exact ⟨[], rfl, by simp, by simp⟩
 | succ n ih =>
  intro h
  obtain ⟨xs, hl, hw, hx⟩ := ih (fun i hi => h i (by omega))
  obtain ⟨x, c, hc, hk, hwx, hcell⟩ := h n (by omega)
  refine ⟨xs ++ [x], by simp [hl], ?_, ?_⟩
  ·intro y hy
   rcases List.mem_append.1 hy with hy | hy
   ·exact hw y hy
   ·rw [List.mem_singleton.1 hy]; exact hwx
  ·intro j p hj
   rcases Nat.lt_or_ge j xs.length with hjl | hjl
   ·rw [List.getElem?_append_left hjl] at hj
    exact hx j p hj
   ·have : j = xs.length := by
     have := (List.getElem?_eq_some_iff.1 hj).1
     simp at this
     omega
    subst this
    have hp : x = p := by simpa using hj
    subst hp
    exact ⟨c, hc, hk, by rw [hl]; exact hcell⟩
theorem opens_slice {P : Program} {t e : TypeId} {α : Type} {d : Kd α} {wf : α → Prop} (ht : P.underlying t = some (.slice e)) (hs : P.cellsOf e = d.sz) (h : Opens P e d wf) : Opens P t (Kd.slice e d) (fun l => l.length ≤ maxLen ∧ ∀ x ∈ l, wf x) := by
 intro H enc w base spare held fuel cs y hy
 rcases open_slice ht hy with ⟨rfl, _⟩ | ⟨a, len, cap, m, n, D, Pl, rfl, hb, hl, hm, hmm, hx, hi⟩
 ·exact ⟨[], ⟨none, 0, rfl, Nat.le_refl _, rfl, by simp, by simp⟩, by simp, by simp⟩
 ·have hle : len ≤ m := by rw [hmm]; split <;> omega
  obtain ⟨xs, hxl, hwf, hxs⟩ := reads_build (P := P) (e := e) (d := d) (wf := wf) hs w a len (fun i hlt => by
   obtain ⟨cs', hc, ht'⟩ := hi i (by omega)
   obtain ⟨_, hcl, hat⟩ := World.cells?_some hc
   obtain ⟨x, hk, hwx⟩ := h enc w base spare held n cs' _ ht'
   refine ⟨x, cs', by omega, hk, hwx, fun j u hj => ?_⟩
   have hjl := (List.getElem?_eq_some_iff.1 hj).1
   have := hat j (by omega)
   rw [← Go.Deep.add_add, ← hs, this, hj])
  have hm' : len ≤ maxLen := by omega
  subst hxl
  have hm2 : xs.length ≤ 9223372036854775807 := by unfold maxLen at hm'; omega
  exact ⟨xs, ⟨some a, cap, rfl, hl, rfl, hm2, fun _ => ⟨a, rfl, hxs⟩⟩, hm', hwf⟩
end Go.Proofs.YtaiklcpmlkpfjaaW.Opn
namespace Go.Proofs.Ytaiklcpmlkpfjaa.beaconDoes
open Go.ChangeShapes Go.WideShapes Go.ChangeAt Go.RowKit Go.Proofs.YtaiklcpmlkpfjaaW YtaiklcpmlkpfjaaW.PrintWords Go.Proofs.Ytaiklcpmlkpfjaa.P
open Go.ChangeMaps (open_string shut_string)
theorem own : ownKnob Try.prog.godebug = none := by kernel_rfl
theorem laidOut : laidOutB Try.prog = true := by kernel_rfl
theorem opn59 : Opn.Opens Try.prog 59 k59 (fun x => ((Lit.int .i64 x.f0).wf = true ∧ (Lit.int .i64 x.f1).wf = true)) :=
 Opn.opens_iso (fun x : S59 => (x.f0, x.f1)) (fun a => ⟨a.1, a.2⟩) (fun _ => rfl) (Opn.opens_struct Try.underlying59 (by kernel_rfl) (by kernel_rfl) (Opn.opensL_cons (Opn.opens_int Try.underlying3) (Opn.opensL_one (Opn.opens_int Try.underlying3))))
theorem opn25 : Opn.Opens Try.prog 25 k25 (fun x => ((Lit.int .i64 x.f0).wf = true ∧ (x.f1.length ≤ maxLen ∧ ∀ x0_ ∈ x.f1, ((Lit.int .i64 x0_.f0).wf = true ∧ (Lit.int .i64 x0_.f1).wf = true)))) :=
 Opn.opens_iso (fun x : S25 => (x.f0, x.f1)) (fun a => ⟨a.1, a.2⟩) (fun _ => rfl) (Opn.opens_struct Try.underlying25 (by kernel_rfl) (by kernel_rfl) (Opn.opensL_cons (Opn.opens_int Try.underlying3) (Opn.opensL_one (Opn.opens_slice Try.underlying23 (by kernel_rfl) opn59))))
theorem lifted (os : Os) (started : os.Started) (H : Type) (enc : TypeId × Value → H) :
  ReturnsInHanded {} Try.checked os 6 .any (Rows.beaconDoesSpec.pre6 enc Try.prog Try.f6 Rows.beaconDoesRow.domain false) (Rows.beaconDoesSpec.post enc Try.prog Try.f6 false true false false) := by
 refine returnsInHanded_of_change_sized (C := Try.checked) own started (by kernel_rfl) Try.func6
  (ChangeSpec.witness6 (enc := enc) (C := Try.checked) false ⟨#[], #[.agg #[(.int .i64 0), (.slice none 0 0)], .int .i64 0, .int .i64 0], []⟩ 8 (by kernel_rfl) (by kernel_rfl) (by kernel_rfl) (by kernel_rfl)) ?_
 intro W base args ds gs before hval0 hW hcnd hsz0 _
 have hval : ∀ (j : Nat) t v, Try.f6.params[j]? = some t → args[j]? = some v → Value.okWide Try.prog W .any base t v := hval0
 have hW' := hW
 obtain ⟨p, q, hA0, hV, rfl, hfz, hnd⟩ := hW
 have hA : DataW.TrodAll enc Try.prog W 0 (fun _ => true) true Try.f6.params.toList args.toList ds p := hA0
 rw [Try.params6] at hA hval
 obtain ⟨v0, vs0, d0, ds0, p0, q0, hargs, rfl, rfl, h0, r0⟩ := trodAll_cons hA
 obtain ⟨v1, vs1, d1, ds1, p1, q1, rfl, rfl, rfl, h1, r1⟩ := trodAll_cons r0
 obtain ⟨v2, vs2, d2, ds2, p2, q2, rfl, rfl, rfl, h2, r2⟩ := trodAll_cons r1
 obtain ⟨rfl, rfl, rfl⟩ := trodAll_nil r2
 obtain rfl : args = #[v0, v1, v2] := by cases args; simp_all
 obtain ⟨rfl, rfl⟩ := trodVars_none hV
 have k0 := h0
 have lt0 : ∀ x ∈ p0, x.block < W.heap.size := by obtain ⟨m, hm⟩ := k0; exact DataW.trod_lt m _ _ _ hm
 obtain ⟨cs0, hv0, _⟩ := okWide_struct Try.underlying25 (hval 0 25 v0 rfl rfl)
 subst hv0
 obtain ⟨x0, K0, W0⟩ : ∃ x : S25, k25.K W x cs0.toList ∧ ((Lit.int .i64 x.f0).wf = true ∧ (x.f1.length ≤ maxLen ∧ ∀ x0_ ∈ x.f1, ((Lit.int .i64 x0_.f0).wf = true ∧ (Lit.int .i64 x0_.f1).wf = true))) := by
  obtain ⟨fuel, hf⟩ := h0
  exact opn25 enc W 0 (fun _ => true) true fuel _ _ hf
 obtain ⟨A0_1, c0_1, E0, g0_1, C0_1⟩ := k25_open K0
 obtain ⟨cl0⟩ := cs0
 have E0' : cl0 = _ := E0
 subst E0'
 obtain ⟨a1, rfl, rfl, rfl, w1⟩ := open_int Try.underlying3 (hval 1 3 v1 rfl rfl) h1
 obtain ⟨a2, rfl, rfl, rfl, w2⟩ := open_int Try.underlying3 (hval 2 3 v2 rfl rfl) h2
 obtain ⟨k, hk⟩ := Pure.BeaconDoes x0 a1 a2 W0 w1 w2
 clear hA0 hval0 hsz0
 refine (thalweglaw06_BeaconDoes.calls (k := k) (a0_0 := x0.f0) (A0_1 := A0_1) (c0_1 := c0_1) (l0_1 := x0.f1) (a1 := a1) (a2 := a2) (r := true) (w := W) (hr0_1 := C0_1) (hc0_1 := g0_1) (h := hk)).mono fun e W' ⟨he, bel⟩ => ?_
 subst he
 exact ⟨_, rfl, _, _, _, [], _, [], hW', trodAll_mk1 (shut_bool Try.underlying4 _), (trodAll_cons_mk (Below.trod laidOut (by kernel_rfl) (of_decide_eq_true (by kernel_rfl)) k0 bel lt0) (trodAll_cons_mk (shut_int Try.underlying3 w1) (trodAll_cons_mk (shut_int Try.underlying3 w2) trodAll_mk0))), rfl, bel.frame _, fun h => by cases h⟩
theorem over : Rows.beaconDoesRow.holds Try.pinned (OpenSpec.ofChange Rows.beaconDoesSpec) :=
 OpenClaim.holds_of_wide 6 Try.f6 rfl rfl rfl rfl rfl rfl rfl ⟨rfl, rfl, rfl, rfl, rfl⟩ rfl rfl rfl rfl rfl (by kernel_rfl) Try.func6 (by kernel_rfl)
  (of_decide_eq_true (by kernel_rfl)) (by unfold Func.isWrapper; first | (rw [if_pos (by decide +kernel)]; kernel_rfl) | (rw [if_neg (by decide +kernel)]; exact ⟨rfl, rfl⟩))
  (fun os started H enc _ => lifted os started H enc)
theorem proved : Rows.BeaconDoesSaid := over
end Go.Proofs.Ytaiklcpmlkpfjaa.beaconDoes
namespace Go.Proofs.Ytaiklcpmlkpfjaa
theorem beaconDoes_holds : Rows.BeaconDoesSaid := beaconDoes.proved
end Go.Proofs.Ytaiklcpmlkpfjaa
