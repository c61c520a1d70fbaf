/- Layer 6, by hand: slices.Clone at echoes. -/
import Derived.Test.YtljajnednggebaaEtf

import Derived.Lib.SliceRun
namespace Go.Proofs.Ytljajnednggebaa.P
set_option linter.unusedSimpArgs false
set_option linter.unusedVariables false
open Go.RowKit Go.Proofs.YtljajnednggebaaW.PrintWords Go.Proofs.YtljajnednggebaaW.PrintLast Go.Proofs.YtljajnednggebaaW.PrintMore
set_option maxHeartbeats 8000000 in
set_option maxRecDepth 100000 in
theorem cl_nil (c : Nat) (Y : List S35) (w : World) (hr : Kd.C k35 w none Y.length Y) :
    Calls Try.prog 26 #[.slice none Y.length c] w fun e w' => ∃ v, e = .returned v ∧ Kd.R k35 35 w' w.heap.size (fun _ => True) v Y ∧ Below w.heap.size w w' := by
  have hY : Y = [] := by
    cases Y with
    | nil => rfl
    | cons o Y =>
      obtain ⟨ad, e, _⟩ := hr.2.2 (by simp)
      cases e
  subst hY
  clear hr
  have q22 := fun (w : World) (a : Option Addr) (n c n' c' : Nat) => Lib.run_eql_slice_nil (P := Try.prog) w 30 _ a n c n' c' Try.underlying30
  go_enter Try.func26, Try.ntmps26
  go_wp2
  go_ret
  exact ⟨_, rfl, Kd.R_nil _ _ _ _ _, Below.refl _ _⟩
set_option maxHeartbeats 8000000 in
set_option maxRecDepth 100000 in
theorem cl_some (ad : Addr) (c : Nat) (Y : List S35) (w : World) (hr : Kd.C k35 w (some ad) Y.length Y) (hl : Y.length ≤ 1000000000000) :
    Calls Try.prog 26 #[.slice (some ad) Y.length c] w fun e w' => ∃ v, e = .returned v ∧ Kd.R k35 35 w' w.heap.size (fun _ => True) v Y ∧ Below w.heap.size w w' := by
  have HR := Aside0.mk hr
  have HL := Aside0.mk hl
  clear hr hl
  have q22 := fun (w : World) (a : Option Addr) (n c n' c' : Nat) => Lib.run_eql_slice_nil (P := Try.prog) w 30 _ a n c n' c' Try.underlying30
  go_enter Try.func26, Try.ntmps26
  have HB5 := Aside0.mk (below_alloc (Below.refl w.heap.size w) (.cells #[] 35))
  have HO5 := Aside0.mk (show Kd.R k35 35 (w.alloc (.cells #[] 35)) w.heap.size (fun _ => True) (.slice (some ⟨w.heap.size, 0, none⟩) 0 0) [] from ⟨fun _ _ => trivial, [], World.ownsRow_made w #[] 0 (Nat.le_refl _) (Nat.zero_le _) (by simp), Reps.none _ _⟩)
  go_wp2_with (((with_reducible refine gate_builtin (b := .append) (xs := #[.tmp 5, .tmp 6]) rfl ?_); at_builtin; refine Kd.R_append_rows k35 (w0 := w) w.heap.size rfl (.tmp 5) (.tmp 6) 30 35 (.agg #[(.int .i64 0), (.int .i64 0)]) 16 rfl Try.underlying30 info35 rfl (by decide) (by omega) (.slice (some ⟨w.heap.size, 0, none⟩) 0 0) ([] : List S35) Y _ _ _ (fun _ => True) (fun _ => False) rfl rfl ?aO ?aR (fun _ _ h => h) (fun _ h => h.elim) ?aF ?aB ?aS ?aL ?_; (case aR => exact Kd.C_below HR.out HB5.out); (case aB => exact HB5.out); (case aF => exact (fun _ _ => trivial)); (case aO => exact HO5.out); (case aS => exact below_size HB5.out); (case aL => have := HL.out; simp only [List.length_nil]; omega); intro v2 w2 ho hb hg hat; have HO := Aside0.mk ho; have HB := Aside0.mk hb; clear ho hb hg hat))
  go_ret
  rw [List.nil_append] at HO
  exact ⟨_, rfl, HO.out, HB.out⟩
def slices_CloneE.f (Y : List S35) : Option (List S35) := if Y.length ≤ 1000000000000 then some Y else none
theorem slices_CloneE.calls (A0 : Option Addr) (c0 : Nat) (l0 : List S35) (r : List S35) (w : World) (hr0 : Kd.C k35 w A0 l0.length l0) (h : slices_CloneE.f l0 = some r) :
    Calls Try.prog 26 #[.slice A0 l0.length c0] w fun e w' => ∃ v0_ : Value, e = .returned v0_ ∧ Kd.R k35 35 w' w.heap.size (fun _ => True) v0_ r ∧ Below w.heap.size w w' := by
  unfold slices_CloneE.f at h
  split at h
  · rename_i hc
    cases h
    cases A0 with
    | none => exact cl_nil c0 l0 w hr0
    | some ad => exact cl_some ad c0 l0 w hr0 hc
  · exact absurd h (by simp)
end Go.Proofs.Ytljajnednggebaa.P
