/- slices.Insert at echoes, of one element, and slices.Delete of one, in rows of one's own. -/
import Derived.Test.YtljajnednggebaaEtf
namespace Go.Proofs.Ytljajnednggebaa.P
set_option linter.unusedSimpArgs false
set_option linter.unusedVariables false
open Go.RowKit Go.Proofs.YtljajnednggebaaW.PrintWords Go.Proofs.YtljajnednggebaaW.PrintLast Go.Proofs.YtljajnednggebaaW.PrintMore
theorem one_C {w : World} {h : Nat} {x : S35} (hv : w.heap[h]? = some (.cells (fl x).toArray 35 (0, 0))) : k35.C w (some ⟨h, 0, none⟩) 1 [x] := by
  refine ⟨rfl, by omega, fun _ => ⟨_, rfl, fun j p hp => ⟨fl p, rfl, k35_mk _ _, fun i u hu => ?_⟩⟩⟩
  have hj : j = 0 := by have := (List.getElem?_eq_some_iff.1 hp).1; simpa using this
  subst hj
  obtain rfl : x = p := by simpa using hp
  rw [Nat.zero_mul, Nat.zero_add, show (⟨h, 0, none⟩ : Addr).add i = ⟨h, i, none⟩ from add_plain h i]
  have hi : i < 2 := by have := (List.getElem?_eq_some_iff.1 hu).1; simpa [fl] using this
  simpa [World.cell?, hv] using hu
set_option maxHeartbeats 8000000 in
set_option maxRecDepth 100000 in
theorem ins_end (A : Option Addr) (c : Nat) (X : List S35) (x : S35) (h : Nat) (w : World) (base : Nat) (hR : k35.R 35 w base (fun _ => True) (.slice A X.length c) X) (hb : base ≤ w.heap.size) (hv : w.heap[h]? = some (.cells (fl x).toArray 35 (0, 0))) (hl : X.length ≤ 1000000000000) :
    Calls Try.prog 25 #[.slice A X.length c, .int .i64 (X.length : Nat), .slice (some ⟨h, 0, none⟩) 1 1] w fun e w' => ∃ v', e = .returned v' ∧ k35.R 35 w' base (fun _ => True) v' (X ++ [x]) ∧ w.grownBy w' (Value.slice A X.length c).ownBlock ∧ (v'.ownBlock = (Value.slice A X.length c).ownBlock ∨ ∃ b, v'.ownBlock = some b ∧ w.heap.size ≤ b) := by
  have HC := Aside0.mk (one_C hv)
  have hnc := (Kd.R_reads' hR).2.1
  have HR := Aside0.mk hR
  have HL := Aside0.mk hl
  have HB := Aside0.mk hb
  clear hR hb hv
  go_enter Try.func25, Try.ntmps25
  go_wp2_with (((with_reducible refine gate_builtin (b := .append) (xs := #[.tmp 23, .tmp 24]) rfl ?_); at_builtin; refine Kd.R_append_rows k35 (w0 := w) base rfl (.tmp 23) (.tmp 24) 30 35 (.agg #[(.int .i64 0), (.int .i64 0)]) 16 rfl Try.underlying30 info35 rfl (by decide) (by omega) (.slice A X.length c) X [x] _ _ _ (fun _ => True) (fun _ => False) rfl rfl ?aO ?aR (fun _ _ h => h) (fun _ h => h.elim) ?aF ?aB ?aS ?aL ?_; (case aR => exact HC.out); (case aB => exact Below.refl _ _); (case aF => exact (fun _ _ => trivial)); (case aO => exact HR.out); (case aS => exact HB.out); (case aL => have := HL.out; omega); intro v2 w2 ho hb hg hat; have HO := Aside0.mk ho; have HG := Aside0.mk hg; have HA := Aside0.mk hat; clear ho hb hg hat))
  all_goals
    go_ret
    exact ⟨_, rfl, HO.out, by cases A <;> exact HG.out, by cases A <;> exact HA.out⟩
theorem own_parts {w : World} {base : Nat} {g n c : Nat} {X : List S35} (hR : k35.R 35 w base (fun _ => True) (.slice (some ⟨g, 0, none⟩) n c) X) : ∃ cur : List Value, base ≤ g ∧ w.heap[g]? = some (.cells cur.toArray 35 (0, 0)) ∧ n = X.length ∧ n ≤ c ∧ c ≤ 9223372036854775807 ∧ cur.length = c * 2 ∧ cur.take (X.length * 2) = flat X := by
  have hn := (Kd.R_reads' hR).1
  obtain ⟨h1, h2⟩ := own_flat hR
  rcases h2 with ⟨h3, _⟩ | ⟨g2, cap, cur, h3, hb, hh, hnc, hcm, hcs, ht⟩
  · cases h3
  · injection h3 with a1 a2 a3
    injection a1 with a1
    injection a1 with a1
    subst a1; subst a3
    exact ⟨cur.toList, hb, hh, hn, by omega, hcm, by rw [Array.length_toList]; exact hcs, ht⟩
theorem parts_own {w : World} {base : Nat} {g n c : Nat} {X : List S35} {cur : List Value} (hb : base ≤ g) (hh : w.heap[g]? = some (.cells cur.toArray 35 (0, 0))) (hn : n = X.length) (hnc : n ≤ c) (hcm : c ≤ 9223372036854775807) (hcs : cur.length = c * 2) (ht : cur.take (X.length * 2) = flat X) : k35.R 35 w base (fun _ => True) (.slice (some ⟨g, 0, none⟩) n c) X := by
  subst hn
  exact flat_own ⟨flat_length X, .inr ⟨g, c, cur.toArray, rfl, hb, hh, hnc, hcm, by simpa using hcs, ht⟩⟩
/-- what stands behind the two copies of an insertion -/
theorem ins_list (X : List S35) (x : S35) (i : Nat) (cur : List Value) (hi : i < X.length) (hc : cur.take (X.length * 2) = flat X) (hl : (X.length + 1) * 2 ≤ cur.length) :
    (splice (splice cur ((i + 1) * 2) (flat (X.drop i))) (i * 2) (flat [x])).take ((X.length + 1) * 2) = flat (X.take i ++ x :: X.drop i) := by
  have e0 : cur.take (i * 2) = flat (X.take i) := by
    rw [← flat_take, ← hc, List.take_take, Nat.min_eq_left (by omega)]
  have l0 : (flat (X.take i)).length = i * 2 := by rw [flat_length, List.length_take, Nat.min_eq_left (by omega)]
  have l1 : (flat [x]).length = 2 := rfl
  have l2 : (flat (X.drop i)).length = (X.length - i) * 2 := by rw [flat_length, List.length_drop]
  have e1 : (splice cur ((i + 1) * 2) (flat (X.drop i))).take (i * 2) = flat (X.take i) := by
    rw [splice, List.take_append_of_le_length (by rw [List.length_take]; omega), List.take_take, Nat.min_eq_left (by omega), e0]
  have e2 : (splice cur ((i + 1) * 2) (flat (X.drop i))).drop (i * 2 + 2) = flat (X.drop i) ++ cur.drop ((i + 1) * 2 + (flat (X.drop i)).length) := by
    rw [splice, show i * 2 + 2 = (i + 1) * 2 by omega]
    exact List.drop_left' (by rw [List.length_take]; omega)
  have e3 : splice (splice cur ((i + 1) * 2) (flat (X.drop i))) (i * 2) (flat [x]) = flat (X.take i) ++ (flat [x] ++ (flat (X.drop i) ++ cur.drop ((i + 1) * 2 + (flat (X.drop i)).length))) := by
    rw [splice, e1, l1, e2]
  rw [e3, ← List.append_assoc, ← List.append_assoc, show X.take i ++ x :: X.drop i = X.take i ++ [x] ++ X.drop i by simp, flat_append, flat_append]
  exact List.take_left' (by rw [List.length_append, List.length_append, l0, l1, l2]; omega)
theorem ins_list2 (X : List S35) (x : S35) (i : Nat) (cur zs : List Value) (hi : i < X.length) (hc : cur = flat (X.take i) ++ zs) (hl : (X.length + 1 - i) * 2 ≤ zs.length) :
    (splice (splice cur (i * 2) (flat [x])) ((i + 1) * 2) (flat (X.drop i))).take ((X.length + 1) * 2) = flat (X.take i ++ x :: X.drop i) := by
  have l0 : (flat (X.take i)).length = i * 2 := by rw [flat_length, List.length_take, Nat.min_eq_left (by omega)]
  have l1 : (flat [x]).length = 2 := rfl
  have l2 : (flat (X.drop i)).length = (X.length - i) * 2 := by rw [flat_length, List.length_drop]
  have e0 : cur.take (i * 2) = flat (X.take i) := by rw [hc]; exact List.take_left' l0
  have e1 : splice cur (i * 2) (flat [x]) = (flat (X.take i) ++ flat [x]) ++ cur.drop (i * 2 + 2) := by rw [splice, e0, l1, List.append_assoc]
  have e2 : (splice cur (i * 2) (flat [x])).take ((i + 1) * 2) = flat (X.take i) ++ flat [x] := by
    rw [e1]; exact List.take_left' (by rw [List.length_append, l0, l1]; omega)
  rw [splice, e2, ← List.append_assoc, show X.take i ++ x :: X.drop i = X.take i ++ [x] ++ X.drop i by simp, flat_append, flat_append]
  exact List.take_left' (by rw [List.length_append, List.length_append, l0, l1, l2]; omega)
theorem grown_drew (W : World) (r : Option Nat) : W.grownBy W.drew r := ⟨rfl, rfl, rfl, Nat.le_refl _, fun _ _ _ => rfl⟩
theorem grown_wide {W W1 : World} (r : Option Nat) (h : W.grownBy W1 none) : W.grownBy W1 r := ⟨h.os, h.tape, h.output, h.size, fun k hk _ => h.block k hk (by simp)⟩
theorem grown_cut {W W1 W2 : World} {g : Nat} {r : Option Nat} (h : W.grownBy W1 r) (k : W1.grownBy W2 (some g)) (hg : W.heap.size ≤ g) : W.grownBy W2 r := ⟨k.os.trans h.os, k.tape.trans h.tape, k.output.trans h.output, Nat.le_trans h.size k.size, fun q hq hn => (k.block q (Nat.lt_of_lt_of_le hq h.size) (fun e => by injection e with e; omega)).trans (h.block q hq hn)⟩
theorem sz35 : (Try.prog.info? 35).map (·.size) = some 2 := by kernel_rfl
theorem szof35 : ∀ w, (Go.sizeOf 35).run Try.prog w = .ok 2 w := fun w => by
  obtain ⟨i0, hi, h⟩ := Option.map_eq_some_iff.1 sz35
  simp [sizeOf, typeInfo, hi, h]
theorem sh_src {w : World} {g : Nat} {cur : List Value} {X : List S35} (i j : Nat) (v : Value) (hh : w.heap[g]? = some (.cells cur.toArray 35 (0, 0))) (ht : cur.take (X.length * 2) = flat X) (hj : (flat (X.drop i))[j]? = some v) : w.cell? ((⟨g, i * 2, none⟩ : Addr).add j) = some v := by
  rw [← flat_drop, List.getElem?_drop, ← ht, List.getElem?_take] at hj
  split at hj
  · rw [Addr.add_lit]
    simpa [World.cell?, hh] using hj
  · cases hj
theorem tk_len (X : List S35) (i : Nat) (h : i ≤ X.length) : (flat (X.take i)).length = i * 2 := by rw [flat_length, List.length_take, Nat.min_eq_left h]
theorem gr_src {w : World} {g : Nat} {cur : List Value} {X : List S35} (i j : Nat) (v : Value) (hh : w.heap[g]? = some (.cells cur.toArray 35 (0, 0))) (ht : cur.take (X.length * 2) = flat X) (hi : i ≤ X.length) (hj : (flat (X.take i))[j]? = some v) : w.cell? ((⟨g, 0, none⟩ : Addr).add j) = some v := by
  rw [← flat_take, ← ht, List.take_take, Nat.min_eq_left (by omega), List.getElem?_take] at hj
  split at hj
  · rw [add_plain]
    simpa [World.cell?, hh] using hj
  · cases hj
set_option maxHeartbeats 8000000 in
set_option maxRecDepth 100000 in
theorem ins_shift (g c i : Nat) (X : List S35) (x : S35) (h : Nat) (w : World) (base : Nat) (hR : k35.R 35 w base (fun _ => True) (.slice (some ⟨g, 0, none⟩) X.length c) X) (hv : w.heap[h]? = some (.cells (fl x).toArray 35 (0, 0))) (hne : h ≠ g) (hl : X.length ≤ 1000000000000) (hi : i < X.length) (hroom : X.length + 1 ≤ c) :
    Calls Try.prog 25 #[.slice (some ⟨g, 0, none⟩) X.length c, .int .i64 i, .slice (some ⟨h, 0, none⟩) 1 1] w fun e w' => ∃ v', e = .returned v' ∧ k35.R 35 w' base (fun _ => True) v' (X.take i ++ x :: X.drop i) ∧ w.grownBy w' (some g) ∧ (v'.ownBlock = some g ∨ ∃ b, v'.ownBlock = some b ∧ w.heap.size ≤ b) := by
  obtain ⟨cur, hb, hh, _, hnc, hcm, hcs, ht⟩ := own_parts hR
  have hov : ∀ lb cb, (callFunc 34 #[.slice (some ⟨h, 0, none⟩) 1 1, .slice (some ⟨g, (i + 1) * 2, none⟩) lb cb]).run Try.prog w = .ok (.value (.bool false)) w := fun lb cb => by
    rw [run_callFunc_extern Try.func34 (by kernel_rfl) (by kernel_rfl) (by kernel_rfl) (e := Extern.SlicesOverlaps.overlaps #[30, 30] #[4]) (by kernel_rfl),
      Lib.run_overlaps_apart w 30 4 35 Try.underlying30 2 szof35 ⟨h, 0, none⟩ ⟨g, (i + 1) * 2, none⟩ 1 1 lb cb hne 35 35 2 (c * 2) (by simp [World.shape?, hv, fl]) (by simp [World.shape?, hh, hcs]) (by omega) (by simp [World.frozen?, hv]) (by simp [World.frozen?, hv])]
    rfl
  have hw1 : wrap64 ((i : Int) + 1) = (i : Int) + 1 := w64 (by omega) (by omega)
  have hw2 : wrap64 ((X.length : Int) + 1) = (X.length : Int) + 1 := w64 (by omega) (by omega)
  have HL := Aside0.mk (And.intro hl (And.intro hb (And.intro hcm (And.intro hcs ht))))
  have HV := Aside0.mk hv
  have HH := Aside0.mk hh
  have b1 : ((i : Int) == (X.length : Int)) = false := by simp; omega
  have b2 : decide ((X.length : Int) + 1 > (c : Int)) = false := by simp; omega
  have b3 : i ≤ X.length := by omega
  have b4 : (i : Int) + 1 ≤ (X.length : Int) + 1 := by omega
  have b5 : (i : Int) ≤ (X.length : Int) + 1 := by omega
  have b6 : ¬ (c = i) := by omega
  have b7 : ¬ (c = i + 1) := by omega
  have t1 : ((i : Int) + 1).toNat = i + 1 := by omega
  have hwi : IntKind.i64.wrap ((i : Int) + 1) = (i : Int) + 1 := by rw [IntKind.wrap_i64]; omega
  have b8 : (0 : Int) ≤ (i : Int) + 1 := by omega
  have t2 : ((X.length : Int) + 1).toNat = X.length + 1 := by omega
  have HN := Aside0.mk hne
  clear hR hl hb hcm hcs ht hv hh hne
  go_enter Try.func25, Try.ntmps25
  go_wp2
  clear hw1 hw2 hov b1 b2 t2
  go_region_law (refine step_copyS rfl (.tmp 73) (.tmp 76) 30 30 rfl 35 2 Try.underlying30 sz35 g ((i + 1) * 2) (X.length + 1 - (i + 1)) (c - (i + 1)) ⟨g, i * 2, none⟩ (X.length + 1 - i) (c - i) (by go_simp) (by go_simp) cur 35 HH.out (flat (X.drop i)) (by rw [flat_length, List.length_drop]; simp only [Nat.min_def]; split <;> omega) (fun j v hj => sh_src i j v HH.out HL.out.2.2.2.2 hj) (by rw [flat_length, List.length_drop]; have := HL.out.2.2.2.1; omega) (flat_one _) ?_; intro w3 n3 HH3 HG3)
  have HV3 := Aside0.mk (((HG3.out).block h (blk_lt HV.out) (fun e => HN.out (Option.some.inj e))).trans HV.out)
  go_wp2_with ((with_reducible refine gate_builtin (b := .copy) (xs := #[.tmp 80, .tmp 81]) rfl ?_); refine wpList_copyS rfl (.tmp 80) (.tmp 81) 30 30 rfl 35 2 Try.underlying30 sz35 g (i * 2) (X.length + 1 - i) (c - i) ⟨h, 0, none⟩ 1 1 rfl rfl (splice cur ((i + 1) * 2) (flat (X.drop i))) 35 HH3.out (flat [x]) (by simp only [Nat.min_def, flat_length]; split <;> first | rfl | omega) (fun j v hj => read_flat (one_C HV3.out) j v hj) (by rw [length_splice _ _ _ (by rw [flat_length, List.length_drop]; have := HL.out.2.2.2.1; omega), flat_length]; have := HL.out.2.2.2.1; simp only [List.length_cons, List.length_nil]; omega) (flat_one _) ?_; intro w4 n4 HH4 HG4)
  go_ret
  refine ⟨_, rfl, parts_own HL.out.2.1 HH4.out (by simp; omega) hroom HL.out.2.2.1 ?_ ?_, (grown_drew _ _).trans ((HG3.out).trans HG4.out), .inl rfl⟩
  · rw [length_splice _ _ _ ?_, length_splice _ _ _ ?_]
    · exact HL.out.2.2.2.1
    · rw [flat_length, List.length_drop]; have := HL.out.2.2.2.1; omega
    · rw [length_splice _ _ _ (by rw [flat_length, List.length_drop]; have := HL.out.2.2.2.1; omega), flat_length]; have := HL.out.2.2.2.1; simp only [List.length_cons, List.length_nil]; omega
  · have := ins_list X x i cur hi HL.out.2.2.2.2 (by have := HL.out.2.2.2.1; omega)
    rw [show (X.take i ++ x :: X.drop i).length = X.length + 1 by simp; omega]
    exact this
set_option maxHeartbeats 8000000 in
set_option maxRecDepth 100000 in
theorem ins_grow (g c i : Nat) (X : List S35) (x : S35) (h : Nat) (w : World) (base : Nat) (hR : k35.R 35 w base (fun _ => True) (.slice (some ⟨g, 0, none⟩) X.length c) X) (hbs : base ≤ w.heap.size) (hv : w.heap[h]? = some (.cells (fl x).toArray 35 (0, 0))) (hl : X.length ≤ 1000000000000) (hi : i < X.length) (hroom : c < X.length + 1) :
    Calls Try.prog 25 #[.slice (some ⟨g, 0, none⟩) X.length c, .int .i64 i, .slice (some ⟨h, 0, none⟩) 1 1] w fun e w' => ∃ v', e = .returned v' ∧ k35.R 35 w' base (fun _ => True) v' (X.take i ++ x :: X.drop i) ∧ w.grownBy w' (some g) ∧ (v'.ownBlock = some g ∨ ∃ b, v'.ownBlock = some b ∧ w.heap.size ≤ b) := by
  obtain ⟨cur, hb, hh, _, hnc, hcm, hcs, ht⟩ := own_parts hR
  have hw1 : wrap64 ((i : Int) + 1) = (i : Int) + 1 := w64 (by omega) (by omega)
  have hw2 : wrap64 ((X.length : Int) + 1) = (X.length : Int) + 1 := w64 (by omega) (by omega)
  have hw3 : wrap64 ((X.length : Int) + 1 - (i : Int)) = (X.length : Int) + 1 - (i : Int) := w64 (by omega) (by omega)
  have hwi : IntKind.i64.wrap ((i : Int) + 1) = (i : Int) + 1 := by rw [IntKind.wrap_i64]; omega
  have hgl := blk_lt hh
  have hhl := blk_lt hv
  have HL := Aside0.mk (And.intro hl (And.intro hbs (And.intro hcm (And.intro hcs ht))))
  have HB := Aside0.mk (And.intro hgl (And.intro hhl (And.intro hi hroom)))
  have HV := Aside0.mk hv
  have HH := Aside0.mk hh
  have b1 : ((i : Int) == (X.length : Int)) = false := by simp; omega
  have b2 : decide ((X.length : Int) + 1 > (c : Int)) = true := by simp; omega
  have b3 : i ≤ X.length := by omega
  have b3' : i ≤ c := by omega
  have b3q : (i : Int) ≤ (c : Int) := by omega
  have b4 : (i : Int) + 1 ≤ (X.length : Int) + 1 := by omega
  have b5 : (i : Int) ≤ (X.length : Int) + 1 := by omega
  have b6 : ¬ (c = i) := by omega
  have b8 : (0 : Int) ≤ (i : Int) + 1 := by omega
  have t1 : ((i : Int) + 1).toNat = i + 1 := by omega
  have l1 : (flat [x]).length = 2 := rfl
  have L1 := Aside0.mk l1
  have hl2 : (X.length : Int) ≤ 1000000000000 := by omega
  have hl3 : (i : Int) < (X.length : Int) := by omega
  have hl4 : (0 : Int) ≤ (X.length : Int) + 1 - (i : Int) := by omega
  clear hR hb hcm hcs ht hv hh hgl hhl hroom hnc hbs l1
  go_enter Try.func25, Try.ntmps25
  go_wp2_with (first
    | ((with_reducible refine gate_builtin (b := .append) (xs := #[.tmp 34, .tmp 39]) rfl ?_); refine wpList_zerosS rfl (.tmp 34) (.tmp 39) 30 3 35 rfl (.agg #[(.int .i64 0), (.int .i64 0)]) 2 16 Try.underlying30 Try.underlying3 info35 rfl (by decide) ⟨g, 0, none⟩ i c ((X.length : Int) + 1 - (i : Int)) (X.length + 1 - i) (X.length + 1) (by have := HB.out; omega) rfl rfl (by have := HB.out; omega) (flat (X.take i)) (by rw [flat_length, List.length_take, Nat.min_eq_left (by have := HB.out; omega)]) (fun j v hj => gr_src i j v HH.out HL.out.2.2.2.2 (by have := HB.out; omega) hj) (by have := HB.out; omega) (by have := HB.out; omega) (by have := HL.out; have := HB.out; omega) (by decide) ?_; intro w1 c1 zs H1 HZ G1; have d1 : ¬ (c1 = i) := (by have := HZ.out; have := HB.out; omega); have d2 : ¬ (c1 = i + 1) := (by have := HZ.out; have := HB.out; omega); have HV1 := Aside0.mk (((G1.out).block h HB.out.2.1 (by simp)).trans HV.out); have HH1 := Aside0.mk (((G1.out).block g HB.out.1 (by simp)).trans HH.out))
    | ((with_reducible refine gate_builtin (b := .copy) (xs := #[.tmp 43, .tmp 44]) rfl ?_); refine wpList_copyS rfl (.tmp 43) (.tmp 44) 30 30 rfl 35 2 Try.underlying30 sz35 w.heap.size (i * 2) (X.length + 1 - i) (c1 - i) ⟨h, 0, none⟩ 1 1 rfl rfl (flat (X.take i) ++ zs) 35 H1.out (flat [x]) (by simp only [Nat.min_def, flat_length]; have := HB.out; split <;> first | rfl | omega) (fun j v hj => read_flat (one_C HV1.out) j v hj) (by rw [List.length_append, tk_len X i (by have := HB.out; omega), HZ.out.2.2, L1.out]; have := HZ.out; have := HB.out; omega) (flat_one _) ?_; intro w2 n2 H2 G2; have HH2 := Aside0.mk (((G2.out).block g (blk_lt HH1.out) (fun e => by injection e with e; have := HB.out; omega)).trans HH1.out)))
  go_region_law (refine step_copyS rfl (.tmp 50) (.tmp 53) 30 30 rfl 35 2 Try.underlying30 sz35 w.heap.size ((i + 1) * 2) (X.length + 1 - (i + 1)) (c1 - (i + 1)) ⟨g, i * 2, none⟩ (X.length - i) (c - i) (by go_simp) (by go_simp) (splice (flat (X.take i) ++ zs) (i * 2) (flat [x])) 35 H2.out (flat (X.drop i)) (by rw [flat_length, List.length_drop]; simp only [Nat.min_def]; split <;> omega) (fun j v hj => sh_src (w := w2.drew) i j v HH2.out HL.out.2.2.2.2 hj) (by rw [length_splice _ _ _ (by rw [List.length_append, tk_len X i (by have := HB.out; omega), HZ.out.2.2, L1.out]; have := HZ.out; have := HB.out; omega), List.length_append, tk_len X i (by have := HB.out; omega), flat_length, List.length_drop, HZ.out.2.2]; have := HZ.out; have := HB.out; omega) (flat_one _) ?_; intro w3 n3 H3 G3)
  go_wp2
  go_ret
  have z2 := HZ.out
  have z3 := HB.out
  have z4 : (flat (X.take i) ++ zs).length = c1 * 2 := by rw [List.length_append, tk_len X i (by omega), z2.2.2]; omega
  have z5 : (splice (flat (X.take i) ++ zs) (i * 2) (flat [x])).length = c1 * 2 := by rw [length_splice _ _ _ (by rw [z4, L1.out]; omega), z4]
  refine ⟨_, rfl, parts_own HL.out.2.1 H3.out (by simp; omega) z2.1 z2.2.1 ?_ ?_, ?_, .inr ⟨_, rfl, Nat.le_refl _⟩⟩
  · rw [length_splice _ _ _ (by rw [z5, flat_length, List.length_drop]; omega), z5]
  · have := ins_list2 X x i _ zs z3.2.2.1 rfl (by rw [z2.2.2]; omega)
    rw [show (X.take i ++ x :: X.drop i).length = X.length + 1 by simp; omega]
    exact this
  · exact grown_cut (grown_cut (grown_wide _ G1.out) G2.out (Nat.le_refl _)) ((grown_drew w2 _).trans G3.out) (Nat.le_refl _)
/-- one element put in at place i, whatever the room -/
theorem ins_any (A : Option Addr) (c i : Nat) (X : List S35) (x : S35) (h : Nat) (w : World) (base : Nat) (hR : k35.R 35 w base (fun _ => True) (.slice A X.length c) X) (hbs : base ≤ w.heap.size) (hv : w.heap[h]? = some (.cells (fl x).toArray 35 (0, 0))) (hne : some h ≠ (Value.slice A X.length c).ownBlock) (hl : X.length ≤ 1000000000000) (hi : i ≤ X.length) :
    Calls Try.prog 25 #[.slice A X.length c, .int .i64 i, .slice (some ⟨h, 0, none⟩) 1 1] w fun e w' => ∃ v', e = .returned v' ∧ k35.R 35 w' base (fun _ => True) v' (X.take i ++ x :: X.drop i) ∧ w.grownBy w' (Value.slice A X.length c).ownBlock ∧ (v'.ownBlock = (Value.slice A X.length c).ownBlock ∨ ∃ b, v'.ownBlock = some b ∧ w.heap.size ≤ b) := by
  by_cases he : i = X.length
  · subst he
    refine (ins_end A c X x h w base hR hbs hv hl).mono fun e w' hq => ?_
    rw [List.take_length, List.drop_length]
    exact hq
  · obtain ⟨g, cap, hv2, _, _, _⟩ := Kd.R_form hR (by omega)
    injection hv2 with a1 _ a3
    subst a1; subst a3
    rcases Nat.lt_or_ge c (X.length + 1) with hc | hc
    · exact ins_grow g c i X x h w base hR hbs hv hl (by omega) hc
    · exact ins_shift g c i X x h w base hR hv (fun e => hne (by rw [e]; rfl)) hl (by omega) hc
/-! slices.Delete, of one element -/
theorem wpList_clear1 {P : Program} {w : World} {ops : Array Oper} {rest : List Oper} {o : Oper} {a : Act} {Q : Exit → Act → World → Prop} (hgd : o.guard = none) (s : Operand) (t e : TypeId) (z : Value) (zs : List Value)
    (ho : o.op = .call { callee := .builtin .clear, args := #[s], argTypes := #[t] }) (ht : P.underlying t = some (.slice e)) (hv : ∀ w, (zeroValue e).run P w = .ok z w) (hzs : (Builtin.zeroCells z.cells 1).toList = zs)
    (g off c : Nat) (hs : a.eval s = .slice (some ⟨g, off, none⟩) 1 c) (cur : List Value) (t' : TypeId) (hg : w.heap[g]? = some (.cells cur.toArray t' (0, 0))) (hfit : off + zs.length ≤ cur.length) (h1 : ∀ v ∈ zs, v.oneCell' = true)
    (h : ∀ w', Aside0 (w'.heap[g]? = some (.cells (splice cur off zs).toArray t' (0, 0))) → Aside0 (w.grownBy w' (some g)) → wpList P ops Q rest (a.put o.dst (.tuple #[])) w') : wpList P ops Q (o :: rest) a w := by
  refine wpList_plain hgd fun K hK => ?_
  have hst := run_storeCells_at P g off t' zs 0 cur.toArray w hg (by simpa using hfit) h1
  have hrun : (Builtin.clear_ #[t] o.type #[.slice (some ⟨g, off, none⟩) 1 c]).run P w = .ok (.tuple #[]) (w.setRow g (splice cur off zs).toArray) := by
    simp only [Nat.add_zero] at hst
    simp [Builtin.clear_, run_underlying ht, hv, hzs, hst, splice]
  unfold Oper.wp
  simp [execOp, ho, resolve, invoke, builtin, hs, hrun, Result.andThen]
  exact hK _ _ (h _ ⟨by simpa using setRow_heap w g _ _ t' _ hg⟩ ⟨grown_setRow _ _⟩)
theorem zv35 : ∀ w, (zeroValue 35).run Try.prog w = .ok (.agg #[(.int .i64 0), (.int .i64 0)]) w := fun w => by
  obtain ⟨i0, hi, h⟩ := Option.map_eq_some_iff.1 info35
  simp only [Prod.mk.injEq] at h
  simp [zeroValue, typeInfo, hi, h.1]
theorem zc35 : (Builtin.zeroCells (Value.agg #[(.int .i64 0), (.int .i64 0)]).cells 1).toList = flat [z35] := by kernel_rfl
set_option maxHeartbeats 8000000 in
set_option maxRecDepth 100000 in
theorem del_any (g c k : Nat) (X : List S35) (w : World) (base : Nat) (hR : k35.R 35 w base (fun _ => True) (.slice (some ⟨g, 0, none⟩) X.length c) X) (hbs : base ≤ w.heap.size) (hl : X.length ≤ 1000000000000) (hk : k < X.length) :
    Calls Try.prog 31 #[.slice (some ⟨g, 0, none⟩) X.length c, .int .i64 k, .int .i64 ((k : Int) + 1)] w fun e w' => e = .returned (.slice (some ⟨g, 0, none⟩) (X.length - 1) c) ∧ k35.R 35 w' base (fun _ => True) (.slice (some ⟨g, 0, none⟩) (X.length - 1) c) (X.eraseIdx k) ∧ w.grownBy w' (some g) := by
  have hnc := (Kd.R_reads' hR).2.1
  have hlen : (X.eraseIdx k).length = X.length - 1 := List.length_eraseIdx_of_lt hk
  have HR := Aside0.mk hR
  have HL := Aside0.mk (And.intro hl (And.intro hk (And.intro hbs hlen)))
  have hl2 : (X.length : Int) ≤ 1000000000000 := by omega
  have hl3 : (k : Int) < (X.length : Int) := by omega
  have b1 : ((k : Int) == (k : Int) + 1) = false := by simp; omega
  have b2 : (0 : Int) ≤ (k : Int) + 1 := by omega
  have b3 : (k : Int) + 1 ≤ (X.length : Int) := by omega
  have b4 : (k : Int) ≤ (k : Int) + 1 := by omega
  have b5 : k ≤ k + 1 := by omega
  have b6 : k + 1 ≤ X.length := by omega
  have b7 : ((X.length - 1 : Nat) : Int) ≤ (X.length : Int) := by omega
  have b8 : X.length - 1 ≤ X.length := by omega
  have b9 : ¬ (c = X.length - 1) := by omega
  have b10 : X.length ≤ c := hnc
  have b11 : k ≤ X.length := by omega
  have b12 : (X.length : Int) ≤ (c : Int) := by omega
  have b13 : (k : Int) ≤ (c : Int) := by omega
  have b14 : k ≤ c := by omega
  have t1 : ((k : Int) + 1).toNat = k + 1 := by omega
  have t2 : X.length - (X.length - 1) = 1 := by omega
  clear hR hbs hlen
  by_cases hq : c = k + 1
  · subst hq
    go_enter Try.func31, Try.ntmps31
    go_wp2
    go_region_law (refine Kd.R_delete_step k35 (w0 := w) base rfl (.tmp 22) (.tmp 25) 30 35 rfl Try.underlying30 sz35 (g := g) (n := X.length) (c := (k + 1)) (k := k) (m := X.length - (k + 1)) (c2 := (k + 1) - (k + 1)) (A := some ⟨g, 0, none⟩) (xs := X) (ok := fun _ => True) (by go_simp) (by go_simp) (by rw [if_pos rfl]) rfl (Kd.R_drew HR.out) HL.out.2.1 (below_drew (Below.refl _ _)) HL.out.2.2.1 ?_; intro w1 h1 h2 h3; have H1 := Aside0.mk h1; have H3 := Aside0.mk h3; clear h1 h2 h3)
    obtain ⟨cur, hb, hh, hn1, hn2, hcm, hcs, ht⟩ := own_parts H1.out
    have HH := Aside0.mk hh
    have HT := Aside0.mk (And.intro hb (And.intro hcm (And.intro hcs ht)))
    clear hb hh hn1 hn2 hcm hcs ht
    go_wp2_with ((with_reducible refine gate_builtin (b := .clear) (xs := #[.tmp 31]) rfl ?_); refine wpList_clear1 rfl (.tmp 31) 30 35 _ (flat [z35]) rfl Try.underlying30 zv35 zc35 g ((X.length - 1) * 2) ((k + 1) - (X.length - 1)) rfl cur 35 HH.out (by rw [HT.out.2.2.1, flat_length]; have := HL.out.2.1; simp only [List.length_cons, List.length_nil]; omega) (flat_one _) ?_; intro w2 H2 G2)
    go_ret
    refine ⟨rfl, parts_own HT.out.1 H2.out HL.out.2.2.2.symm (by omega) HT.out.2.1 ?_ ?_, (grown_drew w _).trans (H3.out.trans G2.out)⟩
    · rw [length_splice _ _ _ ?_]
      · exact HT.out.2.2.1
      · rw [HT.out.2.2.1, flat_length]; have := HL.out.2.1; simp only [List.length_cons, List.length_nil]; omega
    · rw [HL.out.2.2.2, splice, List.take_append_of_le_length (by rw [List.length_take, HT.out.2.2.1]; omega), List.take_take, Nat.min_self]
      have := HT.out.2.2.2
      rw [HL.out.2.2.2] at this
      exact this
  · go_enter Try.func31, Try.ntmps31
    go_wp2
    go_region_law (refine Kd.R_delete_step k35 (w0 := w) base rfl (.tmp 22) (.tmp 25) 30 35 rfl Try.underlying30 sz35 (g := g) (n := X.length) (c := c) (k := k) (m := X.length - (k + 1)) (c2 := c - (k + 1)) (A := some ⟨g, (k + 1) * 2, none⟩) (xs := X) (ok := fun _ => True) (by go_simp) (by go_simp) (by rw [if_neg hq]; simp [Addr.add_lit]; rfl) rfl (Kd.R_drew HR.out) HL.out.2.1 (below_drew (Below.refl _ _)) HL.out.2.2.1 ?_; intro w1 h1 h2 h3; have H1 := Aside0.mk h1; have H3 := Aside0.mk h3; clear h1 h2 h3)
    obtain ⟨cur, hb, hh, hn1, hn2, hcm, hcs, ht⟩ := own_parts H1.out
    have HH := Aside0.mk hh
    have HT := Aside0.mk (And.intro hb (And.intro hcm (And.intro hcs ht)))
    clear hb hh hn1 hn2 hcm hcs ht
    go_wp2_with ((with_reducible refine gate_builtin (b := .clear) (xs := #[.tmp 31]) rfl ?_); refine wpList_clear1 rfl (.tmp 31) 30 35 _ (flat [z35]) rfl Try.underlying30 zv35 zc35 g ((X.length - 1) * 2) (c - (X.length - 1)) rfl cur 35 HH.out (by rw [HT.out.2.2.1, flat_length]; have := HL.out.2.1; simp only [List.length_cons, List.length_nil]; omega) (flat_one _) ?_; intro w2 H2 G2)
    go_ret
    refine ⟨rfl, parts_own HT.out.1 H2.out HL.out.2.2.2.symm (by omega) HT.out.2.1 ?_ ?_, (grown_drew w _).trans (H3.out.trans G2.out)⟩
    · rw [length_splice _ _ _ ?_]
      · exact HT.out.2.2.1
      · rw [HT.out.2.2.1, flat_length]; have := HL.out.2.1; simp only [List.length_cons, List.length_nil]; omega
    · rw [HL.out.2.2.2, splice, List.take_append_of_le_length (by rw [List.length_take, HT.out.2.2.1]; omega), List.take_take, Nat.min_self]
      have := HT.out.2.2.2
      rw [HL.out.2.2.2] at this
      exact this
end Go.Proofs.Ytljajnednggebaa.P
