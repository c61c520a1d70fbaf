/- Layer 25: graph.near by hand. -/
import Derived.Test.YtbejdbgcfgllhaaGns
import Derived.Laws.Tables
namespace Go.Proofs.Ytbejdbgcfgllhaa.P
set_option linter.unusedSimpArgs false
set_option linter.unusedVariables false
open Go.RowKit Go.Proofs.YtbejdbgcfgllhaaW.PrintWords Go.Proofs.YtbejdbgcfgllhaaW.PrintLast Go.Proofs.YtbejdbgcfgllhaaW.PrintMore
theorem und_ii : Try.prog.underlying 35 = some (.slice 22) := by kernel_rfl
def gAdd (n : Nat) (ll : List (List Int)) (p : S36) : List (List Int) :=
  if 0 ≤ p.f0 ∧ p.f0 < n ∧ 0 ≤ p.f1 ∧ p.f1 < n then (ll.set p.f0.toNat (ll.getD p.f0.toNat [] ++ [p.f1])).set p.f1.toNat (ll.getD p.f1.toNat [] ++ [p.f0]) else ll
def graph_near.f (a0 : Int) (l1 : List S36) : Option (List (List Int)) := if 0 ≤ a0 ∧ a0 ≤ 100000 ∧ l1.length ≤ 100000 then some (l1.foldl (gAdd a0.toNat) (List.replicate a0.toNat [])) else none
theorem gAdd_pos {n : Nat} (ll : List (List Int)) (a b : Nat) (ha : a < n) (hb : b < n) : gAdd n ll ⟨(a : Int), (b : Int)⟩ = (ll.set a (ll.getD a [] ++ [(b : Int)])).set b (ll.getD b [] ++ [(a : Int)]) := by
  unfold gAdd
  rw [if_pos (by simp only; omega)]
  rfl
theorem NR.start {w w1 : World} {n : Nat} (ho : w1.ownsRow w.heap.size 22 1 (.slice (some ⟨w.heap.size, 0, none⟩) n n) n (madeCells (Value.slice none 0 0).cells (n * 1)).toList) (hg : w.grownBy w1 none) : NR w w1 w.heap.size n (List.replicate n (.slice none 0 0)) (List.replicate n []) := by
  obtain ⟨hl, hc⟩ := ho
  rcases hc with ⟨hv, _⟩ | ⟨g, cap, cur, hv, hb, hh, hn, hm, hs, ht⟩
  · cases hv
  · injection hv with h1 h2 h3
    injection h1 with h1
    injection h1 with h1
    subst h1
    subst h3
    rw [Nat.mul_one] at hs ht
    rw [List.take_of_length_le (by simp [hs]), show madeCells (Value.slice none 0 0).cells n = madeCells #[.slice none 0 0] n from rfl, toList_madeCells_one] at ht
    refine ⟨pw_below_grown (Below.refl _ _) none (Nat.le_refl _) hg (fun k hk => by cases hk), Nat.le_refl _, ?_, by simp, by simp, ?_, ?_⟩
    · rw [← ht]
      simpa using hh
    · intro i v xs hv hx
      rw [List.getElem?_replicate] at hv hx
      split at hv
      · rename_i hi
        rw [if_pos hi] at hx
        obtain rfl := Option.some.inj hv
        obtain rfl := Option.some.inj hx
        exact Kd.R_nil _ _ _ _ _
      · cases hv
    · intro i j v u k hv hu hk _
      rw [List.getElem?_replicate] at hv
      split at hv
      · obtain rfl := Option.some.inj hv
        simp [Value.ownBlock] at hk
      · cases hv
def gnr.T5 : Bool × List (List Nat × List Nat) := (true, [([], []), ([0], [0]), ([], []), ([2], [2]), ([1, 0, 1], [1]), ([3, 4, 0, 1, 2, 3, 4], [3])])
def gnr.B5 : List Nat := [0, 1, 0, 4, 3, 31]
theorem gnr.tab5 : rtab .any (opsOf Try.f22 5) = gnr.T5 := by kernel_rfl
theorem gnr.bits5 : waitsOk gnr.T5.2 gnr.B5 = true := by kernel_rfl
def gnr.T7 : Bool × List (List Nat × List Nat) := (true, [([], []), ([], []), ([], []), ([], []), ([], []), ([], []), ([4, 5], [4, 5]), ([6], [6]), ([], []), ([8], [8]), ([7, 9], [7, 9]), ([], []), ([], []), ([11, 12], [11, 12]), ([13], [13]), ([], []), ([15], [15]), ([14, 16, 10], [14, 16]), ([0, 1, 0, 1, 4, 5, 6, 7, 8, 9, 10, 14, 17], [0, 1]), ([18, 10, 17, 0, 1, 4, 5, 6, 7, 8, 9, 10, 14, 17], [10, 18]), ([2, 3, 0, 1, 2, 3, 4, 5, 6, 7, 8, 9, 10, 11, 12, 13, 14, 15, 16, 17, 18, 19], [2, 3]), ([20, 17, 19, 0, 1, 2, 3, 4, 5, 6, 7, 8, 9, 10, 11, 12, 13, 14, 15, 16, 17, 18, 19], [17, 20])])
def gnr.B7 : List Nat := [0, 0, 0, 0, 0, 0, 48, 112, 0, 256, 1008, 0, 0, 6144, 14336, 0, 32768, 131056, 262131, 524275, 1048575, 2097151]
theorem gnr.tab7 : rtab .any (opsOf Try.f22 7) = gnr.T7 := by kernel_rfl
theorem gnr.bits7 : waitsOk gnr.T7.2 gnr.B7 = true := by kernel_rfl
set_option maxHeartbeats 8000000 in
set_option maxRecDepth 100000 in
theorem near_a (n : Nat) (hn : n ≤ 100000) (A1 : Option Addr) (c1 : Nat) (l1 : List S36) (hl : l1.length ≤ 100000) (w : World) (hr1 : Kd.C k36 w A1 l1.length l1) (hc1 : l1.length ≤ c1) :
    Calls Try.prog 22 #[.int .i64 (n : Int), .slice A1 l1.length c1] w fun e w' => ∃ v0_ : Value, e = .returned v0_ ∧ Kd.S (Kd.slice 3 (Kd.int .i64)) 22 w' w.heap.size (fun _ => True) v0_ (l1.foldl (gAdd n) (List.replicate n [])) ∧ Below w.heap.size w w' := by
  have HR1 := Aside0.mk hr1
  have HN := Aside0.mk hn
  have HL := Aside0.mk hl
  clear hr1 hc1 hn hl
  go_enter Try.func22, Try.ntmps22
  obtain ⟨i22, hi22, hz22⟩ := Option.map_eq_some_iff.1 info22
  simp only [Prod.mk.injEq] at hz22
  obtain ⟨hz0, hz1, hz2⟩ := hz22
  go_wp2_with ((with_reducible refine gate_dst (N := 11) rfl ?_); refine wpList_make_full w rfl (.tmp 10) (.tmp 10) 35 rfl w.heap.size 22 i22 (.slice none 0 0) 1 und_ii hi22 hz0 hz1 .i64 .i64 (n : Int) (n : Int) n rfl rfl rfl rfl (by rw [hz2]; have := HN.out; omega) (by have := HN.out; simp only [maxLen]; omega) (Nat.le_refl _) ?_; intro w1 ho hg; have HC0 := Aside0.mk (NR.start ho hg); clear ho hg)
  clear hi22 hz0 hz1 hz2
  go_loopg [14] l1.length (fun kq v14 wr => ∃ (i : Nat) (vs : List Value) (ll : List (List Int)), v14 = .int .i64 (i : Int) ∧ Aside0 (i ≤ l1.length) ∧ Aside0 (l1.length ≤ i + kq) ∧ Aside0 (NR w wr w.heap.size n vs ll) ∧ Aside0 (ll = (l1.take i).foldl (gAdd n) (List.replicate n [])) ∧ Aside0 (∀ xs ∈ ll, xs.length ≤ 2 * i))
  case atStart => exact ⟨0, _, _, rfl, ⟨Nat.zero_le _⟩, ⟨by omega⟩, HC0, ⟨rfl⟩, ⟨fun xs hx => by rw [List.eq_of_mem_replicate hx]; exact Nat.zero_le _⟩⟩
  case round =>
    clear HC0
    obtain ⟨i, vs, ll, rfl, HI, HIQ, HC, HE, HB⟩ := hrel
    by_cases hi : i < l1.length
    · have hin : decide ((i : Int) < (l1.length : Int)) = true := decide_eq_true (by omega)
      have hin2 : decide (i < l1.length) = true := decide_eq_true hi
      have hin3 := eq_true hi
      have HI2 := Aside0.mk hi
      obtain ⟨ad, hA, e0, e1⟩ := at_T36 (Kd.C_below HR1.out HC.out.bl) (i : Int) (by omega) (by omega)
      cases hA
      have HX := Aside0.mk (show rd_T36 l1 (i : Int) = l1[i] by unfold rd_T36; rw [Int.toNat_natCast, List.getD_eq_getElem?_getD, List.getElem?_eq_getElem hi]; rfl)
      rw [Int.toNat_natCast] at e0 e1
      obtain ⟨x, hx⟩ : ∃ x, x = (rd_T36 l1 (i : Int)).f0 := ⟨_, rfl⟩
      obtain ⟨y, hy⟩ : ∃ y, y = (rd_T36 l1 (i : Int)).f1 := ⟨_, rfl⟩
      rw [← hx] at e0
      rw [← hy] at e1
      have HXY := Aside0.mk (show (l1.take (i + 1)).foldl (gAdd n) (List.replicate n []) = gAdd n ll ⟨x, y⟩ by rw [← List.take_append_getElem hi, List.foldl_append, ← HE.out, ← HX.out, hx, hy]; rfl)
      clear hx hy HX hi
      cases gk with
      | zero => exact absurd HIQ.out (by have := HI2.out; omega)
      | succ k1 =>
        by_cases hg : 0 ≤ x ∧ x < n ∧ 0 ≤ y ∧ y < n
        · obtain ⟨a, rfl⟩ := Int.eq_ofNat_of_zero_le hg.1
          obtain ⟨b, rfl⟩ := Int.eq_ofNat_of_zero_le hg.2.2.1
          have HAN := Aside0.mk (show a < n by omega)
          have HBN := Aside0.mk (show b < n by omega)
          have ta : decide ((a : Int) ≥ 0) = true := decide_eq_true (by omega)
          have tb : decide ((b : Int) ≥ 0) = true := decide_eq_true (by omega)
          have ta2 : decide ((a : Int) < (n : Int)) = true := decide_eq_true (by omega)
          have tb2 : decide ((b : Int) < (n : Int)) = true := decide_eq_true (by omega)
          have ta3 := eq_true (show a < n by omega)
          have tb3 := eq_true (show b < n by omega)
          obtain ⟨va, hva'⟩ : ∃ va, vs[a]? = some va := ⟨_, List.getElem?_eq_getElem (by rw [HC.out.ln]; omega)⟩
          obtain ⟨vb, hvb'⟩ : ∃ vb, vs[b]? = some vb := ⟨_, List.getElem?_eq_getElem (by rw [HC.out.ln]; omega)⟩
          obtain ⟨xa, hxa'⟩ : ∃ xa, ll[a]? = some xa := ⟨_, List.getElem?_eq_getElem (by rw [HC.out.lm]; omega)⟩
          obtain ⟨xb, hxb'⟩ : ∃ xb, ll[b]? = some xb := ⟨_, List.getElem?_eq_getElem (by rw [HC.out.lm]; omega)⟩
          have HLA := Aside0.mk (show xa.length + 1 ≤ 1000000 by have := HB.out xa (List.mem_of_getElem? hxa'); have := HI.out; have := HL.out; omega)
          have HLB := Aside0.mk (show xb.length + 1 ≤ 1000000 by have := HB.out xb (List.mem_of_getElem? hxb'); have := HI.out; have := HL.out; omega)
          have hva := Aside0.mk (show vs.toArray[a]? = some va by simpa using hva')
          have hvb := Aside0.mk (show vs.toArray[b]? = some vb by simpa using hvb')
          have hva2 := Aside0.mk hva'
          have hvb2 := Aside0.mk hvb'
          have hxa := Aside0.mk hxa'
          have hxb := Aside0.mk hxb'
          clear hva' hvb' hxa' hxb' hg
          go_upto_region 5 with (first
            | ((with_reducible refine gate_dst (N := 7) rfl ?_); refine box_event ?hg (N := 7) ?hd (cs := #[.int .i64 0, .int .i64 0]) (t := 36) ?hr ?_; (case hd => rfl); (case hg => rfl); (case hr => first | (go_simp; done) | (go_simp; rfl)); intro gp hgp w3 hbox hb; have BA := Aside0.mk hbox; have HBA := Aside0.mk hb; have HGB := Aside0.mk hgp; clear hb hbox hgp e0 e1)
            | ((with_reducible refine wpList_store_row rfl 36 (.tmp 7) (.tmp 17) rfl gp #[.int .i64 (a : Int), .int .i64 (b : Int)] ?sx ?sy 36 #[.int .i64 0, .int .i64 0] BA.out ?si rfl ?s1 ?_); (case sx => rfl); (case sy => rfl); (case si => kernel_rfl); (case s1 => first | rfl | (simp [Value.oneCell'])); have BB := Aside0.mk (setRow_heap w3 gp _ #[.int .i64 (a : Int), .int .i64 (b : Int)] _ _ BA.out); have HB3 := Aside0.mk (below_setRow HBA.out (Nat.le_of_eq HGB.out.symm) #[.int .i64 (a : Int), .int .i64 (b : Int)]); generalize w3.setRow gp #[.int .i64 (a : Int), .int .i64 (b : Int)] = wq at BB HB3 ⊢; have HC1 := Aside0.mk (HC.out.below HB3.out); have d0 := (blk_cell BB.out 0).trans rfl; have d1 := (blk_cell BB.out 1).trans rfl; clear BA HBA HGB HB3))
          refine start_ (n := 6) (S := fun w' => w'.cell? ⟨gp, 0, none⟩ = some (.int .i64 (a : Int)) ∧ w'.cell? ⟨gp, 1, none⟩ = some (.int .i64 (b : Int))) (ds := []) #[false, false, false, false, false, false] (by kernel_rfl) rfl rfl ⟨d0, d1⟩ (fun hHeld => ?_); refine with_tabW gnr.tab5 gnr.bits5 (fun HT_ HW_ => ?_)
          refine pure_ (i := 0) (N := some 18) (v := ?_) (a' := ?_) #[true, false, false, false, false, false] rfl rfl (any_of HT_.out (by kernel_rfl)) (fun _ _ _ h => h) (Or.inl ⟨by rfl, ?_⟩) ?_ ?_
          rotate_left
          · intro w'
            go_simp
            with_reducible rfl
          rotate_left
          · simp only [Act.put, List.setIfInBounds_toArray, List.set_cons_zero, List.set_cons_succ, i64_w, i32_w]
            rfl
          refine pure_ (i := 2) (N := some 20) (v := ?_) (a' := ?_) #[true, false, true, false, false, false] rfl rfl (any_of HT_.out (by kernel_rfl)) (fun _ _ _ h => h) (Or.inl ⟨by rfl, ?_⟩) ?_ ?_
          rotate_left
          · intro w'
            go_simp
            with_reducible rfl
          rotate_left
          · simp only [Act.put, List.setIfInBounds_toArray, List.set_cons_zero, List.set_cons_succ, i64_w, i32_w]
            rfl
          refine take_ (i := 1) (N := some 19) (v := ?_) (a' := ?_) #[true, true, true, false, false, false] rfl rfl (take_ofW HT_.out HW_.out (by kernel_rfl)) (fun _ _ _ h => h) (Or.inl ⟨by rfl, ?_⟩) hHeld ?_ ?_
          rotate_left
          · rintro w' ⟨s0, s1⟩
            go_simp
            with_reducible rfl
          rotate_left
          · simp only [Act.put, List.setIfInBounds_toArray, List.set_cons_zero, List.set_cons_succ, i64_w, i32_w]
            rfl
          refine pure_ (i := 4) (N := some 8) (v := ?_) (a' := ?_) #[true, true, true, false, true, false] rfl rfl (any_of HT_.out (by kernel_rfl)) (fun _ _ _ h => h) (Or.inl ⟨by rfl, ?_⟩) ?_ ?_
          rotate_left
          · intro w'
            go_simp
            with_reducible rfl
          rotate_left
          · simp only [Act.put, List.setIfInBounds_toArray, List.set_cons_zero, List.set_cons_succ, i64_w, i32_w]
            rfl
          refine take_ (i := 3) (N := some 21) (v := ?_) (a' := ?_) #[true, true, true, true, true, false] rfl rfl (take_ofW HT_.out HW_.out (by kernel_rfl)) (fun _ _ _ h => h) (Or.inl ⟨by rfl, ?_⟩) hHeld ?_ ?_
          rotate_left
          · rintro w' ⟨s0, s1⟩
            go_simp
            with_reducible rfl
          rotate_left
          · simp only [Act.put, List.setIfInBounds_toArray, List.set_cons_zero, List.set_cons_succ, i64_w, i32_w]
            rfl
          refine pure_ (i := 5) (N := some 9) (v := ?_) (a' := ?_) #[true, true, true, true, true, true] rfl rfl (any_of HT_.out (by kernel_rfl)) (fun _ _ _ h => h) (Or.inl ⟨by rfl, ?_⟩) ?_ ?_
          rotate_left
          · intro w'
            go_simp
            with_reducible rfl
          rotate_left
          · simp only [Act.put, List.setIfInBounds_toArray, List.set_cons_zero, List.set_cons_succ, i64_w, i32_w]
            rfl
          refine done_ (done_of HT_.out (by kernel_rfl)) ?_
          clear d0 d1 BB
          go_upto_region 7 with (fail)
          have HM := HC1.out.below (below_drew (below_drew (Below.refl _ _))) |> Aside0.mk
          refine start_ (n := 22) (S := fun w' => w'.cell? ⟨w.heap.size, a, none⟩ = some va ∧ w'.cell? ⟨w.heap.size, b, none⟩ = some vb ∧ w'.frozen? ⟨w.heap.size, a, none⟩ = false ∧ w'.frozen? ⟨w.heap.size, b, none⟩ = false) (ds := [19, 21]) #[false, false, false, false, false, false, false, false, false, false, false, false, false, false, false, false, false, false, false, false, false, false] (by kernel_rfl) rfl rfl ⟨(HM.out.hh |> fun q => (blk_cell q a).trans hva.out), (HM.out.hh |> fun q => (blk_cell q b).trans hvb.out), (blk_frozen HM.out.hh a), (blk_frozen HM.out.hh b)⟩ (fun hHeld => ?_); refine with_tabW gnr.tab7 gnr.bits7 (fun HT_ HW_ => ?_)
          refine pure_ (i := 0) (N := some 38) (v := ?_) (a' := ?_) #[true, false, false, false, false, false, false, false, false, false, false, false, false, false, false, false, false, false, false, false, false, false] rfl rfl (any_of HT_.out (by kernel_rfl)) (fun _ _ _ h => h) (Or.inl ⟨by rfl, ?_⟩) ?_ ?_
          rotate_left
          · intro w'
            go_simp
            with_reducible rfl
          rotate_left
          · simp only [Act.put, List.setIfInBounds_toArray, List.set_cons_zero, List.set_cons_succ, i64_w, i32_w]
            rfl
          refine pure_ (i := 1) (N := some 39) (v := ?_) (a' := ?_) #[true, true, false, false, false, false, false, false, false, false, false, false, false, false, false, false, false, false, false, false, false, false] rfl rfl (any_of HT_.out (by kernel_rfl)) (fun _ _ _ h => h) (Or.inl ⟨by rfl, ?_⟩) ?_ ?_
          rotate_left
          · intro w'
            go_simp
            with_reducible rfl
          rotate_left
          · simp only [Act.put, List.setIfInBounds_toArray, List.set_cons_zero, List.set_cons_succ, i64_w, i32_w]
            rfl
          refine pure_ (i := 2) (N := some 40) (v := ?_) (a' := ?_) #[true, true, true, false, false, false, false, false, false, false, false, false, false, false, false, false, false, false, false, false, false, false] rfl rfl (any_of HT_.out (by kernel_rfl)) (fun _ _ _ h => h) (Or.inl ⟨by rfl, ?_⟩) ?_ ?_
          rotate_left
          · intro w'
            go_simp
            with_reducible rfl
          rotate_left
          · simp only [Act.put, List.setIfInBounds_toArray, List.set_cons_zero, List.set_cons_succ, i64_w, i32_w]
            rfl
          refine pure_ (i := 3) (N := some 41) (v := ?_) (a' := ?_) #[true, true, true, true, false, false, false, false, false, false, false, false, false, false, false, false, false, false, false, false, false, false] rfl rfl (any_of HT_.out (by kernel_rfl)) (fun _ _ _ h => h) (Or.inl ⟨by rfl, ?_⟩) ?_ ?_
          rotate_left
          · intro w'
            go_simp
            with_reducible rfl
          rotate_left
          · simp only [Act.put, List.setIfInBounds_toArray, List.set_cons_zero, List.set_cons_succ, i64_w, i32_w]
            rfl
          refine pure_ (i := 4) (N := some 42) (v := ?_) (a' := ?_) #[true, true, true, true, true, false, false, false, false, false, false, false, false, false, false, false, false, false, false, false, false, false] rfl rfl (any_of HT_.out (by kernel_rfl)) (fun _ _ _ h => h) (Or.inl ⟨by rfl, ?_⟩) ?_ ?_
          rotate_left
          · intro w'
            go_simp
            with_reducible rfl
          rotate_left
          · simp only [Act.put, List.setIfInBounds_toArray, List.set_cons_zero, List.set_cons_succ, i64_w, i32_w]
            rfl
          refine pure_ (i := 5) (N := some 43) (v := ?_) (a' := ?_) #[true, true, true, true, true, true, false, false, false, false, false, false, false, false, false, false, false, false, false, false, false, false] rfl rfl (any_of HT_.out (by kernel_rfl)) (fun _ _ _ h => h) (Or.inl ⟨by rfl, ?_⟩) ?_ ?_
          rotate_left
          · intro w'
            go_simp
            with_reducible rfl
          rotate_left
          · simp only [Act.put, List.setIfInBounds_toArray, List.set_cons_zero, List.set_cons_succ, i64_w, i32_w]
            rfl
          refine pure_ (i := 6) (N := some 44) (v := ?_) (a' := ?_) #[true, true, true, true, true, true, true, false, false, false, false, false, false, false, false, false, false, false, false, false, false, false] rfl rfl (any_of HT_.out (by kernel_rfl)) (fun _ _ _ h => h) (Or.inl ⟨by rfl, ?_⟩) ?_ ?_
          rotate_left
          · intro w'
            go_simp
            with_reducible rfl
          rotate_left
          · simp only [Act.put, List.setIfInBounds_toArray, List.set_cons_zero, List.set_cons_succ, i64_w, i32_w]
            rfl
          refine pure_ (i := 8) (N := some 46) (v := ?_) (a' := ?_) #[true, true, true, true, true, true, true, false, true, false, false, false, false, false, false, false, false, false, false, false, false, false] rfl rfl (any_of HT_.out (by kernel_rfl)) (fun _ _ _ h => h) (Or.inl ⟨by rfl, ?_⟩) ?_ ?_
          rotate_left
          · intro w'
            go_simp
            with_reducible rfl
          rotate_left
          · simp only [Act.put, List.setIfInBounds_toArray, List.set_cons_zero, List.set_cons_succ, i64_w, i32_w]
            rfl
          refine pure_ (i := 11) (N := some 49) (v := ?_) (a' := ?_) #[true, true, true, true, true, true, true, false, true, false, false, true, false, false, false, false, false, false, false, false, false, false] rfl rfl (any_of HT_.out (by kernel_rfl)) (fun _ _ _ h => h) (Or.inl ⟨by rfl, ?_⟩) ?_ ?_
          rotate_left
          · intro w'
            go_simp
            with_reducible rfl
          rotate_left
          · simp only [Act.put, List.setIfInBounds_toArray, List.set_cons_zero, List.set_cons_succ, i64_w, i32_w]
            rfl
          refine pure_ (i := 12) (N := some 50) (v := ?_) (a' := ?_) #[true, true, true, true, true, true, true, false, true, false, false, true, true, false, false, false, false, false, false, false, false, false] rfl rfl (any_of HT_.out (by kernel_rfl)) (fun _ _ _ h => h) (Or.inl ⟨by rfl, ?_⟩) ?_ ?_
          rotate_left
          · intro w'
            go_simp
            with_reducible rfl
          rotate_left
          · simp only [Act.put, List.setIfInBounds_toArray, List.set_cons_zero, List.set_cons_succ, i64_w, i32_w]
            rfl
          refine pure_ (i := 13) (N := some 51) (v := ?_) (a' := ?_) #[true, true, true, true, true, true, true, false, true, false, false, true, true, true, false, false, false, false, false, false, false, false] rfl rfl (any_of HT_.out (by kernel_rfl)) (fun _ _ _ h => h) (Or.inl ⟨by rfl, ?_⟩) ?_ ?_
          rotate_left
          · intro w'
            go_simp
            with_reducible rfl
          rotate_left
          · simp only [Act.put, List.setIfInBounds_toArray, List.set_cons_zero, List.set_cons_succ, i64_w, i32_w]
            rfl
          refine pure_ (i := 15) (N := some 53) (v := ?_) (a' := ?_) #[true, true, true, true, true, true, true, false, true, false, false, true, true, true, false, true, false, false, false, false, false, false] rfl rfl (any_of HT_.out (by kernel_rfl)) (fun _ _ _ h => h) (Or.inl ⟨by rfl, ?_⟩) ?_ ?_
          rotate_left
          · intro w'
            go_simp
            with_reducible rfl
          rotate_left
          · simp only [Act.put, List.setIfInBounds_toArray, List.set_cons_zero, List.set_cons_succ, i64_w, i32_w]
            rfl
          refine take_ (i := 7) (N := some 45) (v := ?_) (a' := ?_) #[true, true, true, true, true, true, true, true, true, false, false, true, true, true, false, true, false, false, false, false, false, false] rfl rfl (take_ofW HT_.out HW_.out (by kernel_rfl)) (fun _ _ _ h => h) (Or.inl ⟨by rfl, ?_⟩) hHeld ?_ ?_
          rotate_left
          · rintro w' ⟨s0, s1, s2, s3⟩
            go_simp
            with_reducible rfl
          rotate_left
          · simp only [Act.put, List.setIfInBounds_toArray, List.set_cons_zero, List.set_cons_succ, i64_w, i32_w]
            rfl
          refine take_ (i := 14) (N := some 52) (v := ?_) (a' := ?_) #[true, true, true, true, true, true, true, true, true, false, false, true, true, true, true, true, false, false, false, false, false, false] rfl rfl (take_ofW HT_.out HW_.out (by kernel_rfl)) (fun _ _ _ h => h) (Or.inl ⟨by rfl, ?_⟩) hHeld ?_ ?_
          rotate_left
          · rintro w' ⟨s0, s1, s2, s3⟩
            go_simp
            with_reducible rfl
          rotate_left
          · simp only [Act.put, List.setIfInBounds_toArray, List.set_cons_zero, List.set_cons_succ, i64_w, i32_w]
            rfl
          refine join_ (σ := Nat × Nat × Value) 5 #[true, true, true, true, true, true, true, true, true, true, true, true, true, true, true, true, true, false, false, false, false, false] (fun s_ => [(47, .slice (some ⟨s_.1, 0, none⟩) 1 1), (54, .slice (some ⟨s_.2.1, 0, none⟩) 1 1), (48, s_.2.2)]) (fun s_ w' => (w'.cell? ⟨w.heap.size, a, none⟩ = some va ∧ w'.cell? ⟨w.heap.size, b, none⟩ = some vb ∧ w'.frozen? ⟨w.heap.size, a, none⟩ = false ∧ w'.frozen? ⟨w.heap.size, b, none⟩ = false) ∧ Aside0 (NR w w' w.heap.size n vs ll) ∧ Aside0 (w'.heap[s_.2.1]? = some (.cells #[.int .i64 (a : Int)] 3 (0, 0))) ∧ Aside0 (Cd w w' vs a s_.2.2 (xa ++ [(b : Int)]))) ?_ ?_
          rotate_left
          · intro hCont
            refine two_ (i := 9) (j := 16) (Ni := some 47) (Nj := some 54) #[true, true, true, true, true, true, true, true, true, true, false, true, true, true, true, true, false, false, false, false, false, false] #[true, true, true, true, true, true, true, true, true, false, false, true, true, true, true, true, true, false, false, false, false, false] rfl rfl rfl rfl (two_of HT_.out (by kernel_rfl)) (by decide) (by decide) (fun K hK => ?_) (fun K hK => ?_)
            · skip
              refine lit1_step ?hg (N := 47) ?hd (cs := #[.int .i64 (b : Int)]) (t := 3) (n := 1) ?hr ?_
              (case hd => rfl)
              (case hg => rfl)
              (case hr => first | (go_simp; done) | (go_simp; rfl))
              intro gl_ hgl w5 hbox hb
              have HMn := Aside0.mk (HM.out.below hb)
              clear HM
              have HM := HMn
              clear HMn
              have GA := Aside0.mk hbox
              obtain ⟨ga, hga⟩ : ∃ ga, ga = gl_ := ⟨_, rfl⟩
              subst hga
              clear hbox hb hgl
              refine hK.out _ _ ⟨(HM.out.hh |> fun q => (blk_cell q a).trans hva.out), (HM.out.hh |> fun q => (blk_cell q b).trans hvb.out), (blk_frozen HM.out.hh a), (blk_frozen HM.out.hh b)⟩ (fun hHeld => ?_)
              clear hK K
              refine norm_ (a' := ?_) ?_ ?_
              rotate_left
              · show Act.put _ (some 47) _ = _
                simp only [Act.put, List.setIfInBounds_toArray, List.set_cons_zero, List.set_cons_succ, i64_w, i32_w]
                rfl
              refine two_ (i := 10) (j := 16) (Ni := some 48) (Nj := some 54) #[true, true, true, true, true, true, true, true, true, true, true, true, true, true, true, true, false, false, false, false, false, false] #[true, true, true, true, true, true, true, true, true, true, false, true, true, true, true, true, true, false, false, false, false, false] rfl rfl rfl rfl (two_of HT_.out (by kernel_rfl)) (by decide) (by decide) (fun K hK => ?_) (fun K hK => ?_)
              · skip
                refine app_step (w0 := w) w.heap.size ?hw (.tmp 45) (.tmp 47) 22 rfl und_i info3 va xa (b : Int) ga rfl rfl GA.out (HM.out.ro a va xa hva2.out hxa.out) HM.out.bl (below_size HM.out.bl) HLA.out ?_
                (case hw => rfl)
                intro v2 w6 hp hbl
                obtain ⟨hm6, hc6⟩ := HM.out.app hva2.out hxa.out hp hbl
                clear HM
                have HM := Aside0.mk hm6
                have CA := Aside0.mk hc6
                clear hm6 hc6 hp hbl GA
                refine hK.out _ _ ⟨(HM.out.hh |> fun q => (blk_cell q a).trans hva.out), (HM.out.hh |> fun q => (blk_cell q b).trans hvb.out), (blk_frozen HM.out.hh a), (blk_frozen HM.out.hh b)⟩ (fun hHeld => ?_)
                clear hK K
                refine norm_ (a' := ?_) ?_ ?_
                rotate_left
                · show Act.put _ (some 48) _ = _
                  simp only [Act.put, List.setIfInBounds_toArray, List.set_cons_zero, List.set_cons_succ, i64_w, i32_w]
                  rfl
                refine one_ (i := 16) (N := some 54) #[true, true, true, true, true, true, true, true, true, true, true, true, true, true, true, true, true, false, false, false, false, false] rfl rfl (one_of HT_.out (by kernel_rfl)) (by decide) (fun K hK => ?_)
                refine lit1_step ?hg (N := 54) ?hd (cs := #[.int .i64 (a : Int)]) (t := 3) (n := 1) ?hr ?_
                (case hd => rfl)
                (case hg => rfl)
                (case hr => first | (go_simp; done) | (go_simp; rfl))
                intro gl_ hgl w5 hbox hb
                have HMn := Aside0.mk (HM.out.below hb)
                have CAn := Aside0.mk (CA.out.below hb)
                clear HM
                have HM := HMn
                clear HMn
                clear CA
                have CA := CAn
                clear CAn
                have GB := Aside0.mk hbox
                obtain ⟨gb_, hgb⟩ : ∃ gb_, gb_ = gl_ := ⟨_, rfl⟩
                subst hgb
                clear hbox hb hgl
                refine hK.out _ _ ⟨(HM.out.hh |> fun q => (blk_cell q a).trans hva.out), (HM.out.hh |> fun q => (blk_cell q b).trans hvb.out), (blk_frozen HM.out.hh a), (blk_frozen HM.out.hh b)⟩ (fun hHeld => ?_)
                clear hK K
                refine norm_ (a' := ?_) ?_ ?_
                rotate_left
                · show Act.put _ (some 54) _ = _
                  simp only [Act.put, List.setIfInBounds_toArray, List.set_cons_zero, List.set_cons_succ, i64_w, i32_w]
                  rfl
                exact norm_ (by simp only [putAll, Act.put, List.setIfInBounds_toArray, List.set_cons_zero, List.set_cons_succ]) (hCont (ga, gb_, v2) _ ⟨hHeld, HM, GB, CA⟩)
              · skip
                refine lit1_step ?hg (N := 54) ?hd (cs := #[.int .i64 (a : Int)]) (t := 3) (n := 1) ?hr ?_
                (case hd => rfl)
                (case hg => rfl)
                (case hr => first | (go_simp; done) | (go_simp; rfl))
                intro gl_ hgl w5 hbox hb
                have HNE := Aside0.mk (show some gl_ ≠ va.ownBlock from fun e => by have := Kd.R_lt (HM.out.ro a va xa hva2.out hxa.out) gl_ e.symm; omega)
                have HMn := Aside0.mk (HM.out.below hb)
                have GAn := Aside0.mk (blk_below GA.out hb)
                clear HM
                have HM := HMn
                clear HMn
                clear GA
                have GA := GAn
                clear GAn
                have GB := Aside0.mk hbox
                obtain ⟨gb_, hgb⟩ : ∃ gb_, gb_ = gl_ := ⟨_, rfl⟩
                subst hgb
                clear hbox hb hgl
                refine hK.out _ _ ⟨(HM.out.hh |> fun q => (blk_cell q a).trans hva.out), (HM.out.hh |> fun q => (blk_cell q b).trans hvb.out), (blk_frozen HM.out.hh a), (blk_frozen HM.out.hh b)⟩ (fun hHeld => ?_)
                clear hK K
                refine norm_ (a' := ?_) ?_ ?_
                rotate_left
                · show Act.put _ (some 54) _ = _
                  simp only [Act.put, List.setIfInBounds_toArray, List.set_cons_zero, List.set_cons_succ, i64_w, i32_w]
                  rfl
                refine one_ (i := 10) (N := some 48) #[true, true, true, true, true, true, true, true, true, true, true, true, true, true, true, true, true, false, false, false, false, false] rfl rfl (one_of HT_.out (by kernel_rfl)) (by decide) (fun K hK => ?_)
                refine app_step (w0 := w) w.heap.size ?hw (.tmp 45) (.tmp 47) 22 rfl und_i info3 va xa (b : Int) ga rfl rfl GA.out (HM.out.ro a va xa hva2.out hxa.out) HM.out.bl (below_size HM.out.bl) HLA.out ?_
                (case hw => rfl)
                intro v2 w6 hp hbl
                obtain ⟨hm6, hc6⟩ := HM.out.app hva2.out hxa.out hp hbl
                have GBn := Aside0.mk ((hp.2.2.1.block _ (blk_lt GB.out) HNE.out).trans GB.out)
                clear HM
                have HM := Aside0.mk hm6
                have CA := Aside0.mk hc6
                clear hm6 hc6 hp hbl GA
                clear GB
                have GB := GBn
                clear GBn
                refine hK.out _ _ ⟨(HM.out.hh |> fun q => (blk_cell q a).trans hva.out), (HM.out.hh |> fun q => (blk_cell q b).trans hvb.out), (blk_frozen HM.out.hh a), (blk_frozen HM.out.hh b)⟩ (fun hHeld => ?_)
                clear hK K
                refine norm_ (a' := ?_) ?_ ?_
                rotate_left
                · show Act.put _ (some 48) _ = _
                  simp only [Act.put, List.setIfInBounds_toArray, List.set_cons_zero, List.set_cons_succ, i64_w, i32_w]
                  rfl
                exact norm_ (by simp only [putAll, Act.put, List.setIfInBounds_toArray, List.set_cons_zero, List.set_cons_succ]) (hCont (ga, gb_, v2) _ ⟨hHeld, HM, GB, CA⟩)
            · skip
              refine lit1_step ?hg (N := 54) ?hd (cs := #[.int .i64 (a : Int)]) (t := 3) (n := 1) ?hr ?_
              (case hd => rfl)
              (case hg => rfl)
              (case hr => first | (go_simp; done) | (go_simp; rfl))
              intro gl_ hgl w5 hbox hb
              have HNE := Aside0.mk (show some gl_ ≠ va.ownBlock from fun e => by have := Kd.R_lt (HM.out.ro a va xa hva2.out hxa.out) gl_ e.symm; omega)
              have HMn := Aside0.mk (HM.out.below hb)
              clear HM
              have HM := HMn
              clear HMn
              have GB := Aside0.mk hbox
              obtain ⟨gb_, hgb⟩ : ∃ gb_, gb_ = gl_ := ⟨_, rfl⟩
              subst hgb
              clear hbox hb hgl
              refine hK.out _ _ ⟨(HM.out.hh |> fun q => (blk_cell q a).trans hva.out), (HM.out.hh |> fun q => (blk_cell q b).trans hvb.out), (blk_frozen HM.out.hh a), (blk_frozen HM.out.hh b)⟩ (fun hHeld => ?_)
              clear hK K
              refine norm_ (a' := ?_) ?_ ?_
              rotate_left
              · show Act.put _ (some 54) _ = _
                simp only [Act.put, List.setIfInBounds_toArray, List.set_cons_zero, List.set_cons_succ, i64_w, i32_w]
                rfl
              refine one_ (i := 9) (N := some 47) #[true, true, true, true, true, true, true, true, true, true, false, true, true, true, true, true, true, false, false, false, false, false] rfl rfl (one_of HT_.out (by kernel_rfl)) (by decide) (fun K hK => ?_)
              refine lit1_step ?hg (N := 47) ?hd (cs := #[.int .i64 (b : Int)]) (t := 3) (n := 1) ?hr ?_
              (case hd => rfl)
              (case hg => rfl)
              (case hr => first | (go_simp; done) | (go_simp; rfl))
              intro gl_ hgl w5 hbox hb
              have HMn := Aside0.mk (HM.out.below hb)
              have GBn := Aside0.mk (blk_below GB.out hb)
              clear HM
              have HM := HMn
              clear HMn
              clear GB
              have GB := GBn
              clear GBn
              have GA := Aside0.mk hbox
              obtain ⟨ga, hga⟩ : ∃ ga, ga = gl_ := ⟨_, rfl⟩
              subst hga
              clear hbox hb hgl
              refine hK.out _ _ ⟨(HM.out.hh |> fun q => (blk_cell q a).trans hva.out), (HM.out.hh |> fun q => (blk_cell q b).trans hvb.out), (blk_frozen HM.out.hh a), (blk_frozen HM.out.hh b)⟩ (fun hHeld => ?_)
              clear hK K
              refine norm_ (a' := ?_) ?_ ?_
              rotate_left
              · show Act.put _ (some 47) _ = _
                simp only [Act.put, List.setIfInBounds_toArray, List.set_cons_zero, List.set_cons_succ, i64_w, i32_w]
                rfl
              refine one_ (i := 10) (N := some 48) #[true, true, true, true, true, true, true, true, true, true, true, true, true, true, true, true, true, false, false, false, false, false] rfl rfl (one_of HT_.out (by kernel_rfl)) (by decide) (fun K hK => ?_)
              refine app_step (w0 := w) w.heap.size ?hw (.tmp 45) (.tmp 47) 22 rfl und_i info3 va xa (b : Int) ga rfl rfl GA.out (HM.out.ro a va xa hva2.out hxa.out) HM.out.bl (below_size HM.out.bl) HLA.out ?_
              (case hw => rfl)
              intro v2 w6 hp hbl
              obtain ⟨hm6, hc6⟩ := HM.out.app hva2.out hxa.out hp hbl
              have GBn := Aside0.mk ((hp.2.2.1.block _ (blk_lt GB.out) HNE.out).trans GB.out)
              clear HM
              have HM := Aside0.mk hm6
              have CA := Aside0.mk hc6
              clear hm6 hc6 hp hbl GA
              clear GB
              have GB := GBn
              clear GBn
              refine hK.out _ _ ⟨(HM.out.hh |> fun q => (blk_cell q a).trans hva.out), (HM.out.hh |> fun q => (blk_cell q b).trans hvb.out), (blk_frozen HM.out.hh a), (blk_frozen HM.out.hh b)⟩ (fun hHeld => ?_)
              clear hK K
              refine norm_ (a' := ?_) ?_ ?_
              rotate_left
              · show Act.put _ (some 48) _ = _
                simp only [Act.put, List.setIfInBounds_toArray, List.set_cons_zero, List.set_cons_succ, i64_w, i32_w]
                rfl
              exact norm_ (by simp only [putAll, Act.put, List.setIfInBounds_toArray, List.set_cons_zero, List.set_cons_succ]) (hCont (ga, gb_, v2) _ ⟨hHeld, HM, GB, CA⟩)
          rintro ⟨ga, gb_, v2⟩ w7 ⟨hHeld, HM, GB, CA⟩
          obtain ⟨A2, c2_, rfl⟩ := Kd.R_slice CA.out.r
          refine norm_ (a' := ?_) ?_ ?_
          rotate_left
          · simp only [putAll, Act.put, List.setIfInBounds_toArray, List.set_cons_zero, List.set_cons_succ]
            rfl
          refine one_ (i := 17) (N := some 55) #[true, true, true, true, true, true, true, true, true, true, true, true, true, true, true, true, true, true, false, false, false, false] rfl rfl (one_of HT_.out (by kernel_rfl)) (by decide) (fun K hK => ?_)
          refine app_step (w0 := w) w.heap.size ?hw (.tmp 52) (.tmp 54) 22 rfl und_i info3 vb xb (a : Int) gb_ rfl rfl GB.out (HM.out.ro b vb xb hvb2.out hxb.out) HM.out.bl (below_size HM.out.bl) HLB.out ?_
          (case hw => rfl)
          intro v3 w8 hp hbl
          obtain ⟨hm8, hc8, hd8, hap8⟩ := HM.out.app2 (fun _ => CA.out) hvb2.out hxb.out hp hbl
          obtain ⟨A3, c3_, rfl⟩ := Kd.R_slice hd8.r
          have HM8 := Aside0.mk hm8
          have HC8 := Aside0.mk (hm8.put HAN.out HBN.out hc8 hd8 hap8)
          clear hm8 hc8 hd8 hap8 hp hbl
          refine hK.out _ _ ⟨(HM8.out.hh |> fun q => (blk_cell q a).trans hva.out), (HM8.out.hh |> fun q => (blk_cell q b).trans hvb.out), (blk_frozen HM8.out.hh a), (blk_frozen HM8.out.hh b)⟩ (fun hHeld => ?_)
          clear hK K
          refine norm_ (a' := ?_) ?_ ?_
          rotate_left
          · show Act.put _ (some 55) _ = _
            simp only [Act.put, List.setIfInBounds_toArray, List.set_cons_zero, List.set_cons_succ, i64_w, i32_w]
            rfl
          refine pure_ (i := 18) (N := some 56) (v := ?_) (a' := ?_) #[true, true, true, true, true, true, true, true, true, true, true, true, true, true, true, true, true, true, true, false, false, false] rfl rfl (any_of HT_.out (by kernel_rfl)) (fun _ _ _ h => h) (Or.inl ⟨by rfl, ?_⟩) ?_ ?_
          rotate_left
          · intro w'
            go_simp
            with_reducible rfl
          rotate_left
          · simp only [Act.put, List.setIfInBounds_toArray, List.set_cons_zero, List.set_cons_succ, i64_w, i32_w]
            rfl
          refine last_ (i := 19) (N := none) #[true, true, true, true, true, true, true, true, true, true, true, true, true, true, true, true, true, true, true, true, false, false] rfl rfl (one_of HT_.out (by kernel_rfl)) (by decide) (fun K hK => ?_)
          refine skip_ (w1 := ?_) (by rfl) rfl ?_ ?_
          rotate_left
          · go_simp
            rfl
          obtain ⟨u19, hu19⟩ : ∃ u, (w8.setCell ⟨w.heap.size, a, none⟩ (Value.slice A2 (xa ++ [(b : Int)]).length c2_)).cell? ⟨w.heap.size, b, none⟩ = some u := ⟨_, (blk_cell (blk_set HM8.out.hh a _) b).trans (Array.getElem?_eq_getElem (by have := HBN.out; have := HM8.out.ln; simp; omega))⟩
          (try rw [List.length_append, List.length_singleton] at hu19)
          refine hK.out _ _ ?_
          clear hK K
          refine pure_ (i := 20) (N := some 57) (v := ?_) (a' := ?_) #[true, true, true, true, true, true, true, true, true, true, true, true, true, true, true, true, true, true, true, true, true, false] rfl rfl (any_of HT_.out (by kernel_rfl)) (fun _ _ _ h => h) (Or.inl ⟨by rfl, ?_⟩) ?_ ?_
          rotate_left
          · intro w'
            go_simp
            with_reducible rfl
          rotate_left
          · simp only [Act.put, List.setIfInBounds_toArray, List.set_cons_zero, List.set_cons_succ, i64_w, i32_w]
            rfl
          refine last_ (i := 21) (N := none) #[true, true, true, true, true, true, true, true, true, true, true, true, true, true, true, true, true, true, true, true, true, true] rfl rfl (one_of HT_.out (by kernel_rfl)) (by decide) (fun K hK => ?_)
          refine skip_ (w1 := ?_) (by rfl) rfl ?_ ?_
          rotate_left
          · go_simp
            rfl
          refine hK.out _ _ ?_
          clear hK K
          refine done_ (done_of HT_.out (by kernel_rfl)) ?_
          clear HM GB CA HM8
          go_wp2
          go_roundg k1
          case measure => have := HIQ.out; have := HI2.out; omega
          case rel =>
            have HC9 := HC8.out
            simp only [List.length_append, List.length_singleton] at HC9
            refine ⟨i + 1, _, _, ?_, ⟨by have := HI2.out; omega⟩, ⟨by have := HIQ.out; omega⟩, ⟨HC9⟩, ⟨?_⟩, ⟨?_⟩⟩
            · have e : wrap64 ((i : Int) + 1) = ((i + 1 : Nat) : Int) := by
                rw [w64 (by omega) (by have := HI2.out; have := HL.out; omega)]
                omega
              first
                | (simp only [goInt, e]; done)
                | (rw [← e]; simp [goInt])
                | exact congrArg (Value.int .i64) e
            · rw [HXY.out, gAdd_pos ll a b HAN.out HBN.out, List.getD_eq_getElem?_getD, List.getD_eq_getElem?_getD, hxa.out, hxb.out]
              rfl
            · intro zs hz
              rcases List.mem_or_eq_of_mem_set hz with hz | rfl
              · rcases List.mem_or_eq_of_mem_set hz with hz | rfl
                · have := HB.out zs hz
                  omega
                · have := HB.out xa (List.mem_of_getElem? hxa.out)
                  simp
                  omega
              · have := HB.out xb (List.mem_of_getElem? hxb.out)
                simp
                omega
        · have HXN := Aside0.mk (show gAdd n ll ⟨x, y⟩ = ll from if_neg hg)
          by_cases h0 : x ≥ 0
          case neg =>
            have t0 : decide (x ≥ 0) = false := decide_eq_false h0
            go_upto_region 5 with (first
              | ((with_reducible refine gate_dst (N := 7) rfl ?_); refine box_event ?hg (N := 7) ?hd (cs := #[.int .i64 0, .int .i64 0]) (t := 36) ?hr ?_; (case hd => rfl); (case hg => rfl); (case hr => first | (go_simp; done) | (go_simp; rfl)); intro gp hgp w3 hbox hb; have BA := Aside0.mk hbox; have HBA := Aside0.mk hb; have HGB := Aside0.mk hgp; clear hb hbox hgp e0 e1)
              | ((with_reducible refine wpList_store_row rfl 36 (.tmp 7) (.tmp 17) rfl gp #[.int .i64 x, .int .i64 y] ?sx ?sy 36 #[.int .i64 0, .int .i64 0] BA.out ?si rfl ?s1 ?_); (case sx => rfl); (case sy => rfl); (case si => kernel_rfl); (case s1 => first | rfl | (simp [Value.oneCell'])); have BB := Aside0.mk (setRow_heap w3 gp _ #[.int .i64 x, .int .i64 y] _ _ BA.out); have HB3 := Aside0.mk (below_setRow HBA.out (Nat.le_of_eq HGB.out.symm) #[.int .i64 x, .int .i64 y]); generalize w3.setRow gp #[.int .i64 x, .int .i64 y] = wq at BB HB3 ⊢; have HC1 := Aside0.mk (HC.out.below HB3.out); have d0 := (blk_cell BB.out 0).trans rfl; have d1 := (blk_cell BB.out 1).trans rfl; clear BA HBA HGB HB3))
            refine start_ (n := 6) (S := fun w' => w'.cell? ⟨gp, 0, none⟩ = some (.int .i64 x) ∧ w'.cell? ⟨gp, 1, none⟩ = some (.int .i64 y)) (ds := []) #[false, false, false, false, false, false] (by kernel_rfl) rfl rfl ⟨d0, d1⟩ (fun hHeld => ?_); refine with_tabW gnr.tab5 gnr.bits5 (fun HT_ HW_ => ?_)
            refine pure_ (i := 0) (N := some 18) (v := ?_) (a' := ?_) #[true, false, false, false, false, false] rfl rfl (any_of HT_.out (by kernel_rfl)) (fun _ _ _ h => h) (Or.inl ⟨by rfl, ?_⟩) ?_ ?_
            rotate_left
            · intro w'
              go_simp
              with_reducible rfl
            rotate_left
            · simp only [Act.put, List.setIfInBounds_toArray, List.set_cons_zero, List.set_cons_succ, i64_w, i32_w]
              rfl
            refine pure_ (i := 2) (N := some 20) (v := ?_) (a' := ?_) #[true, false, true, false, false, false] rfl rfl (any_of HT_.out (by kernel_rfl)) (fun _ _ _ h => h) (Or.inl ⟨by rfl, ?_⟩) ?_ ?_
            rotate_left
            · intro w'
              go_simp
              with_reducible rfl
            rotate_left
            · simp only [Act.put, List.setIfInBounds_toArray, List.set_cons_zero, List.set_cons_succ, i64_w, i32_w]
              rfl
            refine take_ (i := 1) (N := some 19) (v := ?_) (a' := ?_) #[true, true, true, false, false, false] rfl rfl (take_ofW HT_.out HW_.out (by kernel_rfl)) (fun _ _ _ h => h) (Or.inl ⟨by rfl, ?_⟩) hHeld ?_ ?_
            rotate_left
            · rintro w' ⟨s0, s1⟩
              go_simp
              with_reducible rfl
            rotate_left
            · simp only [Act.put, List.setIfInBounds_toArray, List.set_cons_zero, List.set_cons_succ, i64_w, i32_w]
              rfl
            refine pure_ (i := 4) (N := some 8) (v := ?_) (a' := ?_) #[true, true, true, false, true, false] rfl rfl (any_of HT_.out (by kernel_rfl)) (fun _ _ _ h => h) (Or.inl ⟨by rfl, ?_⟩) ?_ ?_
            rotate_left
            · intro w'
              go_simp
              with_reducible rfl
            rotate_left
            · simp only [Act.put, List.setIfInBounds_toArray, List.set_cons_zero, List.set_cons_succ, i64_w, i32_w]
              rfl
            refine take_ (i := 3) (N := some 21) (v := ?_) (a' := ?_) #[true, true, true, true, true, false] rfl rfl (take_ofW HT_.out HW_.out (by kernel_rfl)) (fun _ _ _ h => h) (Or.inl ⟨by rfl, ?_⟩) hHeld ?_ ?_
            rotate_left
            · rintro w' ⟨s0, s1⟩
              go_simp
              with_reducible rfl
            rotate_left
            · simp only [Act.put, List.setIfInBounds_toArray, List.set_cons_zero, List.set_cons_succ, i64_w, i32_w]
              rfl
            refine pure_ (i := 5) (N := some 9) (v := ?_) (a' := ?_) #[true, true, true, true, true, true] rfl rfl (any_of HT_.out (by kernel_rfl)) (fun _ _ _ h => h) (Or.inl ⟨by rfl, ?_⟩) ?_ ?_
            rotate_left
            · intro w'
              go_simp
              with_reducible rfl
            rotate_left
            · simp only [Act.put, List.setIfInBounds_toArray, List.set_cons_zero, List.set_cons_succ, i64_w, i32_w]
              rfl
            refine done_ (done_of HT_.out (by kernel_rfl)) ?_
            clear d0 d1 BB
            go_wp2
            go_roundg k1
            case measure => have := HIQ.out; have := HI2.out; omega
            case rel =>
              refine ⟨i + 1, vs, ll, ?_, ⟨by have := HI2.out; omega⟩, ⟨by have := HIQ.out; omega⟩, ⟨HC1.out.below (below_drew (Below.refl _ _))⟩, ⟨(HXY.out.trans HXN.out).symm⟩, ⟨fun zs hz => by have := HB.out zs hz; omega⟩⟩
              have e : wrap64 ((i : Int) + 1) = ((i + 1 : Nat) : Int) := by
                rw [w64 (by omega) (by have := HI2.out; have := HL.out; omega)]
                omega
              first
                | (simp only [goInt, e]; done)
                | (rw [← e]; simp [goInt])
                | exact congrArg (Value.int .i64) e
          have t0 : decide (x ≥ 0) = true := decide_eq_true h0
          by_cases h1 : x < (n : Int)
          case neg =>
            have t1 : decide (x < (n : Int)) = false := decide_eq_false h1
            go_upto_region 5 with (first
              | ((with_reducible refine gate_dst (N := 7) rfl ?_); refine box_event ?hg (N := 7) ?hd (cs := #[.int .i64 0, .int .i64 0]) (t := 36) ?hr ?_; (case hd => rfl); (case hg => rfl); (case hr => first | (go_simp; done) | (go_simp; rfl)); intro gp hgp w3 hbox hb; have BA := Aside0.mk hbox; have HBA := Aside0.mk hb; have HGB := Aside0.mk hgp; clear hb hbox hgp e0 e1)
              | ((with_reducible refine wpList_store_row rfl 36 (.tmp 7) (.tmp 17) rfl gp #[.int .i64 x, .int .i64 y] ?sx ?sy 36 #[.int .i64 0, .int .i64 0] BA.out ?si rfl ?s1 ?_); (case sx => rfl); (case sy => rfl); (case si => kernel_rfl); (case s1 => first | rfl | (simp [Value.oneCell'])); have BB := Aside0.mk (setRow_heap w3 gp _ #[.int .i64 x, .int .i64 y] _ _ BA.out); have HB3 := Aside0.mk (below_setRow HBA.out (Nat.le_of_eq HGB.out.symm) #[.int .i64 x, .int .i64 y]); generalize w3.setRow gp #[.int .i64 x, .int .i64 y] = wq at BB HB3 ⊢; have HC1 := Aside0.mk (HC.out.below HB3.out); have d0 := (blk_cell BB.out 0).trans rfl; have d1 := (blk_cell BB.out 1).trans rfl; clear BA HBA HGB HB3))
            refine start_ (n := 6) (S := fun w' => w'.cell? ⟨gp, 0, none⟩ = some (.int .i64 x) ∧ w'.cell? ⟨gp, 1, none⟩ = some (.int .i64 y)) (ds := []) #[false, false, false, false, false, false] (by kernel_rfl) rfl rfl ⟨d0, d1⟩ (fun hHeld => ?_); refine with_tabW gnr.tab5 gnr.bits5 (fun HT_ HW_ => ?_)
            refine pure_ (i := 0) (N := some 18) (v := ?_) (a' := ?_) #[true, false, false, false, false, false] rfl rfl (any_of HT_.out (by kernel_rfl)) (fun _ _ _ h => h) (Or.inl ⟨by rfl, ?_⟩) ?_ ?_
            rotate_left
            · intro w'
              go_simp
              with_reducible rfl
            rotate_left
            · simp only [Act.put, List.setIfInBounds_toArray, List.set_cons_zero, List.set_cons_succ, i64_w, i32_w]
              rfl
            refine pure_ (i := 2) (N := some 20) (v := ?_) (a' := ?_) #[true, false, true, false, false, false] rfl rfl (any_of HT_.out (by kernel_rfl)) (fun _ _ _ h => h) (Or.inl ⟨by rfl, ?_⟩) ?_ ?_
            rotate_left
            · intro w'
              go_simp
              with_reducible rfl
            rotate_left
            · simp only [Act.put, List.setIfInBounds_toArray, List.set_cons_zero, List.set_cons_succ, i64_w, i32_w]
              rfl
            refine take_ (i := 1) (N := some 19) (v := ?_) (a' := ?_) #[true, true, true, false, false, false] rfl rfl (take_ofW HT_.out HW_.out (by kernel_rfl)) (fun _ _ _ h => h) (Or.inl ⟨by rfl, ?_⟩) hHeld ?_ ?_
            rotate_left
            · rintro w' ⟨s0, s1⟩
              go_simp
              with_reducible rfl
            rotate_left
            · simp only [Act.put, List.setIfInBounds_toArray, List.set_cons_zero, List.set_cons_succ, i64_w, i32_w]
              rfl
            refine pure_ (i := 4) (N := some 8) (v := ?_) (a' := ?_) #[true, true, true, false, true, false] rfl rfl (any_of HT_.out (by kernel_rfl)) (fun _ _ _ h => h) (Or.inl ⟨by rfl, ?_⟩) ?_ ?_
            rotate_left
            · intro w'
              go_simp
              with_reducible rfl
            rotate_left
            · simp only [Act.put, List.setIfInBounds_toArray, List.set_cons_zero, List.set_cons_succ, i64_w, i32_w]
              rfl
            refine take_ (i := 3) (N := some 21) (v := ?_) (a' := ?_) #[true, true, true, true, true, false] rfl rfl (take_ofW HT_.out HW_.out (by kernel_rfl)) (fun _ _ _ h => h) (Or.inl ⟨by rfl, ?_⟩) hHeld ?_ ?_
            rotate_left
            · rintro w' ⟨s0, s1⟩
              go_simp
              with_reducible rfl
            rotate_left
            · simp only [Act.put, List.setIfInBounds_toArray, List.set_cons_zero, List.set_cons_succ, i64_w, i32_w]
              rfl
            refine pure_ (i := 5) (N := some 9) (v := ?_) (a' := ?_) #[true, true, true, true, true, true] rfl rfl (any_of HT_.out (by kernel_rfl)) (fun _ _ _ h => h) (Or.inl ⟨by rfl, ?_⟩) ?_ ?_
            rotate_left
            · intro w'
              go_simp
              with_reducible rfl
            rotate_left
            · simp only [Act.put, List.setIfInBounds_toArray, List.set_cons_zero, List.set_cons_succ, i64_w, i32_w]
              rfl
            refine done_ (done_of HT_.out (by kernel_rfl)) ?_
            clear d0 d1 BB
            go_wp2
            go_roundg k1
            case measure => have := HIQ.out; have := HI2.out; omega
            case rel =>
              refine ⟨i + 1, vs, ll, ?_, ⟨by have := HI2.out; omega⟩, ⟨by have := HIQ.out; omega⟩, ⟨HC1.out.below (below_drew (Below.refl _ _))⟩, ⟨(HXY.out.trans HXN.out).symm⟩, ⟨fun zs hz => by have := HB.out zs hz; omega⟩⟩
              have e : wrap64 ((i : Int) + 1) = ((i + 1 : Nat) : Int) := by
                rw [w64 (by omega) (by have := HI2.out; have := HL.out; omega)]
                omega
              first
                | (simp only [goInt, e]; done)
                | (rw [← e]; simp [goInt])
                | exact congrArg (Value.int .i64) e
          have t1 : decide (x < (n : Int)) = true := decide_eq_true h1
          by_cases h2 : y ≥ 0
          case neg =>
            have t2 : decide (y ≥ 0) = false := decide_eq_false h2
            go_upto_region 5 with (first
              | ((with_reducible refine gate_dst (N := 7) rfl ?_); refine box_event ?hg (N := 7) ?hd (cs := #[.int .i64 0, .int .i64 0]) (t := 36) ?hr ?_; (case hd => rfl); (case hg => rfl); (case hr => first | (go_simp; done) | (go_simp; rfl)); intro gp hgp w3 hbox hb; have BA := Aside0.mk hbox; have HBA := Aside0.mk hb; have HGB := Aside0.mk hgp; clear hb hbox hgp e0 e1)
              | ((with_reducible refine wpList_store_row rfl 36 (.tmp 7) (.tmp 17) rfl gp #[.int .i64 x, .int .i64 y] ?sx ?sy 36 #[.int .i64 0, .int .i64 0] BA.out ?si rfl ?s1 ?_); (case sx => rfl); (case sy => rfl); (case si => kernel_rfl); (case s1 => first | rfl | (simp [Value.oneCell'])); have BB := Aside0.mk (setRow_heap w3 gp _ #[.int .i64 x, .int .i64 y] _ _ BA.out); have HB3 := Aside0.mk (below_setRow HBA.out (Nat.le_of_eq HGB.out.symm) #[.int .i64 x, .int .i64 y]); generalize w3.setRow gp #[.int .i64 x, .int .i64 y] = wq at BB HB3 ⊢; have HC1 := Aside0.mk (HC.out.below HB3.out); have d0 := (blk_cell BB.out 0).trans rfl; have d1 := (blk_cell BB.out 1).trans rfl; clear BA HBA HGB HB3))
            refine start_ (n := 6) (S := fun w' => w'.cell? ⟨gp, 0, none⟩ = some (.int .i64 x) ∧ w'.cell? ⟨gp, 1, none⟩ = some (.int .i64 y)) (ds := []) #[false, false, false, false, false, false] (by kernel_rfl) rfl rfl ⟨d0, d1⟩ (fun hHeld => ?_); refine with_tabW gnr.tab5 gnr.bits5 (fun HT_ HW_ => ?_)
            refine pure_ (i := 0) (N := some 18) (v := ?_) (a' := ?_) #[true, false, false, false, false, false] rfl rfl (any_of HT_.out (by kernel_rfl)) (fun _ _ _ h => h) (Or.inl ⟨by rfl, ?_⟩) ?_ ?_
            rotate_left
            · intro w'
              go_simp
              with_reducible rfl
            rotate_left
            · simp only [Act.put, List.setIfInBounds_toArray, List.set_cons_zero, List.set_cons_succ, i64_w, i32_w]
              rfl
            refine pure_ (i := 2) (N := some 20) (v := ?_) (a' := ?_) #[true, false, true, false, false, false] rfl rfl (any_of HT_.out (by kernel_rfl)) (fun _ _ _ h => h) (Or.inl ⟨by rfl, ?_⟩) ?_ ?_
            rotate_left
            · intro w'
              go_simp
              with_reducible rfl
            rotate_left
            · simp only [Act.put, List.setIfInBounds_toArray, List.set_cons_zero, List.set_cons_succ, i64_w, i32_w]
              rfl
            refine take_ (i := 1) (N := some 19) (v := ?_) (a' := ?_) #[true, true, true, false, false, false] rfl rfl (take_ofW HT_.out HW_.out (by kernel_rfl)) (fun _ _ _ h => h) (Or.inl ⟨by rfl, ?_⟩) hHeld ?_ ?_
            rotate_left
            · rintro w' ⟨s0, s1⟩
              go_simp
              with_reducible rfl
            rotate_left
            · simp only [Act.put, List.setIfInBounds_toArray, List.set_cons_zero, List.set_cons_succ, i64_w, i32_w]
              rfl
            refine pure_ (i := 4) (N := some 8) (v := ?_) (a' := ?_) #[true, true, true, false, true, false] rfl rfl (any_of HT_.out (by kernel_rfl)) (fun _ _ _ h => h) (Or.inl ⟨by rfl, ?_⟩) ?_ ?_
            rotate_left
            · intro w'
              go_simp
              with_reducible rfl
            rotate_left
            · simp only [Act.put, List.setIfInBounds_toArray, List.set_cons_zero, List.set_cons_succ, i64_w, i32_w]
              rfl
            refine take_ (i := 3) (N := some 21) (v := ?_) (a' := ?_) #[true, true, true, true, true, false] rfl rfl (take_ofW HT_.out HW_.out (by kernel_rfl)) (fun _ _ _ h => h) (Or.inl ⟨by rfl, ?_⟩) hHeld ?_ ?_
            rotate_left
            · rintro w' ⟨s0, s1⟩
              go_simp
              with_reducible rfl
            rotate_left
            · simp only [Act.put, List.setIfInBounds_toArray, List.set_cons_zero, List.set_cons_succ, i64_w, i32_w]
              rfl
            refine pure_ (i := 5) (N := some 9) (v := ?_) (a' := ?_) #[true, true, true, true, true, true] rfl rfl (any_of HT_.out (by kernel_rfl)) (fun _ _ _ h => h) (Or.inl ⟨by rfl, ?_⟩) ?_ ?_
            rotate_left
            · intro w'
              go_simp
              with_reducible rfl
            rotate_left
            · simp only [Act.put, List.setIfInBounds_toArray, List.set_cons_zero, List.set_cons_succ, i64_w, i32_w]
              rfl
            refine done_ (done_of HT_.out (by kernel_rfl)) ?_
            clear d0 d1 BB
            go_wp2
            go_roundg k1
            case measure => have := HIQ.out; have := HI2.out; omega
            case rel =>
              refine ⟨i + 1, vs, ll, ?_, ⟨by have := HI2.out; omega⟩, ⟨by have := HIQ.out; omega⟩, ⟨HC1.out.below (below_drew (Below.refl _ _))⟩, ⟨(HXY.out.trans HXN.out).symm⟩, ⟨fun zs hz => by have := HB.out zs hz; omega⟩⟩
              have e : wrap64 ((i : Int) + 1) = ((i + 1 : Nat) : Int) := by
                rw [w64 (by omega) (by have := HI2.out; have := HL.out; omega)]
                omega
              first
                | (simp only [goInt, e]; done)
                | (rw [← e]; simp [goInt])
                | exact congrArg (Value.int .i64) e
          have t2 : decide (y ≥ 0) = true := decide_eq_true h2
          have t3 : decide (y < (n : Int)) = false := decide_eq_false (fun h3 => hg ⟨h0, h1, h2, h3⟩)
          go_upto_region 5 with (first
            | ((with_reducible refine gate_dst (N := 7) rfl ?_); refine box_event ?hg (N := 7) ?hd (cs := #[.int .i64 0, .int .i64 0]) (t := 36) ?hr ?_; (case hd => rfl); (case hg => rfl); (case hr => first | (go_simp; done) | (go_simp; rfl)); intro gp hgp w3 hbox hb; have BA := Aside0.mk hbox; have HBA := Aside0.mk hb; have HGB := Aside0.mk hgp; clear hb hbox hgp e0 e1)
            | ((with_reducible refine wpList_store_row rfl 36 (.tmp 7) (.tmp 17) rfl gp #[.int .i64 x, .int .i64 y] ?sx ?sy 36 #[.int .i64 0, .int .i64 0] BA.out ?si rfl ?s1 ?_); (case sx => rfl); (case sy => rfl); (case si => kernel_rfl); (case s1 => first | rfl | (simp [Value.oneCell'])); have BB := Aside0.mk (setRow_heap w3 gp _ #[.int .i64 x, .int .i64 y] _ _ BA.out); have HB3 := Aside0.mk (below_setRow HBA.out (Nat.le_of_eq HGB.out.symm) #[.int .i64 x, .int .i64 y]); generalize w3.setRow gp #[.int .i64 x, .int .i64 y] = wq at BB HB3 ⊢; have HC1 := Aside0.mk (HC.out.below HB3.out); have d0 := (blk_cell BB.out 0).trans rfl; have d1 := (blk_cell BB.out 1).trans rfl; clear BA HBA HGB HB3))
          refine start_ (n := 6) (S := fun w' => w'.cell? ⟨gp, 0, none⟩ = some (.int .i64 x) ∧ w'.cell? ⟨gp, 1, none⟩ = some (.int .i64 y)) (ds := []) #[false, false, false, false, false, false] (by kernel_rfl) rfl rfl ⟨d0, d1⟩ (fun hHeld => ?_); refine with_tabW gnr.tab5 gnr.bits5 (fun HT_ HW_ => ?_)
          refine pure_ (i := 0) (N := some 18) (v := ?_) (a' := ?_) #[true, false, false, false, false, false] rfl rfl (any_of HT_.out (by kernel_rfl)) (fun _ _ _ h => h) (Or.inl ⟨by rfl, ?_⟩) ?_ ?_
          rotate_left
          · intro w'
            go_simp
            with_reducible rfl
          rotate_left
          · simp only [Act.put, List.setIfInBounds_toArray, List.set_cons_zero, List.set_cons_succ, i64_w, i32_w]
            rfl
          refine pure_ (i := 2) (N := some 20) (v := ?_) (a' := ?_) #[true, false, true, false, false, false] rfl rfl (any_of HT_.out (by kernel_rfl)) (fun _ _ _ h => h) (Or.inl ⟨by rfl, ?_⟩) ?_ ?_
          rotate_left
          · intro w'
            go_simp
            with_reducible rfl
          rotate_left
          · simp only [Act.put, List.setIfInBounds_toArray, List.set_cons_zero, List.set_cons_succ, i64_w, i32_w]
            rfl
          refine take_ (i := 1) (N := some 19) (v := ?_) (a' := ?_) #[true, true, true, false, false, false] rfl rfl (take_ofW HT_.out HW_.out (by kernel_rfl)) (fun _ _ _ h => h) (Or.inl ⟨by rfl, ?_⟩) hHeld ?_ ?_
          rotate_left
          · rintro w' ⟨s0, s1⟩
            go_simp
            with_reducible rfl
          rotate_left
          · simp only [Act.put, List.setIfInBounds_toArray, List.set_cons_zero, List.set_cons_succ, i64_w, i32_w]
            rfl
          refine pure_ (i := 4) (N := some 8) (v := ?_) (a' := ?_) #[true, true, true, false, true, false] rfl rfl (any_of HT_.out (by kernel_rfl)) (fun _ _ _ h => h) (Or.inl ⟨by rfl, ?_⟩) ?_ ?_
          rotate_left
          · intro w'
            go_simp
            with_reducible rfl
          rotate_left
          · simp only [Act.put, List.setIfInBounds_toArray, List.set_cons_zero, List.set_cons_succ, i64_w, i32_w]
            rfl
          refine take_ (i := 3) (N := some 21) (v := ?_) (a' := ?_) #[true, true, true, true, true, false] rfl rfl (take_ofW HT_.out HW_.out (by kernel_rfl)) (fun _ _ _ h => h) (Or.inl ⟨by rfl, ?_⟩) hHeld ?_ ?_
          rotate_left
          · rintro w' ⟨s0, s1⟩
            go_simp
            with_reducible rfl
          rotate_left
          · simp only [Act.put, List.setIfInBounds_toArray, List.set_cons_zero, List.set_cons_succ, i64_w, i32_w]
            rfl
          refine pure_ (i := 5) (N := some 9) (v := ?_) (a' := ?_) #[true, true, true, true, true, true] rfl rfl (any_of HT_.out (by kernel_rfl)) (fun _ _ _ h => h) (Or.inl ⟨by rfl, ?_⟩) ?_ ?_
          rotate_left
          · intro w'
            go_simp
            with_reducible rfl
          rotate_left
          · simp only [Act.put, List.setIfInBounds_toArray, List.set_cons_zero, List.set_cons_succ, i64_w, i32_w]
            rfl
          refine done_ (done_of HT_.out (by kernel_rfl)) ?_
          clear d0 d1 BB
          go_wp2
          go_roundg k1
          case measure => have := HIQ.out; have := HI2.out; omega
          case rel =>
            refine ⟨i + 1, vs, ll, ?_, ⟨by have := HI2.out; omega⟩, ⟨by have := HIQ.out; omega⟩, ⟨HC1.out.below (below_drew (Below.refl _ _))⟩, ⟨(HXY.out.trans HXN.out).symm⟩, ⟨fun zs hz => by have := HB.out zs hz; omega⟩⟩
            have e : wrap64 ((i : Int) + 1) = ((i + 1 : Nat) : Int) := by
              rw [w64 (by omega) (by have := HI2.out; have := HL.out; omega)]
              omega
            first
              | (simp only [goInt, e]; done)
              | (rw [← e]; simp [goInt])
              | exact congrArg (Value.int .i64) e
    · have hin : decide ((i : Int) < (l1.length : Int)) = false := decide_eq_false (by omega)
      have hin2 : decide (i < l1.length) = false := decide_eq_false hi
      have HF := Aside0.mk (show ll = l1.foldl (gAdd n) (List.replicate n []) by rw [HE.out, List.take_of_length_le (by omega)])
      go_wp2
      go_ret
      refine ⟨_, rfl, ?_, HC.out.bl⟩
      rw [← HF.out]
      exact HC.out.done (by have := HN.out; simp only [maxLen]; omega)
theorem graph_near.calls (a0 : Int) (A1 : Option Addr) (c1 : Nat) (l1 : List S36) (r : List (List Int)) (w : World) (hr1 : Kd.C k36 w A1 l1.length l1) (hc1 : l1.length ≤ c1) (h : graph_near.f a0 l1 = some r) :
    Calls Try.prog 22 #[.int .i64 a0, .slice A1 l1.length c1] w fun e w' => ∃ v0_ : Value, e = .returned v0_ ∧ Kd.S (Kd.slice 3 (Kd.int .i64)) 22 w' w.heap.size (fun _ => True) v0_ r ∧ Below w.heap.size w w' := by
  unfold graph_near.f at h
  split at h
  · rename_i hc
    obtain ⟨n, rfl⟩ := Int.eq_ofNat_of_zero_le hc.1
    have h2 := Option.some.inj h
    subst h2
    exact near_a n (by omega) A1 c1 l1 (by omega) w hr1 hc1
  · cases h
end Go.Proofs.Ytbejdbgcfgllhaa.P
