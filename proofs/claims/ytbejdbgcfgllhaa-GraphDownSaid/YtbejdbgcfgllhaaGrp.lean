/- Layer 25: slices.Repeat of a row of one number, by hand. -/
import Derived.Test.YtbejdbgcfgllhaaP6
import Derived.Test.YtbejdbgcfgllhaaEev
import Derived.Laws.CopyOwn
namespace Go.Proofs.Ytbejdbgcfgllhaa.P
set_option linter.unusedSimpArgs false
set_option linter.unusedVariables false
open Go.RowKit Go.Proofs.YtbejdbgcfgllhaaW.PrintWords Go.Proofs.YtbejdbgcfgllhaaW.PrintLast Go.Proofs.YtbejdbgcfgllhaaW.PrintMore
theorem und_i : Try.prog.underlying 22 = some (.slice 3) := by kernel_rfl
theorem one3 : (Try.prog.info? 3).map (·.size) = some 1 := by kernel_rfl
def slices_Repeat_int_int.f (l : List Int) (n : Int) : Option (List Int) := match l with
  | [x] => if 0 ≤ n ∧ n ≤ 1000000 then some (List.replicate n.toNat x) else none
  | _ => none
theorem mul_eq (n : Int) (h0 : 0 ≤ n) (h1 : n ≤ 1000000) : bits_Mul.f 1 n = some (0, n) := by
  have hw : ∀ x : Int, 0 ≤ x → x < 18446744073709551616 → IntKind.u64.wrap x = x := fun x a b => by simp [IntKind.wrap, IntKind.bits, IntKind.signed]; omega
  have ha : ∀ x : Int, 0 ≤ x → x < 4294967296 → Go.bits .and .u64 x 4294967295 = x := fun x a b => by
    show IntKind.u64.wrap ((BitVec.ofInt 64 x &&& BitVec.ofInt 64 4294967295).toNat : Int) = _
    rw [BitVec.toNat_and, BitVec.toNat_ofInt, show (BitVec.ofInt 64 4294967295).toNat = 2 ^ 32 - 1 from rfl, Nat.and_two_pow_sub_one_eq_mod, hw _ (by omega) (by omega)]
    omega
  unfold bits_Mul.f bits_Mul64.f
  simp only [ha 1 (by omega) (by omega), ha n h0 (by omega), show (1 : Int) / 4294967296 = 0 by decide, show n / 4294967296 = 0 by omega, Int.zero_mul, Int.mul_zero, Int.one_mul, hw 0 (by omega) (by omega), hw n h0 (by omega), Int.zero_add, Int.add_zero, ha 0 (by omega) (by omega), Option.bind_some]
  rfl
theorem own_pos {w : World} {base : Nat} {ok : Nat → Prop} {v : Value} {xs : List Int} (h : (Kd.int .i64).R 3 w base ok v xs) (hp : 0 < xs.length) : ∃ g cap cur, v = .slice (some ⟨g, 0, none⟩) xs.length cap ∧ base ≤ g ∧ w.heap[g]? = some (.cells cur 3 (0, 0)) ∧ xs.length ≤ cap ∧ cap ≤ maxLen ∧ cur.size = cap ∧ cur.toList.take xs.length = encs (Value.int .i64) xs := by
  rcases (Kd.own_of_R h).2 with ⟨_, hx0⟩ | ⟨g, cap, cur, hv, hb, hh, hnc, hcm, hcs, htk⟩
  · omega
  · exact ⟨g, cap, cur, hv, hb, hh, hnc, hcm, by omega, by rw [← htk, Nat.mul_one]⟩
/-- the row under way: its first k cells are x -/
structure Rp (w wr : World) (g n cap k : Nat) (x : Int) (L : List Value) : Prop where
  bl : Below w.heap.size w wr
  gb : w.heap.size ≤ g
  hh : wr.heap[g]? = some (.cells L.toArray 3 (0, 0))
  nc : n ≤ cap
  ln : L.length = cap
  pre : L.take k = List.replicate k (.int .i64 x)
theorem Rp.below {w wr w' : World} {g n cap k : Nat} {x : Int} {L : List Value} (h : Rp w wr g n cap k x L) (hb : Below wr.heap.size wr w') : Rp w w' g n cap k x L := ⟨below_step h.bl hb, h.gb, blk_below h.hh hb, h.nc, h.ln, h.pre⟩
theorem Rp.first {w wr w' : World} {g n cap : Nat} {x : Int} {L : List Value} (h : Rp w wr g n cap 0 x L) (hH : Hid (w'.heap[g]? = some (.cells (splice L 0 [.int .i64 x]).toArray 3 (0, 0)))) (hB : Below w.heap.size w w') (hp : 1 ≤ n) : Rp w w' g n cap 1 x (splice L 0 [.int .i64 x]) :=
  ⟨hB, h.gb, hH, h.nc, by rw [length_splice _ _ _ (by have := h.ln; have := h.nc; simp; omega)]; exact h.ln, by simp [splice]⟩
theorem Rp.next {w wr w' : World} {g n cap k : Nat} {x : Int} {L : List Value} (h : Rp w wr g n cap k x L) (hH : Hid (w'.heap[g]? = some (.cells (splice L k (List.replicate (min k (n - k)) (.int .i64 x))).toArray 3 (0, 0)))) (hB : Below w.heap.size w w') (h1 : 1 ≤ k) (hk : k < n) : Rp w w' g n cap (k + min k (n - k)) x (splice L k (List.replicate (min k (n - k)) (.int .i64 x))) := by
  have hfit : k + (List.replicate (min k (n - k)) (Value.int .i64 x)).length ≤ L.length := by have := h.ln; have := h.nc; rw [List.length_replicate]; omega
  refine ⟨hB, h.gb, hH, h.nc, by rw [length_splice _ _ _ hfit]; exact h.ln, ?_⟩
  have hkl : (L.take k).length = k := by rw [List.length_take]; have := h.ln; have := h.nc; omega
  unfold splice
  rw [← List.append_assoc, List.take_left' (by rw [List.length_append, hkl, List.length_replicate]), h.pre, List.replicate_append_replicate]
theorem Rp.src {w wr : World} {g n cap k : Nat} {x : Int} {L : List Value} (h : Rp w wr g n cap k x L) : ∀ j v, (List.replicate (min k (n - k)) (Value.int .i64 x))[j]? = some v → wr.cell? ((⟨g, 0, none⟩ : Addr).add j) = some v := by
  intro j v hj
  obtain ⟨hl, rfl⟩ := List.getElem?_eq_some_iff.1 hj
  rw [List.length_replicate] at hl
  rw [add_plain, List.getElem_replicate]
  have h1 : (L.take k)[j]? = some (.int .i64 x) := by rw [h.pre, List.getElem?_replicate, if_pos (by omega)]
  rw [List.getElem?_take_of_lt (by omega)] at h1
  exact (blk_cell h.hh j).trans (by simpa using h1)
theorem Rp.done {w wr : World} {g n cap k : Nat} {x : Int} {L : List Value} (h : Rp w wr g n cap k x L) (hk : n ≤ k) (hc : cap ≤ maxLen) : (Kd.int .i64).R 3 wr w.heap.size (fun _ => True) (.slice (some ⟨g, 0, none⟩) n cap) (List.replicate n x) := by
  refine Kd.R_of_own ?_ (fun _ _ => trivial)
  rw [List.length_replicate]
  refine ⟨by simp [encs], .inr ⟨g, cap, L.toArray, rfl, h.gb, h.hh, h.nc, hc, by have := h.ln; simp; omega, ?_⟩⟩
  have h1 := congrArg (List.take n) h.pre
  rw [List.take_take, Nat.min_eq_left hk, List.take_replicate, Nat.min_eq_left hk] at h1
  rw [Nat.mul_one]
  simpa [encs] using h1
theorem src_one {w w2 : World} {ad : Addr} {x : Int} (hb : Below w.heap.size w w2) (h : w.cell? (ad.add 0) = some (.int .i64 x)) (j : Nat) (v : Value) (hj : [Value.int .i64 x][j]? = some v) : w2.cell? (ad.add j) = some v := by
  obtain ⟨hl, rfl⟩ := List.getElem?_eq_some_iff.1 hj
  have : j = 0 := by simpa using hl
  subst this
  exact (hb.cell (World.block_lt_of_cell? _ _ h)).trans h
def grp.T9 : Bool × List (List Nat × List Nat) := (true, [([], []), ([], []), ([], []), ([1, 2], [1, 2]), ([], []), ([], []), ([4, 5], [4, 5]), ([3, 6], [3, 6]), ([0, 7], [0, 7]), ([8, 7, 0, 1, 2, 3, 4, 5, 6, 7, 8], [0, 2, 5, 8])])
def grp.B9 : List Nat := [0, 0, 0, 6, 0, 0, 48, 126, 255, 511]
theorem grp.tab9 : rtab .any (opsOf Try.f23 9) = grp.T9 := by kernel_rfl
theorem grp.bits9 : waitsOk grp.T9.2 grp.B9 = true := by kernel_rfl
set_option maxHeartbeats 8000000 in
set_option maxRecDepth 100000 in
theorem repeat_pos (A0 : Option Addr) (c0 n : Nat) (x : Int) (w : World) (hr0 : Kd.C (Kd.int .i64) w A0 1 [x]) (hn1 : 1 ≤ n) (hn2 : n ≤ 1000000) :
    Calls Try.prog 23 #[.slice A0 1 c0, .int .i64 (n : Int)] w fun e w' => ∃ v0_ : Value, e = .returned v0_ ∧ Kd.R (Kd.int .i64) 3 w' w.heap.size (fun _ => True) v0_ (List.replicate n x) ∧ Below w.heap.size w w' := by
  have HMU := Aside0.mk (mul_eq (n : Int) (by omega) (by omega))
  have HL := Aside0.mk hn2
  have HP := Aside0.mk hn1
  have hR := Kd.reads_of_C (enc := Value.int .i64) (d := (0 : Int)) (h1 := fun _ => rfl) hr0
  obtain ⟨ad, hA, hcx⟩ := hR.2.2 (by omega)
  subst hA
  have HX0 := Aside0.mk (show w.cell? (ad.add 0) = some (.int .i64 x) from hcx 0 (by omega))
  have q1 : decide ((n : Int) < 0) = false := decide_eq_false (by omega)
  have q2 : decide ((n : Int) > 9223372036854775807) = false := decide_eq_false (by omega)
  have hwn : IntKind.u64.wrap (n : Int) = (n : Int) := by simp [IntKind.wrap, IntKind.bits, IntKind.signed]; omega
  have hwi : wrap64 (n : Int) = (n : Int) := w64 (by omega) (by omega)
  clear hr0 hR hcx
  go_enter Try.func23, Try.ntmps23
  go_upto_region 7 with (first
    | (go_at_call 33; (with_reducible refine (bits_Mul.calls 1 (n : Int) 0 (n : Int) _ HMU.out).mono ?_); rintro x_ w1 ⟨rfl, hd⟩; have B1 := Aside0.mk hd.below; clear hd)
    | ((with_reducible refine gate_dst (N := 30) rfl ?_); refine Kd.R_make (Kd.int .i64) (w0 := w) w.heap.size 3 rfl (N := 30) rfl 22 (.tmp 29) (.tmp 29) rfl (n : Int) rfl rfl und_i (.int .i64 0) 8 info3 rfl (by decide) (by decide) (0 : Int) (ok := fun _ => True) (okp := fun _ => True) ?mZ (fun _ _ => trivial) trivial (by omega) ?mL ?mB ?mS ?_; (case mZ => first | rfl | exact ⟨rfl⟩ | exact ⟨_, rfl⟩); (case mB => exact B1.out); (case mS => exact B1.out.size); (case mL => have := HL.out; omega); intro v2 w2 hr hb hg hat; obtain ⟨g, cap, cur, rfl, hgb, hh, hnc, hcm, hcs, htk⟩ := own_pos hr (by have := HP.out; rw [List.length_replicate]; omega); rw [List.length_replicate, Int.toNat_natCast] at hnc htk ⊢; obtain ⟨L, hLe⟩ : ∃ L, L = cur.toList := ⟨_, rfl⟩; have HC := Aside0.mk (show Rp w w2 g n cap 0 x L from by rw [hLe]; exact ⟨hb, hgb, by simpa using hh, hnc, by simpa using hcs, by simp⟩); have HX := Aside0.mk (show ∃ ad', (some ad : Option Addr) = some ad' ∧ ∀ j v, [Value.int .i64 x][j]? = some v → w2.cell? (ad'.add j) = some v from ⟨ad, rfl, fun j v hj => src_one HC.out.bl HX0.out j v hj⟩); (try clear hLe); have HCM := Aside0.mk hcm; have HNC := Aside0.mk hnc; (try clear hr); (try clear hb); (try clear hg); (try clear hat); (try clear hh); (try clear hcs); (try clear htk); (try clear hcm); (try clear hnc)))
  go_wp2_with ((with_reducible refine gate_builtin (b := .copy) (xs := #[.tmp 31, .tmp 32]) rfl ?_); refine wpList_copy_splice rfl (.tmp 31) (.tmp 32) 22 22 rfl 3 und_i one3 _ _ _ _ _ _ rfl rfl g 0 L 3 HC.out.hh [.int .i64 x] ?cN ?cP ?cF ?c1 w.heap.size w HC.out.bl HC.out.gb ?_; (case cN => exact (Nat.min_eq_left HP.out).symm); (case cP => exact fun _ => ⟨rfl, HX.out⟩); (case cF => have := HP.out; have := HC.out.ln; have := HC.out.nc; simp; omega); (case c1 => simp [Value.oneCell']); intro w3 hH hB; have HC1 := Aside0.mk (HC.out.first hH hB HP.out); clear hH hB)
  clear HC HX
  go_loopg [8] n (fun kq v8 wr => ∃ (k : Nat) (L : List Value), v8 = .int .i64 (k : Int) ∧ Aside0 (1 ≤ k ∧ k ≤ n) ∧ Aside0 (n ≤ k + kq) ∧ Aside0 (Rp w wr g n cap k x L))
  case atStart => exact ⟨1, _, rfl, ⟨by have := HP.out; omega⟩, ⟨by omega⟩, HC1⟩
  case round =>
    clear HC1
    obtain ⟨k, L, rfl, HK, HKQ, HC⟩ := hrel
    cases gk with
    | zero =>
      have hkn : decide ((k : Int) < (n : Int)) = false := decide_eq_false (by have := HK.out; have := HKQ.out; omega)
      have hkn2 : decide (k < n) = false := decide_eq_false (by have := HK.out; have := HKQ.out; omega)
      go_wp2
      go_ret
      exact ⟨_, rfl, HC.out.done (by have := HKQ.out; omega) HCM.out, HC.out.bl⟩
    | succ k1 =>
      by_cases hk : k < n
      · have hkn : decide ((k : Int) < (n : Int)) = true := decide_eq_true (by omega)
        have hkn2 : decide (k < n) = true := decide_eq_true hk
        have HK1 := Aside0.mk HK.out.1
        have HKN := Aside0.mk hk
        obtain ⟨i0, hi0, _, hsz, _⟩ := info_parts info3
        have hcut1 := cut_from (P := Try.prog) 22 3 .i64 und_i hi0 1 hsz (some ⟨g, 0, none⟩) n cap (k : Int) (by omega) (by omega)
        have hcut2 := cut_to (P := Try.prog) 22 3 .i64 und_i hi0 (some ⟨g, 0, none⟩) n cap (k : Int) (by omega) (by omega) HNC.out
        rw [Int.toNat_natCast] at hcut1 hcut2
        rw [if_neg (by have := HNC.out; omega), Option.map_some, Nat.mul_one, add_plain] at hcut1
        have hHC := HC.out.below (below_drew (Below.refl _ _))
        clear hi0 hsz hk
        go_upto_region 9 with (fail)
        refine start_ (n := 10) (S := fun w' => True) (ds := [7]) #[false, false, false, false, false, false, false, false, false, false] (by kernel_rfl) rfl rfl trivial (fun hHeld => ?_); refine with_tabW grp.tab9 grp.bits9 (fun HT_ HW_ => ?_)
        refine pure_ (i := 0) (N := some 38) (v := ?_) (a' := ?_) #[true, false, false, false, false, false, false, false, false, false] rfl rfl (any_of HT_.out (by kernel_rfl)) (fun _ _ _ h => h) (Or.inl ⟨by rfl, ?_⟩) ?_ ?_
        rotate_left
        · intro w'
          go_simp
          with_reducible rfl
        rotate_left
        · simp only [Act.put, List.setIfInBounds_toArray, List.set_cons_zero, List.set_cons_succ, i64_w, i32_w]
          rfl
        refine pure_ (i := 1) (N := some 39) (v := ?_) (a' := ?_) #[true, true, false, false, false, false, false, false, false, false] rfl rfl (any_of HT_.out (by kernel_rfl)) (fun _ _ _ h => h) (Or.inl ⟨by rfl, ?_⟩) ?_ ?_
        rotate_left
        · intro w'
          go_simp
          with_reducible rfl
        rotate_left
        · simp only [Act.put, List.setIfInBounds_toArray, List.set_cons_zero, List.set_cons_succ, i64_w, i32_w]
          rfl
        refine pure_ (i := 2) (N := some 40) (v := ?_) (a' := ?_) #[true, true, true, false, false, false, false, false, false, false] rfl rfl (any_of HT_.out (by kernel_rfl)) (fun _ _ _ h => h) (Or.inl ⟨by rfl, ?_⟩) ?_ ?_
        rotate_left
        · intro w'
          go_simp
          with_reducible rfl
        rotate_left
        · simp only [Act.put, List.setIfInBounds_toArray, List.set_cons_zero, List.set_cons_succ, i64_w, i32_w]
          rfl
        refine pure_ (i := 3) (N := some 41) (v := ?_) (a' := ?_) #[true, true, true, true, false, false, false, false, false, false] rfl rfl (any_of HT_.out (by kernel_rfl)) (fun _ _ _ h => h) (Or.inl ⟨by rfl, ?_⟩) ?_ ?_
        rotate_left
        · intro w'
          go_simp
          with_reducible rfl
        rotate_left
        · simp only [Act.put, List.setIfInBounds_toArray, List.set_cons_zero, List.set_cons_succ, i64_w, i32_w]
          rfl
        refine pure_ (i := 4) (N := some 42) (v := ?_) (a' := ?_) #[true, true, true, true, true, false, false, false, false, false] rfl rfl (any_of HT_.out (by kernel_rfl)) (fun _ _ _ h => h) (Or.inl ⟨by rfl, ?_⟩) ?_ ?_
        rotate_left
        · intro w'
          go_simp
          with_reducible rfl
        rotate_left
        · simp only [Act.put, List.setIfInBounds_toArray, List.set_cons_zero, List.set_cons_succ, i64_w, i32_w]
          rfl
        refine pure_ (i := 5) (N := some 43) (v := ?_) (a' := ?_) #[true, true, true, true, true, true, false, false, false, false] rfl rfl (any_of HT_.out (by kernel_rfl)) (fun _ _ _ h => h) (Or.inl ⟨by rfl, ?_⟩) ?_ ?_
        rotate_left
        · intro w'
          go_simp
          with_reducible rfl
        rotate_left
        · simp only [Act.put, List.setIfInBounds_toArray, List.set_cons_zero, List.set_cons_succ, i64_w, i32_w]
          rfl
        refine pure_ (i := 6) (N := some 44) (v := ?_) (a' := ?_) #[true, true, true, true, true, true, true, false, false, false] rfl rfl (any_of HT_.out (by kernel_rfl)) (fun _ _ _ h => h) (Or.inl ⟨by rfl, ?_⟩) ?_ ?_
        rotate_left
        · intro w'
          go_simp
          with_reducible rfl
        rotate_left
        · simp only [Act.put, List.setIfInBounds_toArray, List.set_cons_zero, List.set_cons_succ, i64_w, i32_w]
          rfl
        refine last_ (i := 7) (N := some 45) #[true, true, true, true, true, true, true, true, false, false] rfl rfl (one_of HT_.out (by kernel_rfl)) (by decide) (fun K hK => ?_)
        refine step_copy_splice rfl (.tmp 41) (.tmp 44) 22 22 rfl 3 und_i one3 _ _ _ _ _ _ rfl rfl g k L 3 hHC.hh (List.replicate (min k (n - k)) (.int .i64 x)) ?cN ?cP ?cF ?c1 w.heap.size w hHC.bl hHC.gb ?_
        (case cN => rw [List.length_replicate])
        (case cP => exact fun _ => ⟨rfl, ⟨g, 0, none⟩, rfl, hHC.src⟩)
        (case cF => have := HKN.out; have := hHC.ln; have := hHC.nc; rw [List.length_replicate]; omega)
        (case c1 => intro u hu; rw [List.eq_of_mem_replicate hu]; rfl)
        intro w3 hH hB
        have HC3 := Aside0.mk (hHC.next hH hB HK1.out HKN.out)
        clear hH hB
        refine hK.out _ _ ?_
        clear hK K
        refine norm_ (a' := ?_) ?_ ?_
        rotate_left
        · show Act.put _ (some 45) _ = _
          simp only [Act.put, List.setIfInBounds_toArray, List.set_cons_zero, List.set_cons_succ, i64_w, i32_w]
          rfl
        refine pure_ (i := 8) (N := some 46) (v := ?_) (a' := ?_) #[true, true, true, true, true, true, true, true, true, false] rfl rfl (any_of HT_.out (by kernel_rfl)) (fun _ _ _ h => h) (Or.inl ⟨by rfl, ?_⟩) ?_ ?_
        rotate_left
        · intro w'
          go_simp
          with_reducible rfl
        rotate_left
        · simp only [Act.put, List.setIfInBounds_toArray, List.set_cons_zero, List.set_cons_succ, i64_w, i32_w]
          rfl
        refine pure_ (i := 9) (N := some 8) (v := ?_) (a' := ?_) #[true, true, true, true, true, true, true, true, true, true] rfl rfl (any_of HT_.out (by kernel_rfl)) (fun _ _ _ h => h) (Or.inl ⟨by rfl, ?_⟩) ?_ ?_
        rotate_left
        · intro w'
          go_simp
          with_reducible rfl
        rotate_left
        · simp only [Act.put, List.setIfInBounds_toArray, List.set_cons_zero, List.set_cons_succ, i64_w, i32_w]
          rfl
        refine done_ (done_of HT_.out (by kernel_rfl)) ?_
        go_wp2
        go_roundg k1
        case measure => have := HKQ.out; have := HK1.out; have := HKN.out; omega
        case rel =>
          refine ⟨k + min k (n - k), _, ?_, ⟨by have := HK1.out; have := HKN.out; omega⟩, ⟨by have := HKQ.out; have := HK1.out; have := HKN.out; omega⟩, HC3⟩
          have e : wrap64 ((k : Int) + ((min k (n - k) : Nat) : Int)) = ((k + min k (n - k) : Nat) : Int) := by
            rw [w64 (by omega) (by have := HL.out; have := HKN.out; omega)]
            omega
          first
            | (simp only [goInt, List.length_replicate, e]; done)
            | (rw [← e]; simp [goInt])
      · have hkn : decide ((k : Int) < (n : Int)) = false := decide_eq_false (by omega)
        have hkn2 : decide (k < n) = false := decide_eq_false hk
        go_wp2
        go_ret
        exact ⟨_, rfl, HC.out.done (by omega) HCM.out, HC.out.bl⟩
set_option maxHeartbeats 8000000 in
set_option maxRecDepth 100000 in
theorem repeat_zero (A0 : Option Addr) (c0 : Nat) (w : World) :
    Calls Try.prog 23 #[.slice A0 1 c0, .int .i64 0] w fun e w' => ∃ v0_ : Value, e = .returned v0_ ∧ Kd.R (Kd.int .i64) 3 w' w.heap.size (fun _ => True) v0_ ([] : List Int) ∧ Below w.heap.size w w' := by
  have HMU := Aside0.mk (mul_eq 0 (by omega) (by omega))
  go_enter Try.func23, Try.ntmps23
  go_wp2_with (first
    | (go_at_call 33; (with_reducible refine (bits_Mul.calls 1 0 0 0 _ HMU.out).mono ?_); rintro x_ w1 ⟨rfl, hd⟩; have B1 := Aside0.mk hd.below; clear hd)
    | ((with_reducible refine gate_dst (N := 30) rfl ?_); refine Kd.R_make (Kd.int .i64) (w0 := w) w.heap.size 3 rfl (N := 30) rfl 22 (.tmp 29) (.tmp 29) rfl 0 rfl rfl und_i (.int .i64 0) 8 info3 rfl (by decide) (by decide) (0 : Int) (ok := fun _ => True) (okp := fun _ => True) ?mZ (fun _ _ => trivial) trivial (by omega) (by decide) ?mB ?mS ?_; (case mZ => first | rfl | exact ⟨rfl⟩ | exact ⟨_, rfl⟩); (case mB => exact B1.out); (case mS => exact B1.out.size); intro v2 w2 hr hb hg hat; obtain ⟨A2, c2, e2⟩ := Kd.R_slice hr; (rw [List.length_replicate] at e2); subst e2; have HR2 := Aside0.mk hr; have HB2 := Aside0.mk hb; (try clear hr); (try clear hb); (try clear hg); (try clear hat))
    | ((with_reducible refine gate_builtin (b := .copy) (xs := #[.tmp 31, .tmp 32]) rfl ?_); refine wpList_copy_nothing rfl (.tmp 31) (.tmp 32) 22 22 rfl 3 und_i one3 _ _ _ _ _ _ rfl rfl ?cN ?_; (case cN => simp)))
  go_loopg [8] 0 (fun kq v8 wr => v8 = .int .i64 0 ∧ Aside0 (w2 = wr))
  case atStart => exact ⟨rfl, ⟨rfl⟩⟩
  case round =>
    obtain ⟨rfl, hww⟩ := hrel
    have hw := hww.out
    subst hw
    go_wp2
    go_ret
    exact ⟨_, rfl, HR2.out, HB2.out⟩
theorem slices_Repeat_int_int.calls (A0 : Option Addr) (c0 : Nat) (l0 : List Int) (a1 : Int) (r : List Int) (w : World) (hr0 : Kd.C (Kd.int .i64) w A0 l0.length l0) (hc0 : l0.length ≤ c0) (h : slices_Repeat_int_int.f l0 a1 = some r) :
    Calls Try.prog 23 #[.slice A0 l0.length c0, .int .i64 a1] w fun e w' => ∃ v0_ : Value, e = .returned v0_ ∧ Kd.R (Kd.int .i64) 3 w' w.heap.size (fun _ => True) v0_ r ∧ Below w.heap.size w w' := by
  unfold slices_Repeat_int_int.f at h
  match l0, h with
  | [x], h =>
    by_cases c : 1 ≤ a1 ∧ a1 ≤ 1000000
    · have h : (if 0 ≤ a1 ∧ a1 ≤ 1000000 then some (List.replicate a1.toNat x) else none) = some r := h
      rw [if_pos ⟨by omega, c.2⟩] at h
      have h2 := Option.some.inj h
      subst h2
      obtain ⟨n, rfl⟩ := Int.eq_ofNat_of_zero_le (show 0 ≤ a1 by omega)
      exact repeat_pos A0 c0 n x w hr0 (by omega) (by omega)
    · have h : (if 0 ≤ a1 ∧ a1 ≤ 1000000 then some (List.replicate a1.toNat x) else none) = some r := h
      by_cases c2 : a1 = 0
      · subst c2
        have h2 : ([] : List Int) = r := Option.some.inj h
        subst h2
        exact repeat_zero A0 c0 w
      · rw [if_neg (by omega)] at h
        cases h
end Go.Proofs.Ytbejdbgcfgllhaa.P
