/- Types that are made: how they lie; a part of a row of variables of one type is one. -/
import Derived.ChangeBears
namespace Go.Proofs.Ytjeahmlahkngaaa.P
set_option linter.unusedSimpArgs false
set_option linter.unusedVariables false
open Go.Made
theorem mapM_up {α β : Type} {f g : α → Option β} (H : ∀ a b, f a = some b → g a = some b) : ∀ {l : List α} {r : List β}, l.mapM f = some r → l.mapM g = some r := by
  intro l
  induction l with
  | nil => intro r h; simpa using h
  | cons a l ih =>
    intro r h
    rw [List.mapM_cons] at h ⊢
    simp only [bind, Option.bind_eq_some_iff, pure] at h ⊢
    obtain ⟨b, hb, bs, hbs, h⟩ := h
    exact ⟨b, H _ _ hb, bs, ih hbs, h⟩
theorem forIn_up {α β : Type} {f g : α → β → Option (ForInStep β)} (H : ∀ a s r, f a s = some r → g a s = some r) : ∀ {l : List α} {s r : β}, (forIn l s f : Option β) = some r → (forIn l s g : Option β) = some r := by
  intro l
  induction l with
  | nil => intro s r h; simpa using h
  | cons a l ih =>
    intro s r h
    rw [List.forIn_cons] at h ⊢
    simp only [bind, Option.bind_eq_some_iff, pure] at h ⊢
    obtain ⟨b, hb, h⟩ := h
    refine ⟨b, H _ _ _ hb, ?_⟩
    cases b with
    | done b => exact h
    | yield b => exact ih h
theorem forIn_inv {α β : Type} {f : α → β → Option (ForInStep β)} (I : β → Prop) (H : ∀ a s r, I s → f a s = some r → ∃ b, r = .yield b ∧ I b) : ∀ {l : List α} {s r : β}, I s → (forIn l s f : Option β) = some r → I r := by
  intro l
  induction l with
  | nil => intro s r hs h; simp at h; exact h ▸ hs
  | cons a l ih =>
    intro s r hs h
    rw [List.forIn_cons] at h
    simp only [bind, Option.bind_eq_some_iff, pure] at h
    obtain ⟨b, hb, h⟩ := h
    obtain ⟨c, rfl, hc⟩ := H _ _ _ hs hb
    exact ih hc h
section
variable {info info' : TypeId → Option TypeInfo} (H : ∀ t i, info t = some i → info' t = some i)
include H in
theorem bind_up {t : TypeId} {β : Type} {k : TypeInfo → Option β} {r : β} (h : (info t).bind k = some r) : (info' t).bind k = some r := by
  obtain ⟨i, hi, h⟩ := Option.bind_eq_some_iff.1 h
  exact Option.bind_eq_some_iff.2 ⟨i, H _ _ hi, h⟩
include H in
theorem map_up {t : TypeId} {β : Type} {k : TypeInfo → β} {r : β} (h : (info t).map k = some r) : (info' t).map k = some r := by
  obtain ⟨i, hi, h⟩ := Option.map_eq_some_iff.1 h
  exact Option.map_eq_some_iff.2 ⟨i, H _ _ hi, h⟩
include H in
theorem funcStr_up {ps rs : Array TypeId} {v : Bool} {s : String} (h : funcStr info ps rs v = some s) : funcStr info' ps rs v = some s := by
  unfold funcStr at h ⊢
  simp only [bind, Option.bind_eq_some_iff, pure] at h ⊢
  obtain ⟨ins, h1, outs, h2, h3⟩ := h
  refine ⟨ins, mapM_up (fun a b hb => ?_) h1, outs, mapM_up (fun a b hb => ?_) h2, h3⟩
  · obtain ⟨i, hi, hb⟩ := Option.bind_eq_some_iff.1 hb
    refine Option.bind_eq_some_iff.2 ⟨i, H _ _ hi, ?_⟩
    by_cases c : (v && a.snd + 1 == ps.size) = true
    · simp only [if_pos c] at hb ⊢
      obtain ⟨d, hd, hb⟩ := Option.bind_eq_some_iff.1 hb
      refine Option.bind_eq_some_iff.2 ⟨d, ?_, ?_⟩
      · cases hi2 : i.desc <;> rw [hi2] at hd <;> first | exact hd | exact map_up H hd
      · cases d <;> first | exact bind_up H hb | cases hb
    · simp only [if_neg c] at hb ⊢
      exact hb
  · exact bind_up H hb
include H in
theorem struct_up {fs : Array Field} {x : TypeInfo} (h : reckonStruct info fs = some x) : reckonStruct info' fs = some x := by
  unfold reckonStruct at h ⊢
  simp only [bind, Option.bind_eq_some_iff, pure] at h ⊢
  obtain ⟨a, h1, h2⟩ := h
  refine ⟨a, ?_, h2⟩
  rw [← Array.forIn_toList] at h1 ⊢
  exact forIn_up (fun f s r hb => bind_up H hb) h1
include H in
theorem reckon_up {d : TypeDesc} {x : TypeInfo} (h : reckon info d = some x) : reckon info' d = some x := by
  unfold reckon at h ⊢
  cases d <;> simp only [bind, Option.bind_eq_some_iff, pure] at h ⊢ <;> first
    | exact struct_up H h
    | (obtain ⟨i, hi, h⟩ := h; exact ⟨i, H _ _ hi, h⟩)
    | (obtain ⟨i, hi, s, hs, i2, hi2, h⟩ := h; exact ⟨i, H _ _ hi, s, hs, i2, H _ _ hi2, h⟩)
    | (obtain ⟨s, hs, h⟩ := h; exact ⟨s, funcStr_up H hs, h⟩)
    | exact h
def szOf (info : TypeId → Option TypeInfo) (t : TypeId) : Nat := ((info t).map (·.size)).getD 0
def LaidS (info : TypeId → Option TypeInfo) (out : Array Field) (cells : Nat) : Prop :=
  (∀ f ∈ out.toList, ∃ i, info f.type = some i) ∧ cells = (out.toList.map fun f => szOf info f.type).sum ∧ ∀ (j : Nat) f, out.toList[j]? = some f → f.offset = ((out.toList.take j).map fun f => szOf info f.type).sum
omit H in
theorem LaidS.push {out : Array Field} {cells : Nat} (h : LaidS info out cells) (g : Field) (i : TypeInfo) (hg : g.offset = cells) (hi : info g.type = some i) : LaidS info (out.push g) (cells + i.size) := by
  obtain ⟨h1, h2, h3⟩ := h
  have hz : szOf info g.type = i.size := by unfold szOf; rw [hi]; rfl
  refine ⟨fun f hf => ?_, ?_, fun j f hj => ?_⟩
  · rw [Array.toList_push, List.mem_append, List.mem_singleton] at hf
    rcases hf with hf | rfl
    · exact h1 f hf
    · exact ⟨i, hi⟩
  · rw [Array.toList_push, List.map_append, List.sum_append, ← h2]
    simp [hz]
  · rw [Array.toList_push] at hj ⊢
    rcases Nat.lt_or_ge j out.toList.length with c | c
    · rw [List.getElem?_append_left c] at hj
      rw [h3 j f hj, List.take_append_of_le_length (by omega)]
    · rw [List.getElem?_append_right c] at hj
      have e : j - out.toList.length = 0 := by
        rcases Nat.eq_zero_or_pos (j - out.toList.length) with e | e
        · exact e
        · rw [List.getElem?_eq_none (by rw [List.length_singleton]; omega)] at hj; cases hj
      rw [e] at hj
      have hj2 : g = f := by simpa using hj
      subst hj2
      rw [show j = out.toList.length by omega, List.take_left' rfl, hg, h2]
/-- A struct's places: behind one another. -/
theorem struct_at {fs : Array Field} {x : TypeInfo} (h : reckonStruct info fs = some x) : ∃ out : Array Field, x.desc = .struct out ∧ LaidS info out x.size := by
  unfold reckonStruct at h
  simp only [bind, Option.bind_eq_some_iff, pure] at h
  obtain ⟨a, h1, h2⟩ := h
  rw [← Array.forIn_toList] at h1
  have hI := forIn_inv (I := fun s : Array Field × Nat × Nat × Nat × Nat × Bool × Bool × Option (Array Value) × String => LaidS info s.1 s.2.1) (fun f s r hs hb => ?_) ?_ h1
  · refine ⟨a.1, ?_⟩
    split at h2
    · cases h2
      exact ⟨rfl, hI⟩
    · cases h2
      exact ⟨rfl, hI⟩
  · obtain ⟨i, hi, hb⟩ := Option.bind_eq_some_iff.1 hb
    split at hb
    · cases hb
    · split at hb
      · cases hb
      · split at hb
        · obtain ⟨tag, ht, hb⟩ := Option.bind_eq_some_iff.1 hb
          split at hb <;> (cases hb; exact ⟨_, rfl, hs.push _ i rfl hi⟩)
        · obtain ⟨tag, ht, hb⟩ := Option.bind_eq_some_iff.1 hb
          split at hb <;> (cases hb; exact ⟨_, rfl, hs.push _ i rfl hi⟩)
  · exact ⟨fun f hf => by simp at hf, rfl, fun j f hj => by simp at hj⟩
end
theorem infoAt_up (T : Tables) : ∀ (f : Nat) (t : TypeId) (i : TypeInfo), infoAt T f t = some i → infoAt T (f + 1) t = some i := by
  intro f
  induction f with
  | zero => intro t i h; simp [infoAt] at h
  | succ f ih =>
    intro t i h
    unfold infoAt at h ⊢
    by_cases c : t < T.types.size
    · rw [if_pos c] at h ⊢
      exact h
    · rw [if_neg c] at h ⊢
      obtain ⟨d, hd, h⟩ := Option.bind_eq_some_iff.1 h
      exact Option.bind_eq_some_iff.2 ⟨d, hd, reckon_up ih h⟩
section
variable {P : Program}
theorem info_made {t : TypeId} {i : TypeInfo} (ht : ¬ t < P.types.size) (h : P.info? t = some i) : ∃ d, Made.reckon P.info? d = some i := by
  have H : ∀ t i, Made.infoAt P.toTables 99 t = some i → P.info? t = some i := fun t i h => by
    unfold Tables.info?
    by_cases c : t < P.types.size
    · rw [if_pos c]
      unfold Made.infoAt at h
      rw [if_pos c] at h
      exact h
    · rw [if_neg c]
      exact infoAt_up P.toTables 99 t i h
  unfold Tables.info? at h
  rw [if_neg ht] at h
  unfold Made.depth at h
  unfold Made.infoAt at h
  rw [if_neg ht] at h
  obtain ⟨d, _, h⟩ := Option.bind_eq_some_iff.1 h
  exact ⟨d, reckon_up H h⟩
theorem und_made {t : TypeId} {i : TypeInfo} (ht : ¬ t < P.types.size) (h : P.info? t = some i) : P.underlying t = some i.desc := by
  have hb := Tables.info?_beyond ht h
  unfold Program.underlying
  rw [h]
  cases i with
  | mk desc => cases desc <;> first | rfl | simp [TypeDesc.tableOnly] at hb
theorem info_lt {t : TypeId} (ht : t < P.types.size) : ∃ i, P.info? t = some i := by
  unfold Tables.info?
  rw [if_pos ht]
  exact ⟨_, Array.getElem?_eq_getElem ht⟩
theorem info_und {t : TypeId} {d : TypeDesc} (h : P.underlying t = some d) : ∃ i, P.info? t = some i := by
  unfold Program.underlying at h
  cases hi : P.info? t with
  | none => simp [hi] at h
  | some i => exact ⟨i, rfl⟩
theorem cells_info {t : TypeId} {i : TypeInfo} (h : P.info? t = some i) : P.cellsOf t = i.size := by
  unfold Program.cellsOf
  rw [h]
  rfl
/-- how many cells, by the shape -/
def cellsF (P : Program) : TypeDesc → Nat
  | .struct fs => (fs.toList.map fun f => P.cellsOf f.type).sum
  | .array n e => n * P.cellsOf e
  | _ => 1
theorem kid_struct2 (hl : laidOutB P = true) {t : TypeId} {fs : Array Field} (hu : P.underlying t = some (.struct fs)) :
    (∀ f ∈ fs.toList, ∃ i, P.info? f.type = some i) ∧ P.cellsOf t = (fs.toList.map fun f => P.cellsOf f.type).sum ∧ ∀ (j : Nat) f, fs.toList[j]? = some f → f.offset = ((fs.toList.take j).map fun f => P.cellsOf f.type).sum := by
  by_cases ht : t < P.types.size
  · obtain ⟨g1, g2, g3⟩ := kid_struct hl ht hu
    exact ⟨fun f hf => info_lt (g1 f hf), g2, g3⟩
  · obtain ⟨i, hi⟩ := info_und hu
    rw [und_made ht hi] at hu
    obtain ⟨d, hd⟩ := info_made ht hi
    have hdesc : i.desc = .struct fs := Option.some.inj hu
    unfold Made.reckon at hd
    cases d <;> simp only [bind, Option.bind_eq_some_iff, pure] at hd
    case struct gs =>
      obtain ⟨out, h1, h2, h3, h4⟩ := struct_at hd
      rw [h1] at hdesc
      cases hdesc
      exact ⟨h2, by rw [cells_info hi]; exact h3, h4⟩
    all_goals exfalso
    all_goals repeat' first
      | (obtain ⟨_, _, hd⟩ := hd)
      | (split at hd)
    all_goals first
      | (simp [Made.word] at hdesc; done)
      | (cases hd; simp [Made.word] at hdesc; done)
      | (cases hd; done)
      | (obtain ⟨_, _, hd⟩ := Option.bind_eq_some_iff.1 hd; cases hd; simp [Made.word] at hdesc; done)
theorem kid_array2 (hl : laidOutB P = true) {t e : TypeId} {n : Nat} (hu : P.underlying t = some (.array n e)) : (∃ i, P.info? e = some i) ∧ P.cellsOf t = n * P.cellsOf e := by
  by_cases ht : t < P.types.size
  · obtain ⟨g1, g2⟩ := kid_array hl ht hu
    exact ⟨info_lt g1, g2⟩
  · obtain ⟨i, hi⟩ := info_und hu
    rw [und_made ht hi] at hu
    obtain ⟨d, hd⟩ := info_made ht hi
    have hdesc : i.desc = .array n e := Option.some.inj hu
    unfold Made.reckon at hd
    cases d <;> simp only [bind, Option.bind_eq_some_iff, pure] at hd
    case array m u =>
      obtain ⟨j, hj, s, _, hd⟩ := hd
      cases hd
      cases hdesc
      exact ⟨⟨j, hj⟩, by rw [cells_info hi, cells_info hj]⟩
    case struct gs =>
      obtain ⟨out, h1, _⟩ := struct_at hd
      rw [h1] at hdesc
      cases hdesc
    all_goals exfalso
    all_goals repeat' first
      | (obtain ⟨_, _, hd⟩ := hd)
      | (split at hd)
    all_goals first
      | (simp [Made.word] at hdesc; done)
      | (cases hd; simp [Made.word] at hdesc; done)
      | (cases hd; done)
      | (obtain ⟨_, _, hd⟩ := Option.bind_eq_some_iff.1 hd; cases hd; simp [Made.word] at hdesc; done)
end
section
variable {P : Program} {fits : TypeId → Bool} {S : Nat}
theorem sum_split (l : List Nat) (j : Nat) (x : Nat) (h : l[j]? = some x) : (l.take j).sum + x ≤ l.sum := by
  obtain ⟨hj, rfl⟩ := List.getElem?_eq_some_iff.1 h
  have e : l = l.take j ++ l[j] :: l.drop (j + 1) := by rw [← List.drop_eq_getElem_cons hj, List.take_append_drop]
  conv => rhs; rw [e]
  rw [List.sum_append, List.sum_cons]
  omega
/-- where one lies, it lies inside -/
theorem rowAt_lt : ∀ (d : Nat) (e : TypeId) (count off : Nat), rowAt P fits d e count off 1 = true → off < count * P.cellsOf e := by
  intro d
  cases d with
  | zero => intro e count off h; simp [rowAt] at h
  | succ d =>
    intro e count off h
    unfold rowAt at h
    by_cases hs : P.cellsOf e = 0
    · simp [hs] at h
    · simp only [hs, if_false, Bool.or_eq_true, Bool.and_eq_true, decide_eq_true_eq] at h
      have hpos : 0 < P.cellsOf e := Nat.pos_of_ne_zero hs
      have hi : off / P.cellsOf e < count := by
        rcases h with h | h
        · have := h.1.2; omega
        · exact h.1
      exact (Nat.div_lt_iff_lt_mul hpos).1 hi
/-- a part of a row lies where its row lies -/
theorem rowAt_part (hl : laidOutB P = true) (hS : ∀ e, fits e = true → P.cellsOf e ≠ 0 → P.cellsOf e = S) : ∀ (d : Nat) (e : TypeId) (count off n k : Nat), rowAt P fits d e count off n = true → k < n → rowAt P fits d e count (off + k * S) 1 = true := by
  intro d
  induction d with
  | zero => intro e count off n k h; simp [rowAt] at h
  | succ d ih =>
    intro e count off n k h hk
    unfold rowAt at h ⊢
    by_cases hs : P.cellsOf e = 0
    · simp [hs] at h
    · have hpos : 0 < P.cellsOf e := Nat.pos_of_ne_zero hs
      simp only [hs, if_false, Bool.or_eq_true, Bool.and_eq_true, decide_eq_true_eq, beq_iff_eq] at h ⊢
      rcases h with ⟨⟨h1, h2⟩, h3⟩ | ⟨h1, h2⟩
      · left
        have e1 := hS e h3 hs
        have e2 : (off + k * S) / P.cellsOf e = off / P.cellsOf e + k := by rw [← e1, Nat.add_mul_div_right _ _ hpos]
        have e3 : (off + k * S) % P.cellsOf e = 0 := by rw [← e1, Nat.add_mul_mod_self_right]; exact h1
        exact ⟨⟨e3, by rw [e2]; omega⟩, h3⟩
      · right
        have key : ∀ q, off % P.cellsOf e + k * S < P.cellsOf e → ((off + k * S) / P.cellsOf e < count ∧ (off + k * S) % P.cellsOf e = off % P.cellsOf e + k * S ∨ q) := fun q hq => by
          left
          have e0 : off + k * S = (off % P.cellsOf e + k * S) + P.cellsOf e * (off / P.cellsOf e) := by have := Nat.mod_add_div off (P.cellsOf e); omega
          refine ⟨?_, ?_⟩
          · rw [e0, Nat.add_mul_div_left _ _ hpos, Nat.div_eq_of_lt hq]; omega
          · rw [e0, Nat.add_mul_mod_self_left, Nat.mod_eq_of_lt hq]
        cases hu : P.underlying e with
        | none => rw [hu] at h2; simp at h2
        | some t =>
          rw [hu] at h2
          cases t with
          | struct fs =>
            simp only [Bool.and_eq_true, Array.any_eq_true', decide_eq_true_eq] at h2 ⊢
            obtain ⟨h4, f, hf, ⟨h5, h6⟩, h7⟩ := h2
            obtain ⟨_, g2, g3⟩ := kid_struct2 hl hu
            have hfl : f ∈ fs.toList := by simpa using hf
            have h8 := ih f.type 1 _ n k h7 hk
            have h9 := rowAt_lt _ _ _ _ h8
            obtain ⟨j, hj, hjf⟩ := List.mem_iff_getElem.1 hfl
            have hj2 : fs.toList[j]? = some f := by rw [List.getElem?_eq_getElem hj, hjf]
            have ho := g3 j f hj2
            have hsum := sum_split (fs.toList.map fun f => P.cellsOf f.type) j (P.cellsOf f.type) (by rw [List.getElem?_map, hj2]; rfl)
            rw [← List.map_take, ← ho, ← g2] at hsum
            have hlt : off % P.cellsOf e + k * S < P.cellsOf e := by omega
            rcases key False hlt with ⟨k1, k2⟩ | k3
            · refine ⟨k1, h4, f, hf, ⟨by omega, by omega⟩, ?_⟩
              rw [k2, show off % P.cellsOf e + k * S - f.offset = off % P.cellsOf e - f.offset + k * S by omega]
              exact h8
            · exact k3.elim
          | array m e' =>
            simp only at h2 ⊢
            obtain ⟨_, g2⟩ := kid_array2 hl hu
            have h8 := ih e' m _ n k h2 hk
            have h9 := rowAt_lt _ _ _ _ h8
            rw [← g2] at h9
            rcases key False h9 with ⟨k1, k2⟩ | k3
            · exact ⟨k1, by rw [k2]; exact h8⟩
            · exact k3.elim
          | _ => simp at h2
/-- and so where its world has a row -/
theorem has_part (hl : laidOutB P = true) {w : World} {base : Nat} {a : Addr} {e : TypeId} {n : Nat} (hS : ∀ t, sameLayout P P.depth t e = true → P.cellsOf t ≠ 0 → P.cellsOf t = P.cellsOf e) (hna : ∀ m u, P.underlying e ≠ some (.array m u)) (h : w.has P .any base a e n) :
    a.spot = none ∧ ∃ row cells, w.shape? a.block = some (row, cells) ∧ ∀ k, k < n → liesAt P P.depth row (cells / P.cellsOf row) (a.off + k * P.cellsOf e) e 1 = true ∧ a.off + k * P.cellsOf e < cells := by
  obtain ⟨_, h2, row, cells, h3, h4⟩ := h
  refine ⟨h2, row, cells, h3, fun k hk => ?_⟩
  have hd : ∃ d, P.depth = d + 1 := ⟨2 * (P.types.size + Made.depth) + 1, rfl⟩
  obtain ⟨d, hd⟩ := hd
  have hone : ∀ off m, liesAt P P.depth row (cells / P.cellsOf row) off e m = rowAt P (sameLayout P P.depth · e) P.depth row (cells / P.cellsOf row) off m := by
    intro off m
    conv => lhs; rw [hd]
    unfold liesAt
    cases hu : P.underlying e with
    | none => simp
    | some t => cases t <;> first | (simp; done) | exact absurd hu (hna _ _)
  rw [hone] at h4 ⊢
  have h5 := rowAt_part hl hS P.depth row _ _ n k h4 hk
  refine ⟨h5, ?_⟩
  have h6 := rowAt_lt _ _ _ _ h5
  have h7 := Nat.div_mul_le_self cells (P.cellsOf row)
  omega
end
section
variable {P : Program}
theorem made_one {info : TypeId → Option TypeInfo} {d : TypeDesc} {i : TypeInfo} (hd : Made.reckon info d = some i) (h1 : ∀ fs, i.desc ≠ .struct fs) (h2 : ∀ n e, i.desc ≠ .array n e) : i.size = 1 := by
  unfold Made.reckon at hd
  cases d <;> simp only [bind, Option.bind_eq_some_iff, pure] at hd
  case struct gs =>
    obtain ⟨out, g1, _⟩ := struct_at hd
    exact absurd g1 (h1 out)
  case array m u =>
    obtain ⟨j, hj, s, _, hd⟩ := hd
    cases hd
    exact absurd rfl (h2 m u)
  case pointer e =>
    obtain ⟨j, hj, hd⟩ := hd
    split at hd
    · cases hd
    · split at hd
      · cases hd
      · obtain ⟨s, _, hd⟩ := Option.bind_eq_some_iff.1 hd
        cases hd
        rfl
    · obtain ⟨s, _, hd⟩ := Option.bind_eq_some_iff.1 hd
      cases hd
      rfl
  case slice e => obtain ⟨j, hj, s, _, hd⟩ := hd; cases hd; rfl
  case map k e => obtain ⟨j, hj, s, _, j2, _, s2, _, hd⟩ := hd; cases hd; rfl
  case chan dir e => obtain ⟨j, hj, s, _, hd⟩ := hd; cases hd; rfl
  case func ps rs v => obtain ⟨s, _, hd⟩ := hd; cases hd; rfl
  all_goals cases hd
theorem und_cells (hl : laidOutB P = true) {t u : TypeId} {D : TypeDesc} (hu : u < P.types.size) (hv : isVar P u = true) (e1 : P.underlying t = some D) (e2 : P.underlying u = some D) : P.cellsOf t = P.cellsOf u := by
  have hk : kindOk (some D) = true := by
    unfold isVar at hv
    rw [e2, Bool.and_eq_true] at hv
    exact hv.2
  have one : (∀ fs, D ≠ .struct fs) → (∀ n e, D ≠ .array n e) → ∀ x, P.underlying x = some D → P.cellsOf x = 1 := by
    intro h1 h2 x hx
    by_cases ht : x < P.types.size
    · have := rowFine_of hl ht
      have hvx : isVar P x = true := by
        unfold isVar
        rw [hx, hk, decide_eq_true ht]
        rfl
      unfold rowFine at this
      rw [hvx, hx] at this
      cases D <;> first
        | exact absurd rfl (h1 _)
        | exact absurd rfl (h2 _ _)
        | (simp at this; exact this)
        | (simp at this; exact this.2)
    · obtain ⟨i, hi⟩ := info_und hx
      obtain ⟨d, hd⟩ := info_made ht hi
      rw [und_made ht hi] at hx
      have hdesc := Option.some.inj hx
      rw [cells_info hi]
      exact made_one hd (fun fs => hdesc ▸ h1 fs) (fun n e => hdesc ▸ h2 n e)
  cases D
  case struct fs => rw [(kid_struct2 hl e1).2.1, (kid_struct2 hl e2).2.1]
  case array n e => rw [(kid_array2 hl e1).2, (kid_array2 hl e2).2]
  all_goals
    have h1 := fun h1 h2 => one h1 h2 t e1
    have h2 := fun h1 h2 => one h1 h2 u e2
    rw [h1 (fun _ h => by cases h) (fun _ _ h => by cases h), h2 (fun _ h => by cases h) (fun _ _ h => by cases h)]
theorem und_uid {t : TypeId} {i : TypeInfo} (h : P.info? t = some i) : P.underlying t = (P.info? (P.underlyingId t)).map (·.desc) := by
  unfold Program.underlying Program.underlyingId
  rw [h]
  cases i with
  | mk desc => cases desc <;> first | rfl | (simp only [h]; rfl)
theorem sl_cells (hl : laidOutB P = true) : ∀ (d : Nat) (t u : TypeId), u < P.types.size → isVar P u = true → (∃ i, P.info? t = some i) → sameLayout P d t u = true → P.cellsOf t = P.cellsOf u := by
  intro d
  induction d with
  | zero => intro t u _ _ _ h; simp [sameLayout] at h
  | succ d ih =>
    intro t u hu hv ⟨i, hi⟩ h
    unfold sameLayout at h
    obtain ⟨j, hj⟩ := info_lt hu
    obtain ⟨D, hD⟩ : ∃ D, P.underlying u = some D := by
      cases hD : P.underlying u with
      | none => unfold isVar at hv; rw [hD] at hv; simp [kindOk] at hv
      | some D => exact ⟨D, rfl⟩
    rw [Bool.or_eq_true] at h
    rcases h with h | h
    · have e : P.underlyingId t = P.underlyingId u := by simpa using h
      have h1 := und_uid hi
      have h2 := und_uid hj
      rw [e, ← h2, hD] at h1
      exact und_cells hl hu hv h1 hD
    · cases hT : P.underlying t with
      | none => rw [hT] at h; simp at h
      | some T =>
        rw [hT, hD] at h
        cases T <;> cases D <;> simp only [reduceCtorEq, Bool.false_eq_true] at h
        case int.int k k' =>
          have e : k = k' := by simpa using h
          subst e
          exact und_cells hl hu hv hT hD
        case array.array n e m e' =>
          rw [Bool.and_eq_true] at h
          have en : n = m := by simpa using h.1
          have hf := rowFine_of hl hu
          unfold rowFine at hf
          rw [hv, hD] at hf
          simp only [Bool.not_true, Bool.false_or, Bool.and_eq_true] at hf
          have hlt : e' < P.types.size := by have := hf.1; unfold isVar at this; simp at this; exact this.1
          rw [(kid_array2 hl hT).2, (kid_array2 hl hD).2, en, ih e e' hlt hf.1 (kid_array2 hl hT).1 h.2]
        case struct.struct fs gs =>
          simp only [Bool.and_eq_true] at h
          obtain ⟨⟨⟨_, _⟩, hsz⟩, hall⟩ := h
          have hf := rowFine_of hl hu
          unfold rowFine at hf
          rw [hv, hD] at hf
          simp only [Bool.not_true, Bool.false_or, Bool.and_eq_true, List.all_eq_true] at hf
          have hkid := hf.1.1
          obtain ⟨g1, g2, _⟩ := kid_struct2 hl hT
          obtain ⟨_, k2, _⟩ := kid_struct2 hl hD
          rw [g2, k2]
          have hlen : fs.toList.length = gs.toList.length := by simpa using hsz
          congr 1
          refine List.ext_getElem (by simpa using hlen) fun m h1 h2 => ?_
          rw [List.getElem_map, List.getElem_map]
          have hm1 : m < fs.toList.length := by simpa using h1
          have hm2 : m < gs.toList.length := by simpa using h2
          have hgm := hkid _ (List.getElem_mem hm2)
          have hlt : gs.toList[m].type < P.types.size := by have := hgm; unfold isVar at this; simp at this; exact this.1
          refine ih _ _ hlt hgm (g1 _ (List.getElem_mem hm1)) ?_
          have ha := Array.all_eq_true.1 hall m (by rw [Array.size_zip]; simp at hm1 hm2; omega)
          simpa using ha
/-- a part of a row of variables of one type is one -/
theorem has_each (hl : laidOutB P = true) {w : World} {base : Nat} {a : Addr} {e : TypeId} {n : Nat} (he : e < P.types.size) (hv : isVar P e = true) (hna : ∀ m u, P.underlying e ≠ some (.array m u)) (h : w.has P .any base a e n) :
    a.spot = none ∧ ∃ row cells, w.shape? a.block = some (row, cells) ∧ ∀ k, k < n → liesAt P P.depth row (cells / P.cellsOf row) (a.off + k * P.cellsOf e) e 1 = true ∧ a.off + k * P.cellsOf e < cells :=
  has_part hl (fun t ht h0 => sl_cells hl _ t e he hv (by
    cases hi : P.info? t with
    | none => unfold Program.cellsOf at h0; rw [hi] at h0; exact absurd rfl h0
    | some i => exact ⟨i, rfl⟩) ht) hna h
end
end Go.Proofs.Ytjeahmlahkngaaa.P
