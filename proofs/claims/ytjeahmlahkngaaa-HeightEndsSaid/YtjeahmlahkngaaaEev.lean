/- Small plain words of this session: 'from some number of rounds on' (Ev), and numbers that need no wrap. -/
import Derived.Test.YtjeahmlahkngaaaWWords
import Derived.Test.YtjeahmlahkngaaaWMore
import Derived.Laws.BitsAllLaws
import Derived.OpenShut
namespace Go.Proofs.Ytjeahmlahkngaaa.P
set_option linter.unusedSimpArgs false
set_option linter.unusedVariables false
open Go.RowKit Go.Proofs.YtjeahmlahkngaaaW.PrintWords Go.Proofs.YtjeahmlahkngaaaW.PrintLast Go.Proofs.YtjeahmlahkngaaaW.PrintMore
theorem w64 {x : Int} (h0 : -9223372036854775808 ≤ x) (h1 : x < 9223372036854775808) : wrap64 x = x := by unfold wrap64; omega
theorem Ev.const {α : Type} {g : Nat → Option α} {r : α} (h : ∀ k, g k = some r) : Ev g r := ⟨0, fun k _ => h k⟩
theorem Ev.from {α : Type} {g : Nat → Option α} {r : α} (n : Nat) (h : ∀ k, g (k + n) = some r) : Ev g r := ⟨n, fun k hk => by
  obtain ⟨m, rfl⟩ : ∃ m, k = m + n := ⟨k - n, by omega⟩
  exact h m⟩
/-- What a call of rounds comes to is put in. -/
theorem Ev.bind' {α β : Type} {g : Nat → Option α} {f : Nat → α → Option β} {a : α} {r : β} (h : Ev g a) (k : Ev (fun n => f n a) r) : Ev (fun n => (g n).bind (f n)) r := Ev.bind h k
theorem Ev.some_bind {α β : Type} {f : Nat → α → Option β} {a : α} {r : β} (k : Ev (fun n => f n a) r) : Ev (fun n => (some a).bind (f n)) r := k
theorem bits_or_i64 (a b : Nat) (ha : a < 2 ^ 62) (hb : b < 2 ^ 62) : Go.bits .or .i64 (a : Int) (b : Int) = ((a ||| b : Nat) : Int) := (bits_nat .i64 62 (by decide) (by intro n h0 h1; rw [IntKind.wrap_i64]; omega) a b ha hb).2
theorem bits_and_i64 (a b : Nat) (ha : a < 2 ^ 62) (hb : b < 2 ^ 62) : Go.bits .and .i64 (a : Int) (b : Int) = ((a &&& b : Nat) : Int) := (bits_nat .i64 62 (by decide) (by intro n h0 h1; rw [IntKind.wrap_i64]; omega) a b ha hb).1
theorem rd_cons0 (x : Int) (l : List Int) : rd (x :: l) 0 = x := rfl
theorem rd_get (l : List Int) (i : Int) (h0 : 0 ≤ i) (h1 : i < l.length) : l.drop i.toNat = rd l i :: l.drop (i + 1).toNat := by
  have hi : i.toNat < l.length := by omega
  rw [List.drop_eq_getElem_cons hi, show (i + 1).toNat = i.toNat + 1 by omega]
  congr 1
  unfold rd
  rw [List.getD_eq_getElem?_getD, List.getElem?_eq_getElem hi]
  rfl
theorem rd_mem (l : List Int) (i : Int) (h0 : 0 ≤ i) (h1 : i < l.length) : rd l i ∈ l := by
  have hi : i.toNat < l.length := by omega
  unfold rd
  rw [List.getD_eq_getElem?_getD, List.getElem?_eq_getElem hi]
  exact List.getElem_mem hi
theorem bnd64 {n : Int} (h : (Lit.int .i64 n).wf = true) : -9223372036854775808 ≤ n ∧ n ≤ 9223372036854775807 := Go.bounds_i64 h
theorem bytes_of {l : List Int} (h : ∀ x ∈ l, (Lit.int .u8 x).wf = true) : ∀ x ∈ l, 0 ≤ x ∧ x ≤ 255 := fun x hx => Go.bounds_u8 (h x hx)
theorem wrap_u64 (n : Int) : IntKind.u64.wrap n = n % 18446744073709551616 := by simp [IntKind.wrap, IntKind.bits, IntKind.signed]

/-! Numbers as bytes. -/
def Bytes (l : List Int) : Prop := ∀ x ∈ l, 0 ≤ x ∧ x ≤ 255
/-- The n lowest bytes of a number, the highest first. -/
def be : Nat → Int → List Int
  | 0, _ => []
  | n + 1, v => be n (v / 256) ++ [v % 256]
theorem be_length (n : Nat) (v : Int) : (be n v).length = n := by
  induction n generalizing v with
  | zero => rfl
  | succ n ih => simp [be, ih]
theorem be_cons (n : Nat) : ∀ v : Int, be (n + 1) v = (v / 256 ^ n % 256) :: be n v := by
  induction n with
  | zero => intro v; simp [be]
  | succ n ih =>
    intro v
    show be (n + 1) (v / 256) ++ [v % 256] = _
    rw [ih (v / 256), Int.ediv_ediv_of_nonneg (by decide), ← Int.pow_succ']
    rfl
theorem be_set (m : Nat) (x : Int) (t : List Int) : (List.replicate (m + 1) (0 : Int) ++ t).set m x = List.replicate m 0 ++ x :: t := by
  induction m with
  | zero => rfl
  | succ m ih => rw [List.replicate_succ, List.cons_append, List.set_cons_succ, ih, List.replicate_succ (n := m), List.cons_append]
theorem be_bytes (n : Nat) (v : Int) : Bytes (be n v) := by
  induction n generalizing v with
  | zero => intro x hx; simp [be] at hx
  | succ n ih =>
    intro x hx
    simp only [be, List.mem_append, List.mem_singleton] at hx
    rcases hx with hx | rfl
    · exact ih _ x hx
    · omega
theorem be_add (n : Nat) : ∀ v a : Int, be n (v + a * 256 ^ n) = be n v := by
  induction n with
  | zero => intro v a; rfl
  | succ n ih =>
    intro v a
    have e : v + a * 256 ^ (n + 1) = v + (a * 256 ^ n) * 256 := by rw [Int.pow_succ, Int.mul_assoc]
    simp only [be]
    rw [e, Int.add_mul_ediv_right _ _ (by decide), Int.add_mul_emod_self_right, ih]
/-- The number of bytes, the highest first. -/
def bevFrom (a : Int) (l : List Int) : Int := l.foldl (fun a x => 256 * a + x) a
def bev (l : List Int) : Int := bevFrom 0 l
theorem bevFrom_eq (l : List Int) : ∀ a : Int, bevFrom a l = a * 256 ^ l.length + bev l := by
  induction l with
  | nil => intro a; simp [bevFrom, bev]
  | cons x l ih =>
    intro a
    show bevFrom (256 * a + x) l = _
    have e : bev (x :: l) = bevFrom (256 * 0 + x) l := rfl
    rw [e, ih (256 * a + x), ih (256 * 0 + x), List.length_cons, Int.pow_succ]
    rw [Int.mul_zero, Int.zero_add, Int.add_mul, Int.add_assoc]
    congr 1
    rw [Int.mul_comm 256 a, Int.mul_assoc, Int.mul_comm 256]
theorem bev_cons (x : Int) (l : List Int) : bev (x :: l) = x * 256 ^ l.length + bev l := by
  show bevFrom (256 * 0 + x) l = _
  rw [bevFrom_eq, Int.mul_zero, Int.zero_add]
theorem bev_snoc (l : List Int) (x : Int) : bev (l ++ [x]) = 256 * bev l + x := by simp [bev, bevFrom, List.foldl_append]
theorem bev_nil : bev [] = 0 := rfl
theorem Bytes.cons {x : Int} {l : List Int} (h : Bytes (x :: l)) : (0 ≤ x ∧ x ≤ 255) ∧ Bytes l := ⟨h x (by simp), fun y hy => h y (by simp [hy])⟩
theorem Bytes.sub {l m : List Int} (h : Bytes l) (hm : ∀ x ∈ m, x ∈ l) : Bytes m := fun x hx => h x (hm x hx)
theorem Bytes.drop {l : List Int} (h : Bytes l) (n : Nat) : Bytes (l.drop n) := h.sub fun _ => List.mem_of_mem_drop
theorem Bytes.take {l : List Int} (h : Bytes l) (n : Nat) : Bytes (l.take n) := h.sub fun _ => List.mem_of_mem_take
theorem Bytes.append {l m : List Int} (h : Bytes l) (k : Bytes m) : Bytes (l ++ m) := fun x hx => (List.mem_append.1 hx).elim (h x) (k x)
theorem Bytes.nil : Bytes [] := fun x hx => by simp at hx
theorem pow256_pos (n : Nat) : (0 : Int) < 256 ^ n := Int.pow_pos (by decide)
theorem bev_range (l : List Int) (h : Bytes l) : 0 ≤ bev l ∧ bev l < 256 ^ l.length := by
  induction l with
  | nil => simp [bev_nil]
  | cons x l ih =>
    obtain ⟨hx, hl⟩ := h.cons
    have := ih hl
    rw [bev_cons, List.length_cons, Int.pow_succ]
    have hp := pow256_pos l.length
    have h1 : 0 ≤ x * 256 ^ l.length := Int.mul_nonneg hx.1 (by omega)
    have h2 : x * 256 ^ l.length ≤ 255 * 256 ^ l.length := Int.mul_le_mul_of_nonneg_right hx.2 (by omega)
    omega
theorem bev_be (n : Nat) : ∀ v : Int, 0 ≤ v → v < 256 ^ n → bev (be n v) = v := by
  induction n with
  | zero => intro v h0 h1; simp at h1; simp [be, bev_nil]; omega
  | succ n ih =>
    intro v h0 h1
    rw [Int.pow_succ] at h1
    simp only [be]
    rw [bev_snoc, ih (v / 256) (by omega) (by omega)]
    omega
theorem be_bev (l : List Int) (h : Bytes l) : be l.length (bev l) = l := by
  induction l with
  | nil => rfl
  | cons x l ih =>
    obtain ⟨hx, hl⟩ := h.cons
    have hr := bev_range l hl
    have hp := pow256_pos l.length
    rw [List.length_cons, be_cons, bev_cons, Int.add_comm, be_add, ih hl, Int.add_mul_ediv_right _ _ (by omega), Int.ediv_eq_zero_of_lt hr.1 hr.2]
    congr 1
    omega
theorem be_inj (n : Nat) (v w : Int) (hv : 0 ≤ v ∧ v < 256 ^ n) (hw : 0 ≤ w ∧ w < 256 ^ n) (h : be n v = be n w) : v = w := by
  rw [← bev_be n v hv.1 hv.2, h, bev_be n w hw.1 hw.2]
/-- From a place on so many bytes: the number, the place behind it, and an error's number. -/
def numSpec (l : List Int) (at_ n : Int) : Int × Int × Int :=
  if at_ < 0 ∨ (l.length : Int) < at_ then (0, 0, 1) else if (l.length : Int) - at_ < n then (0, 0, 6) else (bev ((l.drop at_.toNat).take n.toNat), at_ + n, 0)
def getSpec (l : List Int) (at_ n : Int) : Int × Int × Int := if n < 1 ∨ 7 < n then (0, 0, 1) else numSpec l at_ n
def getIntSpec (l : List Int) (at_ : Int) : Int × Int × Int := (wrap64 (numSpec l at_ 8).1, (numSpec l at_ 8).2.1, (numSpec l at_ 8).2.2)
def putSpec (v n : Int) : List Int × Int := if 1 ≤ n ∧ n ≤ 7 ∧ 0 ≤ v ∧ v < 256 ^ n.toNat then (be n.toNat v, 0) else ([], 1)
def intSpec (v : Int) : List Int := be 8 (v % 18446744073709551616)
theorem take_bev (l : List Int) (i : Nat) (h : i < l.length) : bev (l.take (i + 1)) = 256 * bev (l.take i) + rd l i := by
  rw [List.take_succ_eq_append_getElem h, bev_snoc]
  congr 1
  unfold rd
  rw [List.getD_eq_getElem?_getD, Int.toNat_natCast, List.getElem?_eq_getElem h]
  rfl
theorem rd_byte (l : List Int) (h : Bytes l) (i : Int) : 0 ≤ rd l i ∧ rd l i ≤ 255 := by
  unfold rd
  rw [List.getD_eq_getElem?_getD]
  cases hc : l[i.toNat]? with
  | none => simp
  | some x => exact h x (List.mem_of_getElem? hc)
theorem rd_drop_take (l : List Int) (a n : Nat) (i : Nat) (h : i < n) : rd ((l.drop a).take n) i = rd l ((a : Int) + i) := by
  unfold rd
  rw [List.getD_eq_getElem?_getD, List.getD_eq_getElem?_getD, Int.toNat_natCast, List.getElem?_take_of_lt h, List.getElem?_drop, show ((a : Int) + i).toNat = a + i by omega]
theorem or_byte (a x : Int) (h0 : 0 ≤ a) (h1 : a < 72057594037927936) (x0 : 0 ≤ x) (x1 : x ≤ 255) : Go.bits .or .u64 (IntKind.u64.wrap (a * 256)) (IntKind.u64.wrap x) = 256 * a + x := by
  rw [wrap_u64, wrap_u64]
  obtain ⟨p, rfl⟩ := Int.eq_ofNat_of_zero_le h0
  obtain ⟨q, rfl⟩ := Int.eq_ofNat_of_zero_le x0
  rw [show ((p : Int) * 256) % 18446744073709551616 = ((p * 256 : Nat) : Int) by omega, show ((q : Int) % 18446744073709551616) = ((q : Nat) : Int) by omega]
  rw [u64_or_nat _ _ (by omega) (by omega), nat_join 8 _ _ (by omega) (by omega)]
  omega
theorem pow256_le (i n : Nat) (h : i ≤ n) : (256 : Int) ^ i ≤ 256 ^ n := by
  have : (256 : Nat) ^ i ≤ 256 ^ n := Nat.pow_le_pow_right (by decide) h
  have h2 : ((256 ^ i : Nat) : Int) ≤ ((256 ^ n : Nat) : Int) := Int.ofNat_le.mpr this
  rw [Int.natCast_pow, Int.natCast_pow] at h2
  exact h2
theorem wrap64_zero : wrap64 0 = 0 := by unfold wrap64; omega
/-- The number of at most six, seven bytes. -/
theorem bev_le6 (l : List Int) (h : Bytes l) (hl : l.length ≤ 6) : 0 ≤ bev l ∧ bev l < 281474976710656 := by
  have hr := bev_range l h
  have hp := pow256_le l.length 6 hl
  rw [show (256 : Int) ^ 6 = 281474976710656 by decide] at hp
  exact ⟨hr.1, Int.lt_of_lt_of_le hr.2 hp⟩
theorem bev_le7 (l : List Int) (h : Bytes l) (hl : l.length ≤ 7) : 0 ≤ bev l ∧ bev l < 72057594037927936 := by
  have hr := bev_range l h
  have hp := pow256_le l.length 7 hl
  rw [show (256 : Int) ^ 7 = 72057594037927936 by decide] at hp
  exact ⟨hr.1, Int.lt_of_lt_of_le hr.2 hp⟩
end Go.Proofs.Ytjeahmlahkngaaa.P
