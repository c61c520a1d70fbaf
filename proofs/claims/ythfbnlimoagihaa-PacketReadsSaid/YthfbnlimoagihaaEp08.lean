/- Layer 8, plain: check, hop, bytes of a packet; the reference's answers. -/
import Derived.Test.YthfbnlimoagihaaEpPut
import Derived.Test.YthfbnlimoagihaaErBoth
import Derived.Test.YthfbnlimoagihaaEstr
import Derived.WalkArith
import Derived.Test.YthfbnlimoagihaaP2
import Derived.Test.YthfbnlimoagihaaP3
import Derived.Test.YthfbnlimoagihaaP5
import Derived.Test.YthfbnlimoagihaaP4
namespace Go.Proofs.Ythfbnlimoagihaa.P
set_option linter.unusedSimpArgs false
set_option linter.unusedVariables false
open Go.RowKit Go.Proofs.YthfbnlimoagihaaW.PrintWords Go.Proofs.YthfbnlimoagihaaW.PrintLast Go.Proofs.YthfbnlimoagihaaW.PrintMore
theorem ev_eq {α : Type} {g : Nat → Option α} {a b : α} (h : Ev g a) (e : a = b) : Ev g b := e ▸ h
theorem awake08 : Ev (fun k => thalweglaw08_awake.f k) true := Ev.of (fun k => thalweglaw08_awake.mono k) (k := 20) (by decide +kernel)
/-- A right packet. -/
def RP (a b c d : Int) (s : ByteArray) : Prop := (0 ≤ a ∧ a < 64) ∧ (0 ≤ b ∧ b < 64) ∧ (0 ≤ c ∧ c ≤ 255) ∧ (0 ≤ d ∧ d ≤ 65535) ∧ s.size ≤ 256
instance (a b c d : Int) (s : ByteArray) : Decidable (RP a b c d s) := by unfold RP; infer_instance
theorem pc1_eq (a : Int) : packet_Check_1.f a = some (decide (0 ≤ a ∧ a < 64)) := by
  unfold packet_Check_1.f
  by_cases h : a ≥ 0
  · rw [if_pos h]
    congr 1
    by_cases g : a < 64
    · rw [decide_eq_true g, decide_eq_true ⟨h, g⟩]
    · rw [decide_eq_false g, decide_eq_false fun x => g x.2]
  · rw [if_neg h, decide_eq_false fun x => h x.1]
theorem pc_eq (a b c d : Int) (s : ByteArray) : packet_Check.f a b c d s = some (if RP a b c d s then 0 else 1) := by
  unfold packet_Check.f
  rw [pc1_eq, pc1_eq]
  simp only [Option.bind_some, decide_eq_true_eq]
  by_cases h1 : 0 ≤ a ∧ a < 64
  · rw [if_pos h1]
    by_cases h2 : 0 ≤ b ∧ b < 64
    · rw [if_pos h2]
      by_cases h3 : c < 0
      · rw [if_pos h3, if_neg fun x : RP a b c d s => by have := x.2.2.1; omega]
      rw [if_neg h3]
      by_cases h4 : c > 255
      · rw [if_pos h4, if_neg fun x : RP a b c d s => by have := x.2.2.1; omega]
      rw [if_neg h4]
      by_cases h5 : d < 0
      · rw [if_pos h5, if_neg fun x : RP a b c d s => by have := x.2.2.2.1; omega]
      rw [if_neg h5]
      by_cases h6 : d > 65535
      · rw [if_pos h6, if_neg fun x : RP a b c d s => by have := x.2.2.2.1; omega]
      rw [if_neg h6]
      by_cases h7 : (s.size : Int) > 256
      · rw [if_pos h7, if_neg fun x : RP a b c d s => by have := x.2.2.2.2; omega]
      rw [if_neg h7, if_pos (show RP a b c d s from ⟨h1, h2, by omega, by omega, by omega⟩)]
    · rw [if_neg h2, if_neg fun x : RP a b c d s => h2 x.2.1]
  · rw [if_neg h1, if_neg fun x : RP a b c d s => h1 x.1]
theorem rr8_eq (a b c d : Int) (s : ByteArray) : thalwegref08_Right.f a b c d s = some (decide (RP a b c d s)) := by
  unfold thalwegref08_Right.f
  by_cases h1 : a ≥ 0
  · rw [if_pos h1]
    by_cases h2 : a < 64
    · rw [if_pos h2]
      by_cases h3 : b ≥ 0
      · rw [if_pos h3]
        by_cases h4 : b < 64
        · rw [if_pos h4]
          by_cases h5 : c ≥ 0
          · rw [if_pos h5]
            by_cases h6 : c ≤ 255
            · rw [if_pos h6]
              by_cases h7 : d ≥ 0
              · rw [if_pos h7]
                by_cases h8 : d ≤ 65535
                · rw [if_pos h8]
                  by_cases h9 : (s.size : Int) ≤ 256
                  · rw [decide_eq_true h9, decide_eq_true (show RP a b c d s from ⟨⟨h1, h2⟩, ⟨h3, h4⟩, ⟨h5, h6⟩, ⟨h7, h8⟩, by omega⟩)]
                  · rw [decide_eq_false h9, decide_eq_false (show ¬ RP a b c d s from fun x => h9 (by have := x.2.2.2.2; omega))]
                · rw [if_neg h8, decide_eq_false (show ¬ RP a b c d s from fun x => h8 x.2.2.2.1.2)]
              · rw [if_neg h7, decide_eq_false (show ¬ RP a b c d s from fun x => h7 x.2.2.2.1.1)]
            · rw [if_neg h6, decide_eq_false (show ¬ RP a b c d s from fun x => h6 x.2.2.1.2)]
          · rw [if_neg h5, decide_eq_false (show ¬ RP a b c d s from fun x => h5 x.2.2.1.1)]
        · rw [if_neg h4, decide_eq_false (show ¬ RP a b c d s from fun x => h4 x.2.1.2)]
      · rw [if_neg h3, decide_eq_false (show ¬ RP a b c d s from fun x => h3 x.2.1.1)]
    · rw [if_neg h2, decide_eq_false (show ¬ RP a b c d s from fun x => h2 x.1.2)]
  · rw [if_neg h1, decide_eq_false (show ¬ RP a b c d s from fun x => h1 x.1.1)]
/-- What a hop answers. -/
def hopSpec (a b c d : Int) (s : ByteArray) : Int × Int × Int × Int × ByteArray × Int :=
  if RP a b c d s then (if c = 0 then (0, 0, 0, 0, ⟨#[]⟩, 7) else (a, b, c - 1, d, s, 0)) else (0, 0, 0, 0, ⟨#[]⟩, 1)
theorem hop_eq (a b c d : Int) (s : ByteArray) : packet_Hop.f a b c d s = some (hopSpec a b c d s) := by
  unfold packet_Hop.f hopSpec
  rw [pc_eq]
  simp only [Option.bind_some]
  by_cases h : RP a b c d s
  · have hc := h.2.2.1
    simp only [if_pos h, if_true]
    by_cases h0 : c = 0
    · rw [if_pos h0, if_pos h0]
    · rw [if_neg h0, if_neg h0, w64 (x := c - 1) (by omega) (by omega)]
  · simp only [if_neg h, if_neg (show ¬ (1 : Int) = 0 by decide)]
theorem rhop_eq (a b c d : Int) (s : ByteArray) : thalwegref08_Hop.f a b c d s = some (hopSpec a b c d s) := by
  unfold thalwegref08_Hop.f hopSpec
  rw [rr8_eq]
  simp only [Option.bind_some, decide_eq_true_eq]
  by_cases h : RP a b c d s
  · have hc := h.2.2.1
    simp only [if_pos h, if_true]
    by_cases h0 : c = 0
    · rw [if_pos h0, if_pos h0]
    · rw [if_neg h0, if_neg h0, w64 (x := c - 1) (by omega) (by omega)]
  · simp only [if_neg h]
theorem flds_get (L : List S41) (i : Int) (h0 : 0 ≤ i) (h1 : i < L.length) : L.drop i.toNat = rd_T41 L i :: L.drop (i + 1).toNat := by
  have hi : i.toNat < L.length := by omega
  rw [List.drop_eq_getElem_cons hi, show (i + 1).toNat = i.toNat + 1 by omega]
  congr 1
  unfold rd_T41
  rw [List.getD_eq_getElem?_getD, List.getElem?_eq_getElem hi]
  rfl
def Fits (f : S41) : Prop := (Lit.int .i64 f.f0).wf = true ∧ 1 ≤ f.f1 ∧ f.f1 ≤ 7 ∧ 0 ≤ f.f0 ∧ f.f0 < 256 ^ f.f1.toNat
theorem put_l0 (L : List S41) (hL : ∀ f ∈ L, Fits f) (hn : L.length ≤ 1000) : ∀ (d : Nat) (i : Int) (acc : List Int), 0 ≤ i → (L.length : Int) - i = d → (acc.length : Int) ≤ 7 * i →
    Ev (fun k => packet_put.l0 k acc L (L.length : Int) i) (acc ++ (L.drop i.toNat).flatMap fun f => be f.f1.toNat f.f0) := by
  intro d
  induction d with
  | zero =>
    intro i acc h0 hd hl
    refine Ev.from 1 fun k => ?_
    simp only [packet_put.l0]
    rw [if_neg (by omega), List.drop_eq_nil_of_le (by omega)]
    simp
  | succ d ih =>
    intro i acc h0 hd hl
    have h1 : i < (L.length : Int) := by omega
    refine Ev.step (f := fun k => _) (fun k => by simp only [packet_put.l0]; rfl) ?_
    have hm : rd_T41 L i ∈ L := by
      have := List.mem_of_mem_drop (l := L) (i := i.toNat) (a := rd_T41 L i) (by rw [flds_get L i h0 h1]; exact List.mem_cons_self)
      exact this
    obtain ⟨f1, f2, f3, f4, f5⟩ := hL _ hm
    rw [flds_get L i h0 h1]
    generalize rd_T41 L i = f at *
    simp only [if_pos h1, if_pos h0, wire_Put_eq _ _ f1, Option.bind_some]
    rw [show putSpec f.f0 f.f1 = (be f.f1.toNat f.f0, 0) by unfold putSpec; rw [if_pos ⟨f2, f3, f4, f5⟩]]
    simp only [be_length]
    simp only [if_pos (show acc.length + f.f1.toNat < 140737488355328 by omega), w64 (x := i + 1) (by omega) (by omega), List.flatMap_cons]
    rw [← List.append_assoc]
    exact ih (i + 1) _ (by omega) (by omega) (by rw [List.length_append, be_length]; omega)
/-- The bytes of a packet. -/
def pB (a b c d : Int) (s : ByteArray) : List Int := [a % 256, b % 256, c % 256, d / 256 % 256, d % 256, (s.size : Int) / 256 % 256, (s.size : Int) % 256] ++ bytesOf s
theorem pb_eq (a b c d : Int) (s : ByteArray) (h : RP a b c d s) : Ev (fun k => packet_Bytes.f k a b c d s) (pB a b c d s, 0) := by
  have hc := pc_eq a b c d s
  rw [if_pos h] at hc
  obtain ⟨ha, hb, hcc, hd, hs⟩ := h
  have fit : ∀ (v : Int) (n : Nat), 0 ≤ v → v ≤ 65535 → 1 ≤ n → n ≤ 7 → v < 256 ^ n → Fits ⟨v, n⟩ := fun v n h0 h1 h2 h3 h4 => ⟨Go.WalkArith.wf_i64 (n := v) ⟨by omega, by omega⟩, by show (1 : Int) ≤ (n : Int); omega, by show (n : Int) ≤ 7; omega, h0, by show v < 256 ^ (n : Int).toNat; rw [Int.toNat_natCast]; exact h4⟩
  have hL : ∀ f ∈ ([⟨a, 1⟩, ⟨b, 1⟩, ⟨c, 1⟩, ⟨d, 2⟩, ⟨(s.size : Int), 2⟩] : List S41), Fits f := by
    intro f hf
    simp only [List.mem_cons, List.not_mem_nil, or_false] at hf
    rcases hf with rfl | rfl | rfl | rfl | rfl
    · exact fit a 1 (by omega) (by omega) (by omega) (by omega) (by simp; omega)
    · exact fit b 1 (by omega) (by omega) (by omega) (by omega) (by simp; omega)
    · exact fit c 1 (by omega) (by omega) (by omega) (by omega) (by simp; omega)
    · exact fit d 2 (by omega) (by omega) (by omega) (by omega) (by simp; omega)
    · exact fit (s.size : Int) 2 (by omega) (by omega) (by omega) (by omega) (by simp; omega)
  have hp := put_l0 _ hL (by simp) 5 0 [] (by omega) (by simp) (by simp)
  unfold packet_Bytes.f
  simp only [hc, Option.bind_some, if_true]
  refine Ev.bind (a := [a % 256, b % 256, c % 256, d / 256 % 256, d % 256, (s.size : Int) / 256 % 256, (s.size : Int) % 256]) ?_ ?_
  · unfold packet_put.f
    exact hp
  · simp only [List.length_cons, List.length_nil]
    rw [if_pos (by omega)]
    exact Ev.now _
theorem pb_no (a b c d : Int) (s : ByteArray) (h : ¬ RP a b c d s) : Ev (fun k => packet_Bytes.f k a b c d s) ([], 1) := by
  have hc := pc_eq a b c d s
  rw [if_neg h] at hc
  unfold packet_Bytes.f
  simp only [hc, Option.bind_some, if_neg (show ¬ (1 : Int) = 0 by decide)]
  exact Ev.now _
theorem rpb_eq (a b c d : Int) (s : ByteArray) (h : RP a b c d s) : Ev (fun k => thalwegref08_Bytes.f k a b c d s) (pB a b c d s, 0) := by
  have hc := rr8_eq a b c d s
  rw [decide_eq_true h] at hc
  obtain ⟨ha, hb, hcc, hd, hs⟩ := h
  unfold thalwegref08_Bytes.f
  simp only [hc, Option.bind_some, if_true, if_pos (show s.size ≤ 9223372036854775807 by omega)]
  have hb := both_ev [[a % 256, b % 256, c % 256, wrap64 (Int.tdiv d 256) % 256, Int.tmod d 256 % 256, wrap64 ((s.size : Int) / 256) % 256, (s.size : Int) % 256], bytesOf s] (by simp) (by simp [bytesOf_length]; omega)
  refine Ev.bind hb (ev_eq (Ev.now _) ?_)
  unfold pB
  rw [Int.tdiv_eq_ediv_of_nonneg hd.1, Int.tmod_eq_emod_of_nonneg hd.1, w64 (x := d / 256) (by omega) (by omega), w64 (x := (s.size : Int) / 256) (by omega) (by omega), Int.emod_emod_of_dvd _ (by decide)]
  simp
theorem rpb_no (a b c d : Int) (s : ByteArray) (h : ¬ RP a b c d s) : Ev (fun k => thalwegref08_Bytes.f k a b c d s) ([], 1) := by
  have hc := rr8_eq a b c d s
  rw [decide_eq_false h] at hc
  unfold thalwegref08_Bytes.f
  simp only [hc, Option.bind_some, Bool.false_eq_true, if_false]
  exact Ev.now _
theorem bytesOf_bytes (s : ByteArray) : Bytes (bytesOf s) := by
  intro x hx
  unfold bytesOf at hx
  obtain ⟨b, _, rfl⟩ := List.mem_map.1 hx
  have := b.toNat_lt
  omega
theorem bytesOf_inj {s t : ByteArray} (h : bytesOf s = bytesOf t) : s = t := by
  unfold bytesOf at h
  have : s.data.toList = t.data.toList := by
    refine List.map_inj_right (f := fun b : UInt8 => (b.toNat : Int)) (fun x y hxy => ?_) |>.1 h
    exact UInt8.toNat_inj.1 (by omega)
  exact ByteArray.ext (Array.toList_inj.1 this)
theorem pB_bytes (a b c d : Int) (s : ByteArray) : Bytes (pB a b c d s) := by
  have hm : ∀ x : Int, 0 ≤ x % 256 ∧ x % 256 ≤ 255 := fun x => by omega
  refine Bytes.append ?_ (bytesOf_bytes s)
  intro x hx
  simp only [List.mem_cons, List.not_mem_nil, or_false] at hx
  rcases hx with rfl | rfl | rfl | rfl | rfl | rfl | rfl <;> exact hm _
end Go.Proofs.Ythfbnlimoagihaa.P
