/- Walks. -/
import Derived.Test.YtfigbjjaffkidaaXBatchBacka
import Derived.Test.YtfigbjjaffkidaaXBatchBackb
set_option linter.unusedVariables false
set_option linter.unusedSimpArgs false
set_option maxHeartbeats 8000000
set_option maxRecDepth 100000
namespace Go.Proofs.Ytfigbjjaffkidaa.P
open Go.RowKit YtfigbjjaffkidaaW.PrintWords YtfigbjjaffkidaaW.PrintLast YtfigbjjaffkidaaW.PrintMore
open YtfigbjjaffkidaaW.PrintWords renaming below_alloc → YA, pw_below_drewN → YB, below_drew1 → YC, below_step → YD, below_size → YE, blk_cell → YF, blk_frozen → YG
open YtfigbjjaffkidaaW.PrintWords.Aside0 renaming mk → YH
attribute [local go_sem] max2_int min2_int max_two min_two max_three min_three max_four min_four
def thalwegref02_Told.f (k : Nat) (a0_0 : Bool) (a0_1 : Int) (a0_2 : Int) (a0_3 : Int) (a0_4 : Int) (a0_5 : Int) : Option (Bool) := (thalwegref02_Right.f k a0_0 a0_1 a0_2 a0_3 a0_4 a0_5).bind fun t236 => (if t236 = true then (some (!a0_0)) else (some false))
end Go.Proofs.Ytfigbjjaffkidaa.P
namespace Go.Proofs.Ytfigbjjaffkidaa.P
open Go.RowKit YtfigbjjaffkidaaW.PrintWords YtfigbjjaffkidaaW.PrintLast YtfigbjjaffkidaaW.PrintMore
open YtfigbjjaffkidaaW.PrintWords renaming below_alloc → YA, pw_below_drewN → YB, below_drew1 → YC, below_step → YD, blk_drewN → YE, blk_drew → YF, blk_alloc → YG, blk_cell → YH, blk_frozen → YI
open YtfigbjjaffkidaaW.PrintWords.Aside0 renaming mk → YJ
attribute [local go_sem] max2_int min2_int max_two min_two max_three min_three max_four min_four
attribute [local go_sem high] eqA41 eqA43
def thalwegref04_Right.j0 : Nat → Bool → Int → Int → Bool → Int → Int → Int → Int → Int → Int → Int → Int → Int → Option (Bool)
 | 0, _, _, _, _, _, _, _, _, _, _, _, _, _ => none
 | k + 1, x12, x238000, x238001, x238002, x238003, x238004, x238005, x238006, x238007, x238008, x238009, x238010, x238011 => if x12 = true then (some false) else (if x238000 = 1 then (if (x238008 == 0 && (x238009 == 0 && (x238010 == 0))) = true then (if (!x238002 && (x238003 == 0 && (x238004 == 0 && (x238005 == 0 && (x238006 == 0 && (x238007 == 0)))))) = true then (some (x238011 == 0)) else (some false)) else (some false)) else (if x238000 = 2 then (if (x238008 == 0 && (x238009 == 0 && (x238010 == 0))) = true then (if x238011 = 0 then ((thalwegref02_Right.f k x238002 x238003 x238004 x238005 x238006 x238007).bind fun t238 => (some t238)) else (some false)) else (some false)) else (if x238000 = 3 then (if (!x238002 && (x238003 == 0 && (x238004 == 0 && (x238005 == 0 && (x238006 == 0 && (x238007 == 0)))))) = true then (if x238011 = 0 then ((thalwegref02_Right.f k false x238008 x238009 x238010 0 0).bind fun t239 => (some t239)) else (some false)) else (some false)) else (if x238000 = 4 then (if (x238008 == 0 && (x238009 == 0 && (x238010 == 0))) = true then (if x238011 ≥ 0 then (if x238011 ≤ 65535 then ((thalwegref02_Told.f k x238002 x238003 x238004 x238005 x238006 x238007).bind fun t240 => (some t240)) else (some false)) else (some false)) else (some false)) else (some false)))))
def thalwegref04_Right.f (k : Nat) (a0_0 : Int) (a0_1 : Int) (a0_2 : Bool) (a0_3 : Int) (a0_4 : Int) (a0_5 : Int) (a0_6 : Int) (a0_7 : Int) (a0_8 : Int) (a0_9 : Int) (a0_10 : Int) (a0_11 : Int) : Option (Bool) := if a0_1 < 0 then (thalwegref04_Right.j0 k true a0_0 a0_1 a0_2 a0_3 a0_4 a0_5 a0_6 a0_7 a0_8 a0_9 a0_10 a0_11) else (thalwegref04_Right.j0 k (decide (a0_1 ≥ 64)) a0_0 a0_1 a0_2 a0_3 a0_4 a0_5 a0_6 a0_7 a0_8 a0_9 a0_10 a0_11)
end Go.Proofs.Ytfigbjjaffkidaa.P
namespace Go.Proofs.Ytfigbjjaffkidaa.P
open Go.RowKit YtfigbjjaffkidaaW.PrintWords YtfigbjjaffkidaaW.PrintLast YtfigbjjaffkidaaW.PrintMore
open YtfigbjjaffkidaaW.PrintWords renaming below_alloc → YA, pw_below_drewN → YB, below_drew1 → YC
open YtfigbjjaffkidaaW.PrintWords.Aside0 renaming mk → YD
open YtfigbjjaffkidaaW.PrintWords.Kd renaming R_alloc → YE, R_drewN → YF, R_drew → YG
attribute [local go_sem] max2_int min2_int max_two min_two max_three min_three max_four min_four
def thalwegref01_Int.l0 : Nat → Int → List Int → Int → Option (List Int)
 | 0, _, _, _ => none
 | k + 1, x0, x3, x4 => if x4 ≥ 0 then (if (Int.tmod x0 256) < 0 then (if 0 ≤ x4 then (if x4 < (x3.length : Int) then ((some (x3.set (x4 : Int).toNat ((wrap64 ((Int.tmod x0 256) + 256)) % 256) : List Int)).bind fun y248 => (if x4 = 0 then (thalwegref01_Int.l0 k 0 y248 (wrap64 (x4 - 1))) else (thalwegref01_Int.l0 k (wrap64 (Int.tdiv (wrap64 (x0 - (wrap64 ((Int.tmod x0 256) + 256)))) 256)) y248 (wrap64 (x4 - 1))))) else (none)) else (none)) else (if 0 ≤ x4 then (if x4 < (x3.length : Int) then ((some (x3.set (x4 : Int).toNat ((Int.tmod x0 256) % 256) : List Int)).bind fun y249 => (if x4 = 0 then (thalwegref01_Int.l0 k 0 y249 (wrap64 (x4 - 1))) else (thalwegref01_Int.l0 k (wrap64 (Int.tdiv (wrap64 (x0 - (Int.tmod x0 256))) 256)) y249 (wrap64 (x4 - 1))))) else (none)) else (none))) else (some x3)
def thalwegref01_Int.f (k : Nat) (a0 : Int) : Option (List Int) := if 8 ≤ 281474976710656 then (thalwegref01_Int.l0 k a0 (List.replicate 8 0) 7) else (none)
end Go.Proofs.Ytfigbjjaffkidaa.P
namespace Go.Proofs.Ytfigbjjaffkidaa.P
open Go.RowKit YtfigbjjaffkidaaW.PrintWords YtfigbjjaffkidaaW.PrintLast YtfigbjjaffkidaaW.PrintMore
open YtfigbjjaffkidaaW.PrintWords renaming below_alloc → YA, pw_below_drewN → YB, below_drew1 → YC, below_step → YD, below_size → YE, blk_drewN → YF, blk_drew → YG, blk_alloc → YH, blk_cell → YI, blk_frozen → YJ, blk_below → YK
open YtfigbjjaffkidaaW.PrintWords.Aside0 renaming mk → YL
open List renaming setIfInBounds_toArray → YM, set_cons_zero → YN, set_cons_succ → YO, map_toArray → YP
open YtfigbjjaffkidaaW.PrintWords.Kd renaming R_alloc → YQ, R_drewN → YR, R_drew → YS
attribute [local go_sem] max2_int min2_int max_two min_two max_three min_three max_four min_four
def thalwegref02_Bytes.f (k : Nat) (a0_0 : Bool) (a0_1 : Int) (a0_2 : Int) (a0_3 : Int) (a0_4 : Int) (a0_5 : Int) : Option (List Int × Int) := (thalwegref02_Right.f k a0_0 a0_1 a0_2 a0_3 a0_4 a0_5).bind fun t251 => (if t251 = true then (if a0_0 = true then (some ((([0, (a0_5) % 256] : List Int)), 0)) else ((thalwegref01_Int.f k a0_1).bind fun t258 => ((thalwegref01_Int.f k a0_4).bind fun t264 => ((thalwegref01_Both.f k (([(([1] : List Int)), t258, (([(a0_2) % 256, (a0_3) % 256] : List Int)), t264, (([(a0_5) % 256] : List Int))] : List (List Int)))).bind fun t273 => (some (t273, 0)))))) else (some (([] : List Int), 1)))
def thalwegref02_Bytes.T5 : Bool × List (List Nat × List Nat) := (true, [([], []), ([], []), ([1], [1]), ([2], [2]), ([], []), ([4], [4]), ([5], [5]), ([], []), ([7], [7]), ([8], [8]), ([6, 9], [6, 9]), ([], []), ([11], [11]), ([12, 3], [12]), ([], []), ([14], [14]), ([15], [15]), ([16], [16]), ([0, 3, 10, 13, 17], [0, 3, 10, 13, 17]), ([18, 13], [18]), ([19, 19, 0, 1, 2, 3, 4, 5, 6, 7, 8, 9, 10, 11, 12, 13, 14, 15, 16, 17, 18, 19], [19]), ([20, 0, 1, 2, 3, 4, 5, 6, 7, 8, 9, 10, 11, 12, 13, 14, 15, 16, 17, 18, 19, 20], [])])
def thalwegref02_Bytes.B5 : List Nat := [0, 0, 2, 6, 0, 16, 48, 0, 128, 384, 1008, 0, 2048, 6158, 0, 16384, 49152, 114688, 262143, 524287, 1048575, 2097151]
end Go.Proofs.Ytfigbjjaffkidaa.P
namespace Go.Proofs.Ytfigbjjaffkidaa.P
open Go.RowKit YtfigbjjaffkidaaW.PrintWords YtfigbjjaffkidaaW.PrintLast YtfigbjjaffkidaaW.PrintMore
open YtfigbjjaffkidaaW.PrintWords renaming below_alloc → YA, pw_below_drewN → YB, below_drew1 → YC, below_step → YD, below_size → YE, blk_drewN → YF, blk_drew → YG, blk_alloc → YH, blk_cell → YI, blk_frozen → YJ, blk_below → YK
open YtfigbjjaffkidaaW.PrintWords.Aside0 renaming mk → YL
open List renaming map_toArray → YM, length_take → YN, length_drop → YO
open YtfigbjjaffkidaaW.PrintWords.Kd renaming R_alloc → YP, R_drewN → YQ, R_drew → YR
attribute [local go_sem] max2_int min2_int max_two min_two max_three min_three max_four min_four
mutual
def thalwegref04_Bytes.j0 : Nat → List Int → Bool → Int → Int → Bool → Int → Int → Int → Int → Int → Int → Int → Int → Int → Option (List Int × Int)
 | 0, _, _, _, _, _, _, _, _, _, _, _, _, _, _ => none
 | k + 1, x4, x24, x277000, x277001, x277002, x277003, x277004, x277005, x277006, x277007, x277008, x277009, x277010, x277011 => if x24 = true then ((thalwegref02_Bytes.f k x277002 x277003 x277004 x277005 x277006 x277007).bind fun bt281 => (if x4.length + bt281.1.length < 140737488355328 then (thalwegref04_Bytes.j1 k (x4 ++ bt281.1) x277000 x277001 x277002 x277003 x277004 x277005 x277006 x277007 x277008 x277009 x277010 x277011) else (none))) else (thalwegref04_Bytes.j1 k x4 x277000 x277001 x277002 x277003 x277004 x277005 x277006 x277007 x277008 x277009 x277010 x277011)
def thalwegref04_Bytes.j1 : Nat → List Int → Int → Int → Bool → Int → Int → Int → Int → Int → Int → Int → Int → Int → Option (List Int × Int)
 | 0, _, _, _, _, _, _, _, _, _, _, _, _, _ => none
 | k + 1, x4, x277000, x277001, x277002, x277003, x277004, x277005, x277006, x277007, x277008, x277009, x277010, x277011 => if x277000 = 3 then ((thalwegref01_Int.f k x277008).bind fun t288 => (if x4.length + t288.length < 140737488355328 then ((some (x4 ++ t288 : List Int)).bind fun y291 => ((some (([(x277009) % 256, (x277010) % 256] : List Int) : List Int)).bind fun y294 => (if y291.length + y294.length < 140737488355328 then (if x277000 = 4 then (none) else (some ((y291 ++ y294), 0))) else (none)))) else (none))) else (if x277000 = 4 then ((some (([(wrap64 (Int.tdiv x277011 256)) % 256, (Int.tmod x277011 256) % 256] : List Int) : List Int)).bind fun y300 => (if x4.length + y300.length < 140737488355328 then (some ((x4 ++ y300), 0)) else (none))) else (some (x4, 0)))
end
def thalwegref04_Bytes.f (k : Nat) (a0_0 : Int) (a0_1 : Int) (a0_2 : Bool) (a0_3 : Int) (a0_4 : Int) (a0_5 : Int) (a0_6 : Int) (a0_7 : Int) (a0_8 : Int) (a0_9 : Int) (a0_10 : Int) (a0_11 : Int) : Option (List Int × Int) := (thalwegref04_Right.f k a0_0 a0_1 a0_2 a0_3 a0_4 a0_5 a0_6 a0_7 a0_8 a0_9 a0_10 a0_11).bind fun t277 => (if t277 = true then ((some (([(a0_0) % 256, (a0_1) % 256] : List Int) : List Int)).bind fun y278 => (if a0_0 = 2 then (thalwegref04_Bytes.j0 k y278 true a0_0 a0_1 a0_2 a0_3 a0_4 a0_5 a0_6 a0_7 a0_8 a0_9 a0_10 a0_11) else (thalwegref04_Bytes.j0 k y278 (a0_0 == 4) a0_0 a0_1 a0_2 a0_3 a0_4 a0_5 a0_6 a0_7 a0_8 a0_9 a0_10 a0_11))) else (some (([] : List Int), 1)))
end Go.Proofs.Ytfigbjjaffkidaa.P
namespace Go.Proofs.Ytfigbjjaffkidaa.P
open Go.RowKit YtfigbjjaffkidaaW.PrintWords YtfigbjjaffkidaaW.PrintLast YtfigbjjaffkidaaW.PrintMore
open YtfigbjjaffkidaaW.PrintWords renaming below_alloc → YA, pw_below_drewN → YB, below_drew1 → YC, below_step → YD, below_size → YE, blk_cell → YF, blk_frozen → YG
open YtfigbjjaffkidaaW.PrintWords.Aside0 renaming mk → YH
open List renaming map_toArray → YI, length_take → YJ, length_drop → YK
attribute [local go_sem] max2_int min2_int max_two min_two max_three min_three max_four min_four
def thalwegref05_size.l0 : Nat → List (S45) → Int → Int → Option (Int)
 | 0, _, _, _ => none
 | k + 1, x0, x3, x4 => if x4 < (x0.length : Int) then (if 0 ≤ x4 then ((thalwegref04_Bytes.f k ((rd_T45 x0 x4).f0) ((rd_T45 x0 x4).f1) ((rd_T45 x0 x4).f2.f0) ((rd_T45 x0 x4).f2.f1) ((rd_T45 x0 x4).f2.f2) ((rd_T45 x0 x4).f2.f3) ((rd_T45 x0 x4).f2.f4) ((rd_T45 x0 x4).f2.f5) ((rd_T45 x0 x4).f3.f0) ((rd_T45 x0 x4).f3.f1) ((rd_T45 x0 x4).f3.f2) ((rd_T45 x0 x4).f4)).bind fun bt307 => (if bt307.2 = 0 then (thalwegref05_size.l0 k x0 (wrap64 (x3 + (bt307.1.length : Int))) (wrap64 (x4 + 1))) else (some (-1)))) else (none)) else (some x3)
def thalwegref05_size.f (k : Nat) (l0 : List (S45)) : Option (Int) := thalwegref05_size.l0 k l0 3 0
def thalwegref05_Right.f (k : Nat) (a0_0 : Int) (l0_1 : List (S45)) : Option (Bool) := if a0_0 < 0 then (some false) else (if a0_0 > 65535 then (some false) else (if (l0_1.length : Int) < 1 then (some false) else (if (l0_1.length : Int) > 32 then (some false) else ((thalwegref05_size.f k l0_1).bind fun t312 => (if t312 ≥ 0 then (some (decide (t312 ≤ 512))) else (some false))))))
end Go.Proofs.Ytfigbjjaffkidaa.P
namespace Go.Proofs.Ytfigbjjaffkidaa.P
open Go.RowKit YtfigbjjaffkidaaW.PrintWords YtfigbjjaffkidaaW.PrintLast YtfigbjjaffkidaaW.PrintMore
open YtfigbjjaffkidaaW.PrintWords renaming below_alloc → YA, pw_below_drewN → YB, below_drew1 → YC, below_step → YD, below_size → YE, blk_drewN → YF, blk_drew → YG, blk_alloc → YH, blk_cell → YI, blk_frozen → YJ, blk_below → YK
open YtfigbjjaffkidaaW.PrintWords.Aside0 renaming mk → YL
open List renaming map_toArray → YM, length_take → YN, length_drop → YO
open YtfigbjjaffkidaaW.PrintWords.Kd renaming R_alloc → YP, R_drewN → YQ, R_drew → YR
attribute [local go_sem] max2_int min2_int max_two min_two max_three min_three max_four min_four
def thalwegref05_Bytes.l0 : Nat → List Int → Int → Int → List (S45) → Option (List Int × Int)
 | 0, _, _, _, _ => none
 | k + 1, x4, x5, x314000, x314001 => if x5 < (x314001.length : Int) then (if 0 ≤ x5 then ((thalwegref04_Bytes.f k ((rd_T45 x314001 x5).f0) ((rd_T45 x314001 x5).f1) ((rd_T45 x314001 x5).f2.f0) ((rd_T45 x314001 x5).f2.f1) ((rd_T45 x314001 x5).f2.f2) ((rd_T45 x314001 x5).f2.f3) ((rd_T45 x314001 x5).f2.f4) ((rd_T45 x314001 x5).f2.f5) ((rd_T45 x314001 x5).f3.f0) ((rd_T45 x314001 x5).f3.f1) ((rd_T45 x314001 x5).f3.f2) ((rd_T45 x314001 x5).f4)).bind fun bt319 => (if x4.length + bt319.1.length < 140737488355328 then (thalwegref05_Bytes.l0 k (x4 ++ bt319.1) (wrap64 (x5 + 1)) x314000 x314001) else (none))) else (none)) else (some (x4, 0))
def thalwegref05_Bytes.f (k : Nat) (a0_0 : Int) (l0_1 : List (S45)) : Option (List Int × Int) := (thalwegref05_Right.f k a0_0 l0_1).bind fun t314 => (if t314 = true then (thalwegref05_Bytes.l0 k (([(wrap64 (Int.tdiv a0_0 256)) % 256, (Int.tmod a0_0 256) % 256, ((l0_1.length : Int)) % 256] : List Int)) 0 a0_0 l0_1) else (some (([] : List Int), 1)))
def thalweglaw05_awake.f (k : Nat)  : Option (Bool) := (batch_Bytes.f k 7 (([(⟨1, 5, (⟨false, 0, 0, 0, 0, 0⟩ : S41), (⟨0, 0, 0⟩ : S43), 0⟩ : S45), (⟨1, 6, (⟨false, 0, 0, 0, 0, 0⟩ : S41), (⟨0, 0, 0⟩ : S43), 0⟩ : S45)] : List (S45)))).bind fun bt329 => (if (strOfNums bt329.1).toList = ([0, 7, 2, 1, 5, 1, 6] : List UInt8) then (some (bt329.2 == 0)) else (none))
theorem thalweglaw05_awake.mono : ∀ k, LeO (thalweglaw05_awake.f k ) (thalweglaw05_awake.f (k + 1) ) := by
 intro  k
 unfold thalweglaw05_awake.f
 repeat' first
   | (with_reducible exact batch_Bytes.mono _ _ _)
   | (with_reducible exact LeO.refl _)
   | (with_reducible exact LeO.none _)
   | (with_reducible refine LeO.ite ?_ ?_)
   | (with_reducible refine LeO.bind ?_ (fun _ => ?_))
   | exact batch_Bytes.mono _ _ _
   | exact LeO.none _
   | refine LeO.ite ?_ ?_
   | refine LeO.bind ?_ (fun _ => ?_)
theorem thalweglaw05_awake.calls (k : Nat)  (r : Bool) (w : World) (h : thalweglaw05_awake.f k  = some r) :
  Calls Try.prog 11 #[] w fun e w' => e = .returned (.bool r) ∧ Below w.heap.size w w' := by
 have hu45 := Try.underlying45
 have hu24 := Try.underlying24
 have HB := YL (Below.refl w.heap.size w)
 have H : ((batch_Bytes.f k 7 (([(⟨1, 5, (⟨false, 0, 0, 0, 0, 0⟩ : S41), (⟨0, 0, 0⟩ : S43), 0⟩ : S45), (⟨1, 6, (⟨false, 0, 0, 0, 0, 0⟩ : S41), (⟨0, 0, 0⟩ : S43), 0⟩ : S45)] : List (S45)))).bind fun bt329 => (if (strOfNums bt329.1).toList = ([0, 7, 2, 1, 5, 1, 6] : List UInt8) then (some (bt329.2 == 0)) else (none))) = some r := h
 clear h
 obtain ⟨y326, hy326⟩ : ∃ y_ : List (S45), y_ = (([(⟨1, 5, (⟨false, 0, 0, 0, 0, 0⟩ : S41), (⟨0, 0, 0⟩ : S43), 0⟩ : S45), (⟨1, 6, (⟨false, 0, 0, 0, 0, 0⟩ : S41), (⟨0, 0, 0⟩ : S43), 0⟩ : S45)] : List (S45))) := ⟨_, rfl⟩
 replace H : ((batch_Bytes.f k 7 y326).bind fun bt329 => (if (strOfNums bt329.1).toList = ([0, 7, 2, 1, 5, 1, 6] : List UInt8) then (some (bt329.2 == 0)) else (none))) = some r := by first | (rw [hy326]; with_reducible exact H) | (have H2_ := (Option.bind_some _ _).symm.trans H; rw [hy326]; with_reducible exact H2_) | (have H2_ := (Option.bind_some _ _).symm.trans H; with_reducible exact H2_) | with_reducible exact H | (rw [hy326]; exact H) | exact H
 have Ny326 := YL hy326; clear hy326; replace H := Option.bind_eq_some_iff.mp H
 obtain ⟨⟨t329, t332⟩, A10, H⟩ := H
 replace H : (if (strOfNums t329).toList = ([0, 7, 2, 1, 5, 1, 6] : List UInt8) then (some (t332 == 0)) else (none)) = some r := H
 have A1 := YL A10; clear A10
 by_cases c2 : (strOfNums t329).toList = ([0, 7, 2, 1, 5, 1, 6] : List UInt8)
 rotate_left
 ·rw [if_neg c2] at H
  exact absurd H (by simp)
 rw [if_pos c2] at H
 have c2b0 : ((strOfNums t329).toList == ([0, 7, 2, 1, 5, 1, 6] : List UInt8)) = true := beq_iff_eq.mpr c2
 have c2b1 : ((strOfNums t329).toList != ([0, 7, 2, 1, 5, 1, 6] : List UInt8)) = false := bne_eq_false_iff_eq.mpr c2
 clear c2
 obtain rfl := Option.some.inj H
 go_enter Try.func11, Try.ntmps11
 go_wp2_with (first | ((with_reducible refine gate_dst (N := 6) rfl ?_); refine Kd.R_lit k45 _ 45 ?hg (N := 6) ?hd (xs := ([(⟨1, 5, (⟨false, 0, 0, 0, 0, 0⟩ : S41), (⟨0, 0, 0⟩ : S43), 0⟩ : S45), (⟨1, 6, (⟨false, 0, 0, 0, 0, 0⟩ : S41), (⟨0, 0, 0⟩ : S43), 0⟩ : S45)] : List (S45))) (inner := [.int .i64 1, .int .i64 5, .bool false, .int .i64 0, .int .i64 0, .int .i64 0, .int .i64 0, .int .i64 0, .int .i64 0, .int .i64 0, .int .i64 0, .int .i64 0, .int .i64 1, .int .i64 6, .bool false, .int .i64 0, .int .i64 0, .int .i64 0, .int .i64 0, .int .i64 0, .int .i64 0, .int .i64 0, .int .i64 0, .int .i64 0]) (ok := fun _ => True) (okp := fun _ => True) ?hr ?hp (fun _ hk => hk) trivial (Below.refl _ _) (Nat.le_refl _) (by simp) ?_; (case hd => rfl); (case hg => rfl); (case hr => first | (go_simp; done) | (go_simp; rfl)); (case hp => exact (Reps.front (show Kd.M k45 _ _ _ (⟨1, 5, (⟨false, 0, 0, 0, 0, 0⟩ : S41), (⟨0, 0, 0⟩ : S43), 0⟩ : S45) [.int .i64 1, .int .i64 5, .bool false, .int .i64 0, .int .i64 0, .int .i64 0, .int .i64 0, .int .i64 0, .int .i64 0, .int .i64 0, .int .i64 0, .int .i64 0] from (k45_mkM _ _ _ (⟨1, 5, (⟨false, 0, 0, 0, 0, 0⟩ : S41), (⟨0, 0, 0⟩ : S43), 0⟩ : S45) )) rfl (Reps.front (show Kd.M k45 _ _ _ (⟨1, 6, (⟨false, 0, 0, 0, 0, 0⟩ : S41), (⟨0, 0, 0⟩ : S43), 0⟩ : S45) [.int .i64 1, .int .i64 6, .bool false, .int .i64 0, .int .i64 0, .int .i64 0, .int .i64 0, .int .i64 0, .int .i64 0, .int .i64 0, .int .i64 0, .int .i64 0] from (k45_mkM _ _ _ (⟨1, 6, (⟨false, 0, 0, 0, 0, 0⟩ : S41), (⟨0, 0, 0⟩ : S43), 0⟩ : S45) )) rfl (Reps.none _ _) rfl) rfl)); intro v327 w3 ho4 hb hg_ hnew_; clear hg_ hnew_; (first | rw [← Ny326.out] at ho4 | (simp only [Int.reduceToNat] at ho4; rw [← Ny326.out] at ho4)); have n0_ := YL (Kd.R_lower ho4 (YE (upB HB))); have n1_ := YL (YD (upB HB) hb); clear HB; have HO328 := n0_; have HB := n1_; clear n0_ n1_; clear hb ho4; obtain ⟨Ao5, co5, eo5⟩ := Kd.R_slice HO328.out; subst eo5) | ((with_reducible refine gate_callee (f := 9) rfl ?_); refine goesA (some 8) Try.func9 #[.agg #[.int .i64 7, .slice Ao5 y326.length co5]] ?_; (with_reducible refine (batch_Bytes.calls k 7 _ _ y326 t329 t332 _ ?side1 ?side2 A1.out).mono ?_); (case side1 => repeat (first | exact (Kd.R_reads' HO328.out).2.2 | (with_reducible refine Kd.C_alloc ?_ _) | (with_reducible refine Kd.C_drewN ?_ _) | (with_reducible refine Kd.C_drew ?_))); (case side2 => exact (Kd.R_reads' HO328.out).2.1); rintro e w6 ⟨v330, rfl, ho0, hb⟩; refine ⟨_, rfl, ?_⟩; have n0_ := YL (Kd.R_below (upR HO328) hb); have n1_ := YL (Kd.R_lower ho0 (YE (upB HB))); have n2_ := YL (YD (upB HB) hb); clear HO328; clear HB; have HO328 := n0_; have HO331 := n1_; have HB := n2_; clear n0_ n1_ n2_; (try clear hb); (try clear hb2); (try clear hk); (try clear hi); (try clear ho0); have hcv7 := own_string (P := Try.prog) Try.underlying26 Try.underlying5 Try.underlying9 (Kd.own_of_R HO331.out)))
 go_ret
 exact ⟨by first | rfl | (simp [errW_none, errW_some] <;> rfl) | (simp [*, errW_none, errW_some] <;> rfl), by repeat (first | (with_reducible first | exact HB.out | apply YA | apply YB | apply YC) | exact HB.out)⟩
end Go.Proofs.Ytfigbjjaffkidaa.P
namespace Go.Proofs.Ytfigbjjaffkidaa.P
open Go.RowKit YtfigbjjaffkidaaW.PrintWords YtfigbjjaffkidaaW.PrintLast YtfigbjjaffkidaaW.PrintMore
open YtfigbjjaffkidaaW.PrintWords.Aside0 renaming mk → YA
attribute [local go_sem] max2_int min2_int max_two min_two max_three min_three max_four min_four
attribute [local go_sem high] eqA45
def thalwegref04_Same.l0 : Nat → List (S45) → List (S45) → Int → Option (Bool)
 | 0, _, _, _ => none
 | k + 1, x0, x1, x5 => if x5 < (x0.length : Int) then (if 0 ≤ x5 then (if x5 < (x1.length : Int) then (if (!(((rd_T45 x0 x5).f0) == ((rd_T45 x1 x5).f0)) || (!(((rd_T45 x0 x5).f1) == ((rd_T45 x1 x5).f1)) || ((!(((rd_T45 x0 x5).f2.f0) == ((rd_T45 x1 x5).f2.f0)) || (!(((rd_T45 x0 x5).f2.f1) == ((rd_T45 x1 x5).f2.f1)) || (!(((rd_T45 x0 x5).f2.f2) == ((rd_T45 x1 x5).f2.f2)) || (!(((rd_T45 x0 x5).f2.f3) == ((rd_T45 x1 x5).f2.f3)) || (!(((rd_T45 x0 x5).f2.f4) == ((rd_T45 x1 x5).f2.f4)) || (!(((rd_T45 x0 x5).f2.f5) == ((rd_T45 x1 x5).f2.f5)))))))) || ((!(((rd_T45 x0 x5).f3.f0) == ((rd_T45 x1 x5).f3.f0)) || (!(((rd_T45 x0 x5).f3.f1) == ((rd_T45 x1 x5).f3.f1)) || (!(((rd_T45 x0 x5).f3.f2) == ((rd_T45 x1 x5).f3.f2))))) || (!(((rd_T45 x0 x5).f4) == ((rd_T45 x1 x5).f4))))))) = true then (some false) else (thalwegref04_Same.l0 k x0 x1 (wrap64 (x5 + 1)))) else (none)) else (none)) else (some true)
def thalwegref04_Same.f (k : Nat) (l0 : List (S45)) (l1 : List (S45)) : Option (Bool) := if (l0.length : Int) = (l1.length : Int) then (thalwegref04_Same.l0 k l0 l1 0) else (some false)
theorem thalwegref04_Same.calls (k : Nat) (A0 : Option Addr) (c0 : Nat) (l0 : List (S45)) (A1 : Option Addr) (c1 : Nat) (l1 : List (S45)) (r : Bool) (w : World) (hr0 : Kd.C k45 w A0 l0.length l0) (hc0 : l0.length ≤ c0) (hr1 : Kd.C k45 w A1 l1.length l1) (hc1 : l1.length ≤ c1) (h : thalwegref04_Same.f k l0 l1 = some r) :
  Calls Try.prog 14 #[.slice A0 l0.length c0, .slice A1 l1.length c1] w fun e w' => e = .returned (.bool r) ∧ Drawn0 w w' := by
 have hu45 := Try.underlying45
 have HR0 := YA hr0; have HC0 := YA hc0; clear hr0 hc0; have HR1 := YA hr1; have HC1 := YA hc1; clear hr1 hc1
 have H : (if (l0.length : Int) = (l1.length : Int) then (thalwegref04_Same.l0 k l0 l1 0) else (some false)) = some r := h
 clear h
 by_cases c3 : (l0.length : Int) = (l1.length : Int)
 ·rw [if_pos c3] at H
  have c3b0 : ((l0.length : Int) == (l1.length : Int)) = true := beq_iff_eq.mpr c3
  have c3b1 : ((l0.length : Int) != (l1.length : Int)) = false := bne_eq_false_iff_eq.mpr c3
  have c3b2 : (l0.length == l1.length) = true := by first | simpa using c3 | (simp at c3 ⊢; omega)
  clear c3
  have H' := YA H
  clear H
  go_enter Try.func14, Try.ntmps14
  go_wp2
  repeat (go_quiet (fail); try go_wp2)
  go_loopg [5] k (fun kq v5 w' => ∃ (x5_1 : Int), v5 = .int .i64 x5_1 ∧ Aside0 (thalwegref04_Same.l0 kq l0 l1 x5_1 = some r) ∧ Aside0 (kq ≤ k) ∧ Drawn0 w w')
  case atStart => exact ⟨(0), (by first | rfl | (simp; done) | (simp [*]; done)), H', ⟨Nat.le_refl _⟩, by repeat (first | exact Drawn0.refl _ | apply Drawn0.step)⟩
  case round =>
   clear H'
   try clear c1; try clear p2
   try clear c3; try clear c3b0
   try clear c3b1; try clear c3b2
   obtain ⟨x5_1, rfl, HA, HK1, ⟨m1, rfl⟩⟩ := hrel
   cases gk with
   | zero => exact absurd HA.out (by simp [thalwegref04_Same.l0])
   | succ k1 =>
    have H := HA.out
    clear HA
    simp only [thalwegref04_Same.l0] at H
    by_cases c4 : x5_1 < (l0.length : Int)
    ·rw [if_pos c4] at H
     have c4b0 : decide (x5_1 < (l0.length : Int)) = true := decide_eq_true c4
     clear c4
     by_cases c5 : 0 ≤ x5_1
     rotate_left
     ·rw [if_neg c5] at H
      exact absurd H (by simp)
     rw [if_pos c5] at H; have c5b0 : decide (0 ≤ x5_1) = true := decide_eq_true c5; clear c5
     by_cases c6 : x5_1 < (l1.length : Int)
     rotate_left
     ·rw [if_neg c6] at H
      exact absurd H (by simp)
     rw [if_pos c6] at H
     have c6b0 : decide (x5_1 < (l1.length : Int)) = true := decide_eq_true c6
     clear c6
     by_cases c7 : (!(((rd_T45 l0 x5_1).f0) == ((rd_T45 l1 x5_1).f0)) || (!(((rd_T45 l0 x5_1).f1) == ((rd_T45 l1 x5_1).f1)) || ((!(((rd_T45 l0 x5_1).f2.f0) == ((rd_T45 l1 x5_1).f2.f0)) || (!(((rd_T45 l0 x5_1).f2.f1) == ((rd_T45 l1 x5_1).f2.f1)) || (!(((rd_T45 l0 x5_1).f2.f2) == ((rd_T45 l1 x5_1).f2.f2)) || (!(((rd_T45 l0 x5_1).f2.f3) == ((rd_T45 l1 x5_1).f2.f3)) || (!(((rd_T45 l0 x5_1).f2.f4) == ((rd_T45 l1 x5_1).f2.f4)) || (!(((rd_T45 l0 x5_1).f2.f5) == ((rd_T45 l1 x5_1).f2.f5)))))))) || ((!(((rd_T45 l0 x5_1).f3.f0) == ((rd_T45 l1 x5_1).f3.f0)) || (!(((rd_T45 l0 x5_1).f3.f1) == ((rd_T45 l1 x5_1).f3.f1)) || (!(((rd_T45 l0 x5_1).f3.f2) == ((rd_T45 l1 x5_1).f3.f2))))) || (!(((rd_T45 l0 x5_1).f4) == ((rd_T45 l1 x5_1).f4))))))) = true
     ·rw [if_pos c7] at H
      have c7b0 : (!(((rd_T45 l0 x5_1).f0) == ((rd_T45 l1 x5_1).f0)) || (!(((rd_T45 l0 x5_1).f1) == ((rd_T45 l1 x5_1).f1)) || ((!(((rd_T45 l0 x5_1).f2.f0) == ((rd_T45 l1 x5_1).f2.f0)) || (!(((rd_T45 l0 x5_1).f2.f1) == ((rd_T45 l1 x5_1).f2.f1)) || (!(((rd_T45 l0 x5_1).f2.f2) == ((rd_T45 l1 x5_1).f2.f2)) || (!(((rd_T45 l0 x5_1).f2.f3) == ((rd_T45 l1 x5_1).f2.f3)) || (!(((rd_T45 l0 x5_1).f2.f4) == ((rd_T45 l1 x5_1).f2.f4)) || (!(((rd_T45 l0 x5_1).f2.f5) == ((rd_T45 l1 x5_1).f2.f5)))))))) || ((!(((rd_T45 l0 x5_1).f3.f0) == ((rd_T45 l1 x5_1).f3.f0)) || (!(((rd_T45 l0 x5_1).f3.f1) == ((rd_T45 l1 x5_1).f3.f1)) || (!(((rd_T45 l0 x5_1).f3.f2) == ((rd_T45 l1 x5_1).f3.f2))))) || (!(((rd_T45 l0 x5_1).f4) == ((rd_T45 l1 x5_1).f4))))))) = true := c7
      clear c7
      obtain rfl := Option.some.inj H
      have p333 : 0 ≤ (x5_1 : Int) := of_decide_eq_true (by first | (with_reducible assumption) | assumption)
      have q333 : x5_1 < (l0.length : Int) := of_decide_eq_true (by first | (with_reducible assumption) | assumption)
      obtain ⟨ad333, e333, hx333_0, hx333_1, hx333_2, hx333_3, hx333_4, hx333_5, hx333_6, hx333_7, hx333_8, hx333_9, hx333_10, hx333_11⟩ := at_T45 HR0.out x5_1 p333 q333
      cases e333
      replace p333 := eq_true p333
      replace q333 := eq_true q333
      have p334 : 0 ≤ (x5_1 : Int) := of_decide_eq_true (by first | (with_reducible assumption) | assumption)
      have q334 : x5_1 < (l1.length : Int) := of_decide_eq_true (by first | (with_reducible assumption) | assumption)
      obtain ⟨ad334, e334, hx334_0, hx334_1, hx334_2, hx334_3, hx334_4, hx334_5, hx334_6, hx334_7, hx334_8, hx334_9, hx334_10, hx334_11⟩ := at_T45 HR1.out x5_1 p334 q334
      cases e334
      replace p334 := eq_true p334
      replace q334 := eq_true q334
      go_wp2
      repeat (go_quiet (fail); try go_wp2)
      go_ret
      exact ⟨by first | rfl | (simp; done) | (simp [*]; done), by repeat (first | exact Drawn0.refl _ | apply Drawn0.step)⟩
     rw [if_neg c7] at H
     have c7b0 : (!(((rd_T45 l0 x5_1).f0) == ((rd_T45 l1 x5_1).f0)) || (!(((rd_T45 l0 x5_1).f1) == ((rd_T45 l1 x5_1).f1)) || ((!(((rd_T45 l0 x5_1).f2.f0) == ((rd_T45 l1 x5_1).f2.f0)) || (!(((rd_T45 l0 x5_1).f2.f1) == ((rd_T45 l1 x5_1).f2.f1)) || (!(((rd_T45 l0 x5_1).f2.f2) == ((rd_T45 l1 x5_1).f2.f2)) || (!(((rd_T45 l0 x5_1).f2.f3) == ((rd_T45 l1 x5_1).f2.f3)) || (!(((rd_T45 l0 x5_1).f2.f4) == ((rd_T45 l1 x5_1).f2.f4)) || (!(((rd_T45 l0 x5_1).f2.f5) == ((rd_T45 l1 x5_1).f2.f5)))))))) || ((!(((rd_T45 l0 x5_1).f3.f0) == ((rd_T45 l1 x5_1).f3.f0)) || (!(((rd_T45 l0 x5_1).f3.f1) == ((rd_T45 l1 x5_1).f3.f1)) || (!(((rd_T45 l0 x5_1).f3.f2) == ((rd_T45 l1 x5_1).f3.f2))))) || (!(((rd_T45 l0 x5_1).f4) == ((rd_T45 l1 x5_1).f4))))))) = false := by simpa using c7
     clear c7
     have H' := YA H
     clear H
     have p333 : 0 ≤ (x5_1 : Int) := of_decide_eq_true (by first | (with_reducible assumption) | assumption)
     have q333 : x5_1 < (l0.length : Int) := of_decide_eq_true (by first | (with_reducible assumption) | assumption)
     obtain ⟨ad333, e333, hx333_0, hx333_1, hx333_2, hx333_3, hx333_4, hx333_5, hx333_6, hx333_7, hx333_8, hx333_9, hx333_10, hx333_11⟩ := at_T45 HR0.out x5_1 p333 q333
     cases e333
     replace p333 := eq_true p333
     replace q333 := eq_true q333
     have p334 : 0 ≤ (x5_1 : Int) := of_decide_eq_true (by first | (with_reducible assumption) | assumption)
     have q334 : x5_1 < (l1.length : Int) := of_decide_eq_true (by first | (with_reducible assumption) | assumption)
     obtain ⟨ad334, e334, hx334_0, hx334_1, hx334_2, hx334_3, hx334_4, hx334_5, hx334_6, hx334_7, hx334_8, hx334_9, hx334_10, hx334_11⟩ := at_T45 HR1.out x5_1 p334 q334
     cases e334
     replace p334 := eq_true p334
     replace q334 := eq_true q334
     go_wp2
     repeat (go_quiet (fail); try go_wp2)
     go_roundg k1
     case measure => have := HK1.out; omega
     case rel => exact ⟨(wrap64 (x5_1 + 1)), (by first | rfl | (simp; done) | (simp [*]; done)), H', ⟨by have := HK1.out; omega⟩, by repeat (first | exact Drawn0.refl _ | apply Drawn0.step)⟩
    rw [if_neg c4] at H
    have c4b0 : decide (x5_1 < (l0.length : Int)) = false := decide_eq_false c4
    clear c4
    obtain rfl := Option.some.inj H
    go_wp2
    repeat (go_quiet (fail); try go_wp2)
    go_ret
    exact ⟨by first | rfl | (simp; done) | (simp [*]; done), by repeat (first | exact Drawn0.refl _ | apply Drawn0.step)⟩
 rw [if_neg c3] at H
 have c3b0 : ((l0.length : Int) == (l1.length : Int)) = false := beq_eq_false_iff_ne.mpr c3
 have c3b1 : ((l0.length : Int) != (l1.length : Int)) = true := bne_iff_ne.mpr c3
 have c3b2 : (l0.length == l1.length) = false := by first | simpa using c3 | (simp at c3 ⊢; omega)
 obtain rfl := Option.some.inj H
 go_enter Try.func14, Try.ntmps14
 go_wp2
 repeat (go_quiet (fail); try go_wp2)
 go_ret
 exact ⟨by first | rfl | (simp; done) | (simp [*]; done), by repeat (first | exact Drawn0.refl _ | apply Drawn0.step)⟩
end Go.Proofs.Ytfigbjjaffkidaa.P
namespace Go.Proofs.Ytfigbjjaffkidaa.P
open Go.RowKit YtfigbjjaffkidaaW.PrintWords YtfigbjjaffkidaaW.PrintLast YtfigbjjaffkidaaW.PrintMore
open YtfigbjjaffkidaaW.PrintWords.Aside0 renaming mk → YA
attribute [local go_sem] max2_int min2_int max_two min_two max_three min_three max_four min_four
def thalwegref05_Same.l0 : Nat → List (S24) → List (S24) → Int → Option (Bool)
 | 0, _, _, _ => none
 | k + 1, x0, x1, x5 => if x5 < (x0.length : Int) then (if 0 ≤ x5 then (if x5 < (x1.length : Int) then (if ((rd_T24 x0 x5).f0) = ((rd_T24 x1 x5).f0) then ((thalwegref04_Same.f k ((rd_T24 x0 x5).f1) ((rd_T24 x1 x5).f1)).bind fun t423 => (if t423 = true then (thalwegref05_Same.l0 k x0 x1 (wrap64 (x5 + 1))) else (some false))) else (some false)) else (none)) else (none)) else (some true)
def thalwegref05_Same.f (k : Nat) (l0 : List (S24)) (l1 : List (S24)) : Option (Bool) := if (l0.length : Int) = (l1.length : Int) then (thalwegref05_Same.l0 k l0 l1 0) else (some false)
theorem thalwegref05_Same.calls (k : Nat) (A0 : Option Addr) (c0 : Nat) (l0 : List (S24)) (A1 : Option Addr) (c1 : Nat) (l1 : List (S24)) (r : Bool) (w : World) (hr0 : Kd.C k24 w A0 l0.length l0) (hc0 : l0.length ≤ c0) (hr1 : Kd.C k24 w A1 l1.length l1) (hc1 : l1.length ≤ c1) (h : thalwegref05_Same.f k l0 l1 = some r) :
  Calls Try.prog 17 #[.slice A0 l0.length c0, .slice A1 l1.length c1] w fun e w' => e = .returned (.bool r) ∧ Drawn0 w w' := by
 have HR0 := YA hr0; have HC0 := YA hc0; clear hr0 hc0; have HR1 := YA hr1; have HC1 := YA hc1; clear hr1 hc1
 have H : (if (l0.length : Int) = (l1.length : Int) then (thalwegref05_Same.l0 k l0 l1 0) else (some false)) = some r := h
 clear h
 by_cases c3 : (l0.length : Int) = (l1.length : Int)
 ·rw [if_pos c3] at H
  have c3b0 : ((l0.length : Int) == (l1.length : Int)) = true := beq_iff_eq.mpr c3
  have c3b1 : ((l0.length : Int) != (l1.length : Int)) = false := bne_eq_false_iff_eq.mpr c3
  have c3b2 : (l0.length == l1.length) = true := by first | simpa using c3 | (simp at c3 ⊢; omega)
  clear c3
  have H' := YA H
  clear H
  go_enter Try.func17, Try.ntmps17
  go_wp2
  repeat (go_quiet (fail); try go_wp2)
  go_loopg [5] k (fun kq v5 w' => ∃ (x5_1 : Int), v5 = .int .i64 x5_1 ∧ Aside0 (thalwegref05_Same.l0 kq l0 l1 x5_1 = some r) ∧ Aside0 (kq ≤ k) ∧ Drawn0 w w')
  case atStart => exact ⟨(0), (by first | rfl | (simp; done) | (simp [*]; done)), H', ⟨Nat.le_refl _⟩, by repeat (first | exact Drawn0.refl _ | apply Drawn0.step)⟩
  case round =>
   clear H'
   try clear c1; try clear p2
   try clear c3; try clear c3b0
   try clear c3b1; try clear c3b2
   obtain ⟨x5_1, rfl, HA, HK1, ⟨m1, rfl⟩⟩ := hrel
   cases gk with
   | zero => exact absurd HA.out (by simp [thalwegref05_Same.l0])
   | succ k1 =>
    have H := HA.out
    clear HA
    simp only [thalwegref05_Same.l0] at H
    by_cases c4 : x5_1 < (l0.length : Int)
    ·rw [if_pos c4] at H
     have c4b0 : decide (x5_1 < (l0.length : Int)) = true := decide_eq_true c4
     clear c4
     by_cases c5 : 0 ≤ x5_1
     rotate_left
     ·rw [if_neg c5] at H
      exact absurd H (by simp)
     rw [if_pos c5] at H; have c5b0 : decide (0 ≤ x5_1) = true := decide_eq_true c5; clear c5
     by_cases c6 : x5_1 < (l1.length : Int)
     rotate_left
     ·rw [if_neg c6] at H
      exact absurd H (by simp)
     rw [if_pos c6] at H
     have c6b0 : decide (x5_1 < (l1.length : Int)) = true := decide_eq_true c6
     clear c6
     by_cases c7 : ((rd_T24 l0 x5_1).f0) = ((rd_T24 l1 x5_1).f0)
     ·rw [if_pos c7] at H
      have c7b0 : (((rd_T24 l0 x5_1).f0) == ((rd_T24 l1 x5_1).f0)) = true := beq_iff_eq.mpr c7
      have c7b1 : (((rd_T24 l0 x5_1).f0) != ((rd_T24 l1 x5_1).f0)) = false := bne_eq_false_iff_eq.mpr c7
      clear c7; replace H := Option.bind_eq_some_iff.mp H; obtain ⟨t423, A80, H⟩ := H
      replace H : (if t423 = true then (thalwegref05_Same.l0 k1 l0 l1 (wrap64 (x5_1 + 1))) else (some false)) = some r := H
      have A8 := YA A80; clear A80
      by_cases c9 : t423 = true
      ·subst c9
       have H1 : (thalwegref05_Same.l0 k1 l0 l1 (wrap64 (x5_1 + 1))) = some r := by rw [if_pos rfl] at H; exact H
       clear H
       have H := H1
       clear H1
       have H' := YA H
       clear H
       have p419 : 0 ≤ (x5_1 : Int) := of_decide_eq_true (by first | (with_reducible assumption) | assumption)
       have q419 : x5_1 < (l0.length : Int) := of_decide_eq_true (by first | (with_reducible assumption) | assumption)
       obtain ⟨ad419, A419_1, c419_1, e419, hx419_0, hx419_1, hl419_1, hi419_1⟩ := at_T24 HR0.out x5_1 p419 q419
       cases e419
       have HR419_1 := YA hi419_1; have HC419_1 := YA hl419_1; clear hi419_1 hl419_1
       replace p419 := eq_true p419
       replace q419 := eq_true q419
       have p420 : 0 ≤ (x5_1 : Int) := of_decide_eq_true (by first | (with_reducible assumption) | assumption)
       have q420 : x5_1 < (l1.length : Int) := of_decide_eq_true (by first | (with_reducible assumption) | assumption)
       obtain ⟨ad420, A420_1, c420_1, e420, hx420_0, hx420_1, hl420_1, hi420_1⟩ := at_T24 HR1.out x5_1 p420 q420
       cases e420
       have HR420_1 := YA hi420_1; have HC420_1 := YA hl420_1; clear hi420_1 hl420_1
       replace p420 := eq_true p420
       replace q420 := eq_true q420
       have p421 : 0 ≤ (x5_1 : Int) := of_decide_eq_true (by first | (with_reducible assumption) | assumption)
       have q421 : x5_1 < (l0.length : Int) := of_decide_eq_true (by first | (with_reducible assumption) | assumption)
       obtain ⟨ad421, A421_1, c421_1, e421, hx421_0, hx421_1, hl421_1, hi421_1⟩ := at_T24 HR0.out x5_1 p421 q421
       obtain rfl : ad419 = ad421 := (by injection e421)
       have HR421_1 := YA hi421_1; have HC421_1 := YA hl421_1; clear hi421_1 hl421_1
       replace p421 := eq_true p421
       replace q421 := eq_true q421
       have ea_ := Option.some.inj (hx419_1.symm.trans hx421_1)
       injection ea_ with ea_ en_ ec_
       subst ea_; subst ec_; clear en_
       have p422 : 0 ≤ (x5_1 : Int) := of_decide_eq_true (by first | (with_reducible assumption) | assumption)
       have q422 : x5_1 < (l1.length : Int) := of_decide_eq_true (by first | (with_reducible assumption) | assumption)
       obtain ⟨ad422, A422_1, c422_1, e422, hx422_0, hx422_1, hl422_1, hi422_1⟩ := at_T24 HR1.out x5_1 p422 q422
       obtain rfl : ad420 = ad422 := (by injection e422)
       have HR422_1 := YA hi422_1; have HC422_1 := YA hl422_1; clear hi422_1 hl422_1
       replace p422 := eq_true p422
       replace q422 := eq_true q422
       have ea_ := Option.some.inj (hx420_1.symm.trans hx422_1)
       injection ea_ with ea_ en_ ec_
       subst ea_; subst ec_; clear en_
       go_wp2_with (first | (go_at_call 14; (with_reducible refine (thalwegref04_Same.calls k1 _ _ ((rd_T24 l0 x5_1).f1) _ _ ((rd_T24 l1 x5_1).f1) true _ ?side1 ?side2 ?side3 ?side4 A8.out).mono ?_); (case side1 => repeat (first | exact HR421_1.out | (with_reducible refine Kd.C_alloc ?_ _) | (with_reducible refine Kd.C_drewN ?_ _) | (with_reducible refine Kd.C_drew ?_))); (case side2 => exact HC421_1.out); (case side3 => repeat (first | exact HR422_1.out | (with_reducible refine Kd.C_alloc ?_ _) | (with_reducible refine Kd.C_drewN ?_ _) | (with_reducible refine Kd.C_drew ?_))); (case side4 => exact HC422_1.out); rintro e w' ⟨rfl, ⟨nd, rfl⟩⟩; (try first | exact ⟨rfl, _, World.drewN_drewN _ _ _⟩ | exact ⟨rfl, _, Eq.trans (World.drewN_drewN _ _ _) (congrArg (World.drewN _) (Nat.add_assoc _ _ _))⟩)))
       repeat (go_quiet (first | (go_at_call 14; (with_reducible refine (thalwegref04_Same.calls k1 _ _ ((rd_T24 l0 x5_1).f1) _ _ ((rd_T24 l1 x5_1).f1) true _ ?side1 ?side2 ?side3 ?side4 A8.out).mono ?_); (case side1 => repeat (first | exact HR421_1.out | (with_reducible refine Kd.C_alloc ?_ _) | (with_reducible refine Kd.C_drewN ?_ _) | (with_reducible refine Kd.C_drew ?_))); (case side2 => exact HC421_1.out); (case side3 => repeat (first | exact HR422_1.out | (with_reducible refine Kd.C_alloc ?_ _) | (with_reducible refine Kd.C_drewN ?_ _) | (with_reducible refine Kd.C_drew ?_))); (case side4 => exact HC422_1.out); rintro e w' ⟨rfl, ⟨nd, rfl⟩⟩; (try first | exact ⟨rfl, _, World.drewN_drewN _ _ _⟩ | exact ⟨rfl, _, Eq.trans (World.drewN_drewN _ _ _) (congrArg (World.drewN _) (Nat.add_assoc _ _ _))⟩))); try go_wp2_with (first | (go_at_call 14; (with_reducible refine (thalwegref04_Same.calls k1 _ _ ((rd_T24 l0 x5_1).f1) _ _ ((rd_T24 l1 x5_1).f1) true _ ?side1 ?side2 ?side3 ?side4 A8.out).mono ?_); (case side1 => repeat (first | exact HR421_1.out | (with_reducible refine Kd.C_alloc ?_ _) | (with_reducible refine Kd.C_drewN ?_ _) | (with_reducible refine Kd.C_drew ?_))); (case side2 => exact HC421_1.out); (case side3 => repeat (first | exact HR422_1.out | (with_reducible refine Kd.C_alloc ?_ _) | (with_reducible refine Kd.C_drewN ?_ _) | (with_reducible refine Kd.C_drew ?_))); (case side4 => exact HC422_1.out); rintro e w' ⟨rfl, ⟨nd, rfl⟩⟩; (try first | exact ⟨rfl, _, World.drewN_drewN _ _ _⟩ | exact ⟨rfl, _, Eq.trans (World.drewN_drewN _ _ _) (congrArg (World.drewN _) (Nat.add_assoc _ _ _))⟩))))
       go_roundg k1
       case measure => have := HK1.out; omega
       case rel => exact ⟨(wrap64 (x5_1 + 1)), (by first | rfl | (simp; done) | (simp [*]; done)), H', ⟨by have := HK1.out; omega⟩, by repeat (first | exact Drawn0.refl _ | apply Drawn0.step)⟩
      replace c9 := Bool.eq_false_iff.mpr c9
      subst c9
      have H1 : (some false) = some r := by rw [if_neg (show ¬ (false = true) by decide)] at H; exact H
      clear H
      have H := H1
      clear H1
      obtain rfl := Option.some.inj H
      have p419 : 0 ≤ (x5_1 : Int) := of_decide_eq_true (by first | (with_reducible assumption) | assumption)
      have q419 : x5_1 < (l0.length : Int) := of_decide_eq_true (by first | (with_reducible assumption) | assumption)
      obtain ⟨ad419, A419_1, c419_1, e419, hx419_0, hx419_1, hl419_1, hi419_1⟩ := at_T24 HR0.out x5_1 p419 q419
      cases e419
      have HR419_1 := YA hi419_1; have HC419_1 := YA hl419_1; clear hi419_1 hl419_1
      replace p419 := eq_true p419
      replace q419 := eq_true q419
      have p420 : 0 ≤ (x5_1 : Int) := of_decide_eq_true (by first | (with_reducible assumption) | assumption)
      have q420 : x5_1 < (l1.length : Int) := of_decide_eq_true (by first | (with_reducible assumption) | assumption)
      obtain ⟨ad420, A420_1, c420_1, e420, hx420_0, hx420_1, hl420_1, hi420_1⟩ := at_T24 HR1.out x5_1 p420 q420
      cases e420
      have HR420_1 := YA hi420_1; have HC420_1 := YA hl420_1; clear hi420_1 hl420_1
      replace p420 := eq_true p420
      replace q420 := eq_true q420
      have p421 : 0 ≤ (x5_1 : Int) := of_decide_eq_true (by first | (with_reducible assumption) | assumption)
      have q421 : x5_1 < (l0.length : Int) := of_decide_eq_true (by first | (with_reducible assumption) | assumption)
      obtain ⟨ad421, A421_1, c421_1, e421, hx421_0, hx421_1, hl421_1, hi421_1⟩ := at_T24 HR0.out x5_1 p421 q421
      obtain rfl : ad419 = ad421 := (by injection e421)
      have HR421_1 := YA hi421_1; have HC421_1 := YA hl421_1; clear hi421_1 hl421_1
      replace p421 := eq_true p421
      replace q421 := eq_true q421
      have ea_ := Option.some.inj (hx419_1.symm.trans hx421_1)
      injection ea_ with ea_ en_ ec_
      subst ea_; subst ec_; clear en_
      have p422 : 0 ≤ (x5_1 : Int) := of_decide_eq_true (by first | (with_reducible assumption) | assumption)
      have q422 : x5_1 < (l1.length : Int) := of_decide_eq_true (by first | (with_reducible assumption) | assumption)
      obtain ⟨ad422, A422_1, c422_1, e422, hx422_0, hx422_1, hl422_1, hi422_1⟩ := at_T24 HR1.out x5_1 p422 q422
      obtain rfl : ad420 = ad422 := (by injection e422)
      have HR422_1 := YA hi422_1; have HC422_1 := YA hl422_1; clear hi422_1 hl422_1
      replace p422 := eq_true p422
      replace q422 := eq_true q422
      have ea_ := Option.some.inj (hx420_1.symm.trans hx422_1)
      injection ea_ with ea_ en_ ec_
      subst ea_; subst ec_; clear en_
      go_wp2_with (first | (go_at_call 14; (with_reducible refine (thalwegref04_Same.calls k1 _ _ ((rd_T24 l0 x5_1).f1) _ _ ((rd_T24 l1 x5_1).f1) false _ ?side1 ?side2 ?side3 ?side4 A8.out).mono ?_); (case side1 => repeat (first | exact HR421_1.out | (with_reducible refine Kd.C_alloc ?_ _) | (with_reducible refine Kd.C_drewN ?_ _) | (with_reducible refine Kd.C_drew ?_))); (case side2 => exact HC421_1.out); (case side3 => repeat (first | exact HR422_1.out | (with_reducible refine Kd.C_alloc ?_ _) | (with_reducible refine Kd.C_drewN ?_ _) | (with_reducible refine Kd.C_drew ?_))); (case side4 => exact HC422_1.out); rintro e w' ⟨rfl, ⟨nd, rfl⟩⟩; (try first | exact ⟨rfl, _, World.drewN_drewN _ _ _⟩ | exact ⟨rfl, _, Eq.trans (World.drewN_drewN _ _ _) (congrArg (World.drewN _) (Nat.add_assoc _ _ _))⟩)))
      repeat (go_quiet (first | (go_at_call 14; (with_reducible refine (thalwegref04_Same.calls k1 _ _ ((rd_T24 l0 x5_1).f1) _ _ ((rd_T24 l1 x5_1).f1) false _ ?side1 ?side2 ?side3 ?side4 A8.out).mono ?_); (case side1 => repeat (first | exact HR421_1.out | (with_reducible refine Kd.C_alloc ?_ _) | (with_reducible refine Kd.C_drewN ?_ _) | (with_reducible refine Kd.C_drew ?_))); (case side2 => exact HC421_1.out); (case side3 => repeat (first | exact HR422_1.out | (with_reducible refine Kd.C_alloc ?_ _) | (with_reducible refine Kd.C_drewN ?_ _) | (with_reducible refine Kd.C_drew ?_))); (case side4 => exact HC422_1.out); rintro e w' ⟨rfl, ⟨nd, rfl⟩⟩; (try first | exact ⟨rfl, _, World.drewN_drewN _ _ _⟩ | exact ⟨rfl, _, Eq.trans (World.drewN_drewN _ _ _) (congrArg (World.drewN _) (Nat.add_assoc _ _ _))⟩))); try go_wp2_with (first | (go_at_call 14; (with_reducible refine (thalwegref04_Same.calls k1 _ _ ((rd_T24 l0 x5_1).f1) _ _ ((rd_T24 l1 x5_1).f1) false _ ?side1 ?side2 ?side3 ?side4 A8.out).mono ?_); (case side1 => repeat (first | exact HR421_1.out | (with_reducible refine Kd.C_alloc ?_ _) | (with_reducible refine Kd.C_drewN ?_ _) | (with_reducible refine Kd.C_drew ?_))); (case side2 => exact HC421_1.out); (case side3 => repeat (first | exact HR422_1.out | (with_reducible refine Kd.C_alloc ?_ _) | (with_reducible refine Kd.C_drewN ?_ _) | (with_reducible refine Kd.C_drew ?_))); (case side4 => exact HC422_1.out); rintro e w' ⟨rfl, ⟨nd, rfl⟩⟩; (try first | exact ⟨rfl, _, World.drewN_drewN _ _ _⟩ | exact ⟨rfl, _, Eq.trans (World.drewN_drewN _ _ _) (congrArg (World.drewN _) (Nat.add_assoc _ _ _))⟩))))
      go_ret
      exact ⟨by first | rfl | (simp; done) | (simp [*]; done), by repeat (first | exact Drawn0.refl _ | apply Drawn0.step)⟩
     rw [if_neg c7] at H
     have c7b0 : (((rd_T24 l0 x5_1).f0) == ((rd_T24 l1 x5_1).f0)) = false := beq_eq_false_iff_ne.mpr c7
     have c7b1 : (((rd_T24 l0 x5_1).f0) != ((rd_T24 l1 x5_1).f0)) = true := bne_iff_ne.mpr c7
     obtain rfl := Option.some.inj H
     have p419 : 0 ≤ (x5_1 : Int) := of_decide_eq_true (by first | (with_reducible assumption) | assumption)
     have q419 : x5_1 < (l0.length : Int) := of_decide_eq_true (by first | (with_reducible assumption) | assumption)
     obtain ⟨ad419, A419_1, c419_1, e419, hx419_0, hx419_1, hl419_1, hi419_1⟩ := at_T24 HR0.out x5_1 p419 q419
     cases e419
     have HR419_1 := YA hi419_1; have HC419_1 := YA hl419_1; clear hi419_1 hl419_1
     replace p419 := eq_true p419
     replace q419 := eq_true q419
     have p420 : 0 ≤ (x5_1 : Int) := of_decide_eq_true (by first | (with_reducible assumption) | assumption)
     have q420 : x5_1 < (l1.length : Int) := of_decide_eq_true (by first | (with_reducible assumption) | assumption)
     obtain ⟨ad420, A420_1, c420_1, e420, hx420_0, hx420_1, hl420_1, hi420_1⟩ := at_T24 HR1.out x5_1 p420 q420
     cases e420
     have HR420_1 := YA hi420_1; have HC420_1 := YA hl420_1; clear hi420_1 hl420_1
     replace p420 := eq_true p420
     replace q420 := eq_true q420
     go_wp2
     repeat (go_quiet (fail); try go_wp2)
     go_ret
     exact ⟨by first | rfl | (simp; done) | (simp [*]; done), by repeat (first | exact Drawn0.refl _ | apply Drawn0.step)⟩
    rw [if_neg c4] at H
    have c4b0 : decide (x5_1 < (l0.length : Int)) = false := decide_eq_false c4
    clear c4
    obtain rfl := Option.some.inj H
    go_wp2
    repeat (go_quiet (fail); try go_wp2)
    go_ret
    exact ⟨by first | rfl | (simp; done) | (simp [*]; done), by repeat (first | exact Drawn0.refl _ | apply Drawn0.step)⟩
 rw [if_neg c3] at H
 have c3b0 : ((l0.length : Int) == (l1.length : Int)) = false := beq_eq_false_iff_ne.mpr c3
 have c3b1 : ((l0.length : Int) != (l1.length : Int)) = true := bne_iff_ne.mpr c3
 have c3b2 : (l0.length == l1.length) = false := by first | simpa using c3 | (simp at c3 ⊢; omega)
 obtain rfl := Option.some.inj H
 go_enter Try.func17, Try.ntmps17
 go_wp2
 repeat (go_quiet (fail); try go_wp2)
 go_ret
 exact ⟨by first | rfl | (simp; done) | (simp [*]; done), by repeat (first | exact Drawn0.refl _ | apply Drawn0.step)⟩
end Go.Proofs.Ytfigbjjaffkidaa.P
namespace Go.Proofs.Ytfigbjjaffkidaa.P
open Go.RowKit YtfigbjjaffkidaaW.PrintWords YtfigbjjaffkidaaW.PrintLast YtfigbjjaffkidaaW.PrintMore
open YtfigbjjaffkidaaW.PrintWords renaming below_alloc → YA, pw_below_drewN → YB, below_drew1 → YC
open YtfigbjjaffkidaaW.PrintWords.Aside0 renaming mk → YD
attribute [local go_sem] max2_int min2_int max_two min_two max_three min_three max_four min_four
def wire_Get.f (l0 : List Int) (a1 : Int) (a2 : Int) : Option (Int × Int × Int) := if a2 < 1 then (some (0, 0, 1)) else (if a2 > 7 then (some (0, 0, 1)) else ((wire_number.f l0 a1 a2).bind fun bt492 => (some (wrap64 (bt492.1), bt492.2.1, bt492.2.2))))
theorem wire_Get.calls (A0 : Option Addr) (c0 : Nat) (l0 : List Int) (a1 : Int) (a2 : Int) (r1 : Int) (r2 : Int) (r3 : Int) (w : World) (hr0 : Kd.C (Kd.int .u8) w A0 l0.length l0) (hc0 : l0.length ≤ c0) (h : wire_Get.f l0 a1 a2 = some (r1, r2, r3)) :
  Calls Try.prog 32 #[.slice A0 l0.length c0, .int .i64 a1, .int .i64 a2] w fun e w' => e = .returned (.tuple #[.int .i64 r1, .int .i64 r2, .int .i64 r3]) ∧ Below w.heap.size w w' := by
 have HR0 := YD hr0; have HC0 := YD hc0; clear hr0 hc0
 have HB := YD (Below.refl w.heap.size w)
 have H : (if a2 < 1 then (some (0, 0, 1)) else (if a2 > 7 then (some (0, 0, 1)) else ((wire_number.f l0 a1 a2).bind fun bt492 => (some (wrap64 (bt492.1), bt492.2.1, bt492.2.2))))) = some (r1, r2, r3) := h
 clear h
 by_cases c4 : a2 < 1
 ·rw [if_pos c4] at H
  have c4b0 : decide (a2 < 1) = true := decide_eq_true c4; clear c4
  simp only [Option.some.injEq, Prod.mk.injEq] at H
  obtain ⟨rfl, rfl, rfl⟩ := H
  go_enter Try.func32, Try.ntmps32
  go_wp2
  go_ret3
  exact ⟨by first | rfl | (simp [errW_none, errW_some] <;> rfl) | (simp [*, errW_none, errW_some] <;> rfl), by repeat (first | (with_reducible first | exact HB.out | apply YA | apply YB | apply YC) | exact HB.out)⟩
 rw [if_neg c4] at H; have c4b0 : decide (a2 < 1) = false := decide_eq_false c4; clear c4
 by_cases c5 : a2 > 7
 ·rw [if_pos c5] at H
  have c5b0 : decide (7 < a2) = true := decide_eq_true c5; clear c5
  simp only [Option.some.injEq, Prod.mk.injEq] at H
  obtain ⟨rfl, rfl, rfl⟩ := H
  go_enter Try.func32, Try.ntmps32
  go_wp2
  go_ret3
  exact ⟨by first | rfl | (simp [errW_none, errW_some] <;> rfl) | (simp [*, errW_none, errW_some] <;> rfl), by repeat (first | (with_reducible first | exact HB.out | apply YA | apply YB | apply YC) | exact HB.out)⟩
 rw [if_neg c5] at H; have c5b0 : decide (7 < a2) = false := decide_eq_false c5; clear c5; replace H := Option.bind_eq_some_iff.mp H
 obtain ⟨⟨t492, t493, t494⟩, A60, H⟩ := H
 replace H : (some (wrap64 (t492), t493, t494)) = some (r1, r2, r3) := H
 have A6 := YD A60; clear A60
 simp only [Option.some.injEq, Prod.mk.injEq] at H
 obtain ⟨rfl, rfl, rfl⟩ := H
 go_enter Try.func32, Try.ntmps32
 go_wp2_with (first | ((with_reducible refine gate_callee (f := 41) rfl ?_); refine goesA (some 22) Try.func41 #[.slice A0 l0.length c0, .int .i64 a1, .int .i64 a2] ?_; (with_reducible refine (wire_number.calls _ _ l0 a1 a2 t492 t493 t494 _ ?side1 ?side2 A6.out).mono ?_); (case side1 => repeat (first | exact HR0.out | (with_reducible refine Kd.C_alloc ?_ _) | (with_reducible refine Kd.C_drewN ?_ _) | (with_reducible refine Kd.C_drew ?_))); (case side2 => exact HC0.out); rintro e w7 ⟨rfl, hb⟩; refine ⟨_, rfl, ?_⟩; have n0_ := YD (below_step (upB HB) hb); clear HB; have HB := n0_; clear n0_; (try clear hb); (try clear hb2); (try clear hk); (try clear hi)))
 go_ret3
 exact ⟨by first | rfl | (simp [errW_none, errW_some] <;> rfl) | (simp [*, errW_none, errW_some] <;> rfl), by repeat (first | (with_reducible first | exact HB.out | apply YA | apply YB | apply YC) | exact HB.out)⟩
def wire_GetInt.f (l0 : List Int) (a1 : Int) : Option (Int × Int × Int) := (wire_number.f l0 a1 8).bind fun bt495 => (some (wrap64 (bt495.1), bt495.2.1, bt495.2.2))
theorem wire_GetInt.calls (A0 : Option Addr) (c0 : Nat) (l0 : List Int) (a1 : Int) (r1 : Int) (r2 : Int) (r3 : Int) (w : World) (hr0 : Kd.C (Kd.int .u8) w A0 l0.length l0) (hc0 : l0.length ≤ c0) (h : wire_GetInt.f l0 a1 = some (r1, r2, r3)) :
  Calls Try.prog 49 #[.slice A0 l0.length c0, .int .i64 a1] w fun e w' => e = .returned (.tuple #[.int .i64 r1, .int .i64 r2, .int .i64 r3]) ∧ Below w.heap.size w w' := by
 have HR0 := YD hr0; have HC0 := YD hc0; clear hr0 hc0
 have HB := YD (Below.refl w.heap.size w)
 have H : ((wire_number.f l0 a1 8).bind fun bt495 => (some (wrap64 (bt495.1), bt495.2.1, bt495.2.2))) = some (r1, r2, r3) := h
 clear h; replace H := Option.bind_eq_some_iff.mp H
 obtain ⟨⟨t495, t496, t497⟩, A30, H⟩ := H
 replace H : (some (wrap64 (t495), t496, t497)) = some (r1, r2, r3) := H
 have A3 := YD A30; clear A30
 simp only [Option.some.injEq, Prod.mk.injEq] at H
 obtain ⟨rfl, rfl, rfl⟩ := H
 go_enter Try.func49, Try.ntmps49
 go_wp2_with (first | ((with_reducible refine gate_callee (f := 41) rfl ?_); refine goesA (some 13) Try.func41 #[.slice A0 l0.length c0, .int .i64 a1, .int .i64 8] ?_; (with_reducible refine (wire_number.calls _ _ l0 a1 8 t495 t496 t497 _ ?side1 ?side2 A3.out).mono ?_); (case side1 => repeat (first | exact HR0.out | (with_reducible refine Kd.C_alloc ?_ _) | (with_reducible refine Kd.C_drewN ?_ _) | (with_reducible refine Kd.C_drew ?_))); (case side2 => exact HC0.out); rintro e w4 ⟨rfl, hb⟩; refine ⟨_, rfl, ?_⟩; have n0_ := YD (below_step (upB HB) hb); clear HB; have HB := n0_; clear n0_; (try clear hb); (try clear hb2); (try clear hk); (try clear hi)))
 go_ret3
 exact ⟨by first | rfl | (simp [errW_none, errW_some] <;> rfl) | (simp [*, errW_none, errW_some] <;> rfl), by repeat (first | (with_reducible first | exact HB.out | apply YA | apply YB | apply YC) | exact HB.out)⟩
end Go.Proofs.Ytfigbjjaffkidaa.P
namespace Go.Proofs.Ytfigbjjaffkidaa.P
open Go.RowKit YtfigbjjaffkidaaW.PrintWords YtfigbjjaffkidaaW.PrintLast YtfigbjjaffkidaaW.PrintMore
theorem wire_number_eq (l : List Int) (a n : Int) (hB : Bytes l) (hl : l.length ≤ 1000000000000) (h0 : 0 ≤ n) (h8 : n ≤ 8) : wire_number.f l a n = some (numSpec l a n) := by
 unfold wire_number.f
 rw [if_pos ⟨hl, h0, h8, hB⟩]
theorem numSpec_small (l : List Int) (a n : Int) (hB : Bytes l) (h7 : n ≤ 7) : 0 ≤ (numSpec l a n).1 ∧ (numSpec l a n).1 < 72057594037927936 := by
 unfold numSpec
 split
 ·simp
 ·split
  ·simp
  ·have hr := bev_range _ ((hB.drop a.toNat).take n.toNat)
   have hp : (256 : Int) ^ ((l.drop a.toNat).take n.toNat).length ≤ 256 ^ 7 := pow256_le _ _ (by rw [List.length_take]; omega)
   have e7 : (256 : Int) ^ 7 = 72057594037927936 := by decide
   exact ⟨hr.1, by show bev _ < _; omega⟩
theorem wire_Get_eq (l : List Int) (a n : Int) (hB : Bytes l) (hl : l.length ≤ 1000000000000) : wire_Get.f l a n = some (getSpec l a n) := by
 unfold wire_Get.f getSpec
 by_cases c : n < 1 ∨ 7 < n
 ·rw [if_pos c]
  by_cases c1 : n < 1
  ·rw [if_pos c1]
  ·rw [if_neg c1, if_pos (show n > 7 by omega)]
 ·rw [if_neg c]
  rw [if_neg (show ¬ n < 1 by omega), if_neg (show ¬ n > 7 by omega), wire_number_eq l a n hB hl (by omega) (by omega)]
  have hs := numSpec_small l a n hB (by omega)
  rw [Option.bind_some, w64 (by omega) (by omega)]
theorem wire_GetInt_eq (l : List Int) (a : Int) (hB : Bytes l) (hl : l.length ≤ 1000000000000) : wire_GetInt.f l a = some (getIntSpec l a) := by
 unfold wire_GetInt.f getIntSpec
 rw [wire_number_eq l a 8 hB hl (by omega) (by omega)]
 rfl
end Go.Proofs.Ytfigbjjaffkidaa.P
namespace Go.Proofs.Ytfigbjjaffkidaa.P
open Go.RowKit YtfigbjjaffkidaaW.PrintWords YtfigbjjaffkidaaW.PrintLast YtfigbjjaffkidaaW.PrintMore
attribute [local go_sem] max2_int min2_int max_two min_two max_three min_three max_four min_four
abbrev RdC (A : Option Addr) (n c : Nat) (at_ e : Int) : Array Value := #[.slice A n c, .int .i64 at_, .int .i64 e]
def rdStep (G : Int × Int × Int) (at_ e : Int) : Int × Int × Int := if e = 0 then (if G.2.2 = 0 then (G.1, G.2.1, 0) else (0, at_, G.2.2)) else (0, at_, e)
def rd1 (l : List Int) (n at_ e : Int) : Int × Int × Int := rdStep (getSpec l at_ n) at_ e
def rd8 (l : List Int) (at_ e : Int) : Int × Int × Int := rdStep (getIntSpec l at_) at_ e
theorem cells3 {w : World} {g : Nat} {t : TypeId} {v0 v1 v2 : Value} (h : w.heap[g]? = some (.cells #[v0, v1, v2] t (0, 0))) : (w.cell? ⟨g, 0, none⟩ = some v0 ∧ w.cell? ⟨g, 1, none⟩ = some v1 ∧ w.cell? ⟨g, 2, none⟩ = some v2) ∧ (w.frozen? ⟨g, 0, none⟩ = false ∧ w.frozen? ⟨g, 1, none⟩ = false ∧ w.frozen? ⟨g, 2, none⟩ = false) := ⟨⟨(blk_cell h 0).trans rfl, (blk_cell h 1).trans rfl, (blk_cell h 2).trans rfl⟩, ⟨blk_frozen h 0, blk_frozen h 1, blk_frozen h 2⟩⟩
theorem cells6 {w : World} {g : Nat} {t : TypeId} {v0 v1 v2 v3 v4 v5 : Value} (h : w.heap[g]? = some (.cells #[v0, v1, v2, v3, v4, v5] t (0, 0))) : (w.cell? ⟨g, 0, none⟩ = some v0 ∧ w.cell? ⟨g, 1, none⟩ = some v1 ∧ w.cell? ⟨g, 2, none⟩ = some v2 ∧ w.cell? ⟨g, 3, none⟩ = some v3 ∧ w.cell? ⟨g, 4, none⟩ = some v4 ∧ w.cell? ⟨g, 5, none⟩ = some v5) ∧ (w.frozen? ⟨g, 0, none⟩ = false ∧ w.frozen? ⟨g, 1, none⟩ = false ∧ w.frozen? ⟨g, 2, none⟩ = false ∧ w.frozen? ⟨g, 3, none⟩ = false ∧ w.frozen? ⟨g, 4, none⟩ = false ∧ w.frozen? ⟨g, 5, none⟩ = false) := ⟨⟨(blk_cell h 0).trans rfl, (blk_cell h 1).trans rfl, (blk_cell h 2).trans rfl, (blk_cell h 3).trans rfl, (blk_cell h 4).trans rfl, (blk_cell h 5).trans rfl⟩, ⟨blk_frozen h 0, blk_frozen h 1, blk_frozen h 2, blk_frozen h 3, blk_frozen h 4, blk_frozen h 5⟩⟩
theorem cells12 {w : World} {g : Nat} {t : TypeId} {v0 v1 v2 v3 v4 v5 v6 v7 v8 v9 v10 v11 : Value} (h : w.heap[g]? = some (.cells #[v0, v1, v2, v3, v4, v5, v6, v7, v8, v9, v10, v11] t (0, 0))) : (w.cell? ⟨g, 0, none⟩ = some v0 ∧ w.cell? ⟨g, 1, none⟩ = some v1 ∧ w.cell? ⟨g, 2, none⟩ = some v2 ∧ w.cell? ⟨g, 3, none⟩ = some v3 ∧ w.cell? ⟨g, 4, none⟩ = some v4 ∧ w.cell? ⟨g, 5, none⟩ = some v5 ∧ w.cell? ⟨g, 6, none⟩ = some v6 ∧ w.cell? ⟨g, 7, none⟩ = some v7 ∧ w.cell? ⟨g, 8, none⟩ = some v8 ∧ w.cell? ⟨g, 9, none⟩ = some v9 ∧ w.cell? ⟨g, 10, none⟩ = some v10 ∧ w.cell? ⟨g, 11, none⟩ = some v11) ∧ (w.frozen? ⟨g, 0, none⟩ = false ∧ w.frozen? ⟨g, 1, none⟩ = false ∧ w.frozen? ⟨g, 2, none⟩ = false ∧ w.frozen? ⟨g, 3, none⟩ = false ∧ w.frozen? ⟨g, 4, none⟩ = false ∧ w.frozen? ⟨g, 5, none⟩ = false ∧ w.frozen? ⟨g, 6, none⟩ = false ∧ w.frozen? ⟨g, 7, none⟩ = false ∧ w.frozen? ⟨g, 8, none⟩ = false ∧ w.frozen? ⟨g, 9, none⟩ = false ∧ w.frozen? ⟨g, 10, none⟩ = false ∧ w.frozen? ⟨g, 11, none⟩ = false) := ⟨⟨(blk_cell h 0).trans rfl, (blk_cell h 1).trans rfl, (blk_cell h 2).trans rfl, (blk_cell h 3).trans rfl, (blk_cell h 4).trans rfl, (blk_cell h 5).trans rfl, (blk_cell h 6).trans rfl, (blk_cell h 7).trans rfl, (blk_cell h 8).trans rfl, (blk_cell h 9).trans rfl, (blk_cell h 10).trans rfl, (blk_cell h 11).trans rfl⟩, ⟨blk_frozen h 0, blk_frozen h 1, blk_frozen h 2, blk_frozen h 3, blk_frozen h 4, blk_frozen h 5, blk_frozen h 6, blk_frozen h 7, blk_frozen h 8, blk_frozen h 9, blk_frozen h 10, blk_frozen h 11⟩⟩
theorem grown_set {w : World} {g : Nat} {cs : Array Value} {t : TypeId} (hb : w.heap[g]? = some (.cells cs t (0, 0))) (i : Nat) (u : Value) : w.grownBy (w.setCell ⟨g, i, none⟩ u) (some g) :=
 ⟨rfl, rfl, rfl, by simp [World.setCell], fun k hk hn => Below.heap_setCell w ⟨g, i, none⟩ u k (fun e => hn (by rw [e]))⟩
theorem grown_below {w w1 w2 : World} {g : Nat} (hb : Below w.heap.size w w1) (h : w1.grownBy w2 (some g)) : w.grownBy w2 (some g) :=
 ⟨h.os.trans hb.os, h.tape.trans hb.tape, h.output.trans hb.output, Nat.le_trans hb.size h.size, fun k hk hn => (h.block k (Nat.lt_of_lt_of_le hk hb.size) hn).trans (hb.block k hk)⟩
theorem hr_keep0 (g : Nat) (A : Option Addr) (n c : Nat) (at_ e v tt : Int) (w : World) (hb : w.heap[g]? = some (.cells (RdC A n c at_ e) 100 (0, 0))) :
  Calls Try.prog 58 #[.pointer (some ⟨g, 0, none⟩), .int .i64 v, .int .i64 tt, .int .i64 0] w fun x w' => x = .returned (.int .i64 v) ∧ w' = w.setCell ⟨g, 1, none⟩ (.int .i64 tt) := by
 have h1 : w.cell? ⟨g, 1, none⟩ = some (.int .i64 at_) := (blk_cell hb 1).trans rfl
 have f1 := blk_frozen hb 1
 clear hb
 go_enter Try.func58, Try.ntmps58
 go_wp2
 go_ret
 exact ⟨rfl, rfl⟩
theorem hr_keepE (g : Nat) (A : Option Addr) (n c : Nat) (at_ e v tt e2 : Int) (w : World) (he : ¬ e2 = 0) (hb : w.heap[g]? = some (.cells (RdC A n c at_ e) 100 (0, 0))) :
  Calls Try.prog 58 #[.pointer (some ⟨g, 0, none⟩), .int .i64 v, .int .i64 tt, .int .i64 e2] w fun x w' => x = .returned (.int .i64 0) ∧ w' = w.setCell ⟨g, 2, none⟩ (.int .i64 e2) := by
 have h1 : w.cell? ⟨g, 2, none⟩ = some (.int .i64 e) := (blk_cell hb 2).trans rfl
 have f1 := blk_frozen hb 2
 have b1 : (e2 != 0) = true := bne_iff_ne.mpr he
 clear hb he
 go_enter Try.func58, Try.ntmps58
 go_wp2
 go_ret
 exact ⟨rfl, rfl⟩
theorem hr_keep (g : Nat) (A : Option Addr) (n c : Nat) (at_ v tt e2 : Int) (w : World) (hb : w.heap[g]? = some (.cells (RdC A n c at_ 0) 100 (0, 0))) :
  Calls Try.prog 58 #[.pointer (some ⟨g, 0, none⟩), .int .i64 v, .int .i64 tt, .int .i64 e2] w fun x w' => x = .returned (.int .i64 (rdStep (v, tt, e2) at_ 0).1) ∧ w'.heap[g]? = some (.cells (RdC A n c (rdStep (v, tt, e2) at_ 0).2.1 (rdStep (v, tt, e2) at_ 0).2.2) 100 (0, 0)) ∧ w.grownBy w' (some g) := by
 by_cases c0 : e2 = 0
 ·subst c0
  refine (hr_keep0 g A n c at_ 0 v tt w hb).mono ?_
  rintro x w' ⟨rfl, rfl⟩
  exact ⟨rfl, blk_put hb 1 _ rfl, grown_set hb _ _⟩
 ·refine (hr_keepE g A n c at_ 0 v tt e2 w c0 hb).mono ?_
  rintro x w' ⟨rfl, rfl⟩
  simp only [rdStep, if_true, if_neg c0]
  exact ⟨trivial, blk_put hb 2 _ rfl, grown_set hb _ _⟩
def hr_one.T3 : Bool × List (List Nat × List Nat) := (true, [([], []), ([], []), ([1], [1]), ([2], [2]), ([3], [3]), ([], []), ([5], [5]), ([6], [6]), ([7], [7]), ([4, 8], [4, 8]), ([9], [9]), ([9], [9]), ([9], [9]), ([0, 10, 11, 12, 9], [0, 10, 11, 12]), ([13, 13, 0, 1, 2, 3, 4, 5, 6, 7, 8, 9, 10, 11, 12, 13], [13])])
def hr_one.B3 : List Nat := [0, 0, 2, 6, 14, 0, 32, 96, 224, 510, 1022, 1022, 1022, 8191, 16383]
theorem hr_one.tab3 : rtab .any (opsOf Try.f54 3) = hr_one.T3 := by kernel_rfl
theorem hr_one.bits3 : waitsOk hr_one.T3.2 hr_one.B3 = true := by kernel_rfl
theorem hr_one (g : Nat) (A : Option Addr) (c : Nat) (l : List Int) (at_ e : Int) (w : World) (hB : Bytes l) (hl : l.length ≤ 1000000000000) (hr : Kd.C (Kd.int .u8) w A l.length l) (hc : l.length ≤ c) (hb : w.heap[g]? = some (.cells (RdC A l.length c at_ e) 100 (0, 0))) :
  Calls Try.prog 54 #[.pointer (some ⟨g, 0, none⟩)] w fun x w' => x = .returned (.int .i64 (rd1 l 1 at_ e).1) ∧ w'.heap[g]? = some (.cells (RdC A l.length c (rd1 l 1 at_ e).2.1 (rd1 l 1 at_ e).2.2) 100 (0, 0)) ∧ w.grownBy w' (some g) := by
 have h2 : w.cell? ⟨g, 2, none⟩ = some (.int .i64 e) := (blk_cell hb 2).trans rfl
 have HBB := Aside0.mk hb
 by_cases c0 : e = 0
 case neg =>
  have b0 : (e != 0) = true := bne_iff_ne.mpr c0
  have HN := Aside0.mk c0
  clear hb c0
  go_enter Try.func54, Try.ntmps54
  go_wp2
  go_ret
  simp only [rd1, rd8, rdStep, if_neg HN.out]
  exact ⟨rfl, HBB.out, rfl, rfl, rfl, Nat.le_refl _, fun _ _ _ => rfl⟩
 subst c0
 obtain ⟨s1, s2, s3, hG⟩ : ∃ s1 s2 s3, getSpec l at_ 1 = (s1, s2, s3) := ⟨_, _, _, rfl⟩
 have HG := Aside0.mk (show wire_Get.f l at_ 1 = some (s1, s2, s3) by rw [wire_Get_eq _ _ _ hB hl, hG])
 have HGG := Aside0.mk hG
 clear hG hb
 go_enter Try.func54, Try.ntmps54
 go_wp2
 clear h2
 refine start_ (n := 15) (S := fun w' => w'.cell? ⟨g, 0, none⟩ = some (.slice A l.length c) ∧ w'.cell? ⟨g, 1, none⟩ = some (.int .i64 at_)) (ds := [13]) #[false, false, false, false, false, false, false, false, false, false, false, false, false, false, false] (by kernel_rfl) rfl rfl ⟨(blk_cell HBB.out 0).trans rfl, (blk_cell HBB.out 1).trans rfl⟩ (fun hHeld => ?_); refine with_tabW hr_one.tab3 hr_one.bits3 (fun HT_ HW_ => ?_)
 refine pureA (i := 0) (N := some 8) HT_ ?_
 refine pureA (i := 1) (N := some 9) HT_ ?_
 refine pureA (i := 2) (N := some 10) HT_ ?_
 refine pureA (i := 3) (N := some 11) HT_ ?_
 refine pureA (i := 5) (N := some 13) HT_ ?_
 refine pureA (i := 6) (N := some 14) HT_ ?_
 refine pureA (i := 7) (N := some 15) HT_ ?_
 refine takeA (i := 4) (N := some 12) HT_ HW_ hHeld ?_
 refine takeA (i := 8) (N := some 16) HT_ HW_ hHeld ?_
 refine oneA (i := 9) (N := some 17) HT_ (fun K hK => ?_)
 refine goes_ Try.func32 (by kernel_rfl) rfl #[.slice A l.length c, .int .i64 at_, .int .i64 1] (by rfl) rfl rfl (by simp only [List.map_toArray, List.map_cons, List.map_nil]; rfl) ?_
 with_reducible refine (wire_Get.calls A c l at_ 1 s1 s2 s3 _ (Kd.C_below hr (below_drew (Below.refl _ _))) hc HG.out).mono ?_
 rintro e w7 ⟨rfl, hb7⟩
 refine ⟨_, rfl, ?_⟩
 have HB7 := Aside0.mk hb7
 have BX7 := Aside0.mk (blk_below (w := w.drew) HBB.out hb7)
 clear hb7
 refine hK.out _ _ ⟨(blk_cell BX7.out 0).trans rfl, (blk_cell BX7.out 1).trans rfl⟩ (fun hHeld => ?_)
 clear hK K
 refine normA (N := 17) ?_
 refine pureA (i := 10) (N := some 18) HT_ ?_
 refine pureA (i := 11) (N := some 19) HT_ ?_
 refine pureA (i := 12) (N := some 20) HT_ ?_
 refine last_ (i := 13) (N := some 21) #[true, true, true, true, true, true, true, true, true, true, true, true, true, true, false] rfl rfl (one_of HT_.out (by kernel_rfl)) (by decide) (fun K hK => ?_)
 refine goes_ Try.func58 (by kernel_rfl) rfl #[.pointer (some ⟨g, 0, none⟩), .int .i64 s1, .int .i64 s2, .int .i64 s3] (by rfl) rfl rfl (by simp only [List.map_toArray, List.map_cons, List.map_nil]; rfl) ?_
 with_reducible refine (hr_keep g A l.length c at_ s1 s2 s3 _ BX7.out).mono ?_
 rintro e w8 ⟨rfl, hbx, hgr⟩
 refine ⟨_, rfl, ?_⟩
 have BX8 := Aside0.mk hbx
 have HG8 := Aside0.mk hgr
 clear hbx hgr
 refine hK.out _ _ ?_
 clear hK K
 refine normA (N := 21) ?_
 refine pureA (i := 14) (N := some 2) HT_ ?_
 refine done_ (done_of HT_.out (by kernel_rfl)) ?_
 clear HT_ HW_
 go_wp2
 go_ret
 have hgg := HGG.out
 simp only [rd1, rd8, hgg]
 exact ⟨rfl, BX8.out, grown_below (below_step (below_drew (Below.refl _ _)) HB7.out) HG8.out⟩
def hr_eight.T3 : Bool × List (List Nat × List Nat) := (true, [([], []), ([], []), ([1], [1]), ([2], [2]), ([3], [3]), ([], []), ([5], [5]), ([6], [6]), ([7], [7]), ([4, 8], [4, 8]), ([9], [9]), ([9], [9]), ([9], [9]), ([0, 10, 11, 12, 9], [0, 10, 11, 12]), ([13, 13, 0, 1, 2, 3, 4, 5, 6, 7, 8, 9, 10, 11, 12, 13], [13])])
def hr_eight.B3 : List Nat := [0, 0, 2, 6, 14, 0, 32, 96, 224, 510, 1022, 1022, 1022, 8191, 16383]
theorem hr_eight.tab3 : rtab .any (opsOf Try.f55 3) = hr_eight.T3 := by kernel_rfl
theorem hr_eight.bits3 : waitsOk hr_eight.T3.2 hr_eight.B3 = true := by kernel_rfl
theorem hr_eight (g : Nat) (A : Option Addr) (c : Nat) (l : List Int) (at_ e : Int) (w : World) (hB : Bytes l) (hl : l.length ≤ 1000000000000) (hr : Kd.C (Kd.int .u8) w A l.length l) (hc : l.length ≤ c) (hb : w.heap[g]? = some (.cells (RdC A l.length c at_ e) 100 (0, 0))) :
  Calls Try.prog 55 #[.pointer (some ⟨g, 0, none⟩)] w fun x w' => x = .returned (.int .i64 (rd8 l at_ e).1) ∧ w'.heap[g]? = some (.cells (RdC A l.length c (rd8 l at_ e).2.1 (rd8 l at_ e).2.2) 100 (0, 0)) ∧ w.grownBy w' (some g) := by
 have h2 : w.cell? ⟨g, 2, none⟩ = some (.int .i64 e) := (blk_cell hb 2).trans rfl
 have HBB := Aside0.mk hb
 by_cases c0 : e = 0
 case neg =>
  have b0 : (e != 0) = true := bne_iff_ne.mpr c0
  have HN := Aside0.mk c0
  clear hb c0
  go_enter Try.func55, Try.ntmps55
  go_wp2
  go_ret
  simp only [rd1, rd8, rdStep, if_neg HN.out]
  exact ⟨rfl, HBB.out, rfl, rfl, rfl, Nat.le_refl _, fun _ _ _ => rfl⟩
 subst c0
 obtain ⟨s1, s2, s3, hG⟩ : ∃ s1 s2 s3, getIntSpec l at_ = (s1, s2, s3) := ⟨_, _, _, rfl⟩
 have HG := Aside0.mk (show wire_GetInt.f l at_ = some (s1, s2, s3) by rw [wire_GetInt_eq _ _ hB hl, hG])
 have HGG := Aside0.mk hG
 clear hG hb
 go_enter Try.func55, Try.ntmps55
 go_wp2
 clear h2
 refine start_ (n := 15) (S := fun w' => w'.cell? ⟨g, 0, none⟩ = some (.slice A l.length c) ∧ w'.cell? ⟨g, 1, none⟩ = some (.int .i64 at_)) (ds := [13]) #[false, false, false, false, false, false, false, false, false, false, false, false, false, false, false] (by kernel_rfl) rfl rfl ⟨(blk_cell HBB.out 0).trans rfl, (blk_cell HBB.out 1).trans rfl⟩ (fun hHeld => ?_); refine with_tabW hr_eight.tab3 hr_eight.bits3 (fun HT_ HW_ => ?_)
 refine pureA (i := 0) (N := some 8) HT_ ?_
 refine pureA (i := 1) (N := some 9) HT_ ?_
 refine pureA (i := 2) (N := some 10) HT_ ?_
 refine pureA (i := 3) (N := some 11) HT_ ?_
 refine pureA (i := 5) (N := some 13) HT_ ?_
 refine pureA (i := 6) (N := some 14) HT_ ?_
 refine pureA (i := 7) (N := some 15) HT_ ?_
 refine takeA (i := 4) (N := some 12) HT_ HW_ hHeld ?_
 refine takeA (i := 8) (N := some 16) HT_ HW_ hHeld ?_
 refine oneA (i := 9) (N := some 17) HT_ (fun K hK => ?_)
 refine goes_ Try.func49 (by kernel_rfl) rfl #[.slice A l.length c, .int .i64 at_] (by rfl) rfl rfl (by simp only [List.map_toArray, List.map_cons, List.map_nil]; rfl) ?_
 with_reducible refine (wire_GetInt.calls A c l at_ s1 s2 s3 _ (Kd.C_below hr (below_drew (Below.refl _ _))) hc HG.out).mono ?_
 rintro e w7 ⟨rfl, hb7⟩
 refine ⟨_, rfl, ?_⟩
 have HB7 := Aside0.mk hb7
 have BX7 := Aside0.mk (blk_below (w := w.drew) HBB.out hb7)
 clear hb7
 refine hK.out _ _ ⟨(blk_cell BX7.out 0).trans rfl, (blk_cell BX7.out 1).trans rfl⟩ (fun hHeld => ?_)
 clear hK K
 refine normA (N := 17) ?_
 refine pureA (i := 10) (N := some 18) HT_ ?_
 refine pureA (i := 11) (N := some 19) HT_ ?_
 refine pureA (i := 12) (N := some 20) HT_ ?_
 refine last_ (i := 13) (N := some 21) #[true, true, true, true, true, true, true, true, true, true, true, true, true, true, false] rfl rfl (one_of HT_.out (by kernel_rfl)) (by decide) (fun K hK => ?_)
 refine goes_ Try.func58 (by kernel_rfl) rfl #[.pointer (some ⟨g, 0, none⟩), .int .i64 s1, .int .i64 s2, .int .i64 s3] (by rfl) rfl rfl (by simp only [List.map_toArray, List.map_cons, List.map_nil]; rfl) ?_
 with_reducible refine (hr_keep g A l.length c at_ s1 s2 s3 _ BX7.out).mono ?_
 rintro e w8 ⟨rfl, hbx, hgr⟩
 refine ⟨_, rfl, ?_⟩
 have BX8 := Aside0.mk hbx
 have HG8 := Aside0.mk hgr
 clear hbx hgr
 refine hK.out _ _ ?_
 clear hK K
 refine normA (N := 21) ?_
 refine pureA (i := 14) (N := some 2) HT_ ?_
 refine done_ (done_of HT_.out (by kernel_rfl)) ?_
 clear HT_ HW_
 go_wp2
 go_ret
 have hgg := HGG.out
 simp only [rd1, rd8, hgg]
 exact ⟨rfl, BX8.out, grown_below (below_step (below_drew (Below.refl _ _)) HB7.out) HG8.out⟩
theorem hr_oneG (g : Nat) (A : Option Addr) (c : Nat) (l : List Int) (at_ e v at2 e2 : Int) (w : World) (hG : rd1 l 1 at_ e = (v, at2, e2)) (hB : Bytes l) (hl : l.length ≤ 1000000000000) (hr : Kd.C (Kd.int .u8) w A l.length l) (hc : l.length ≤ c) (hb : w.heap[g]? = some (.cells (RdC A l.length c at_ e) 100 (0, 0))) :
  Calls Try.prog 54 #[.pointer (some ⟨g, 0, none⟩)] w fun x w' => x = .returned (.int .i64 v) ∧ w'.heap[g]? = some (.cells (RdC A l.length c at2 e2) 100 (0, 0)) ∧ w.grownBy w' (some g) := by
 have h := hr_one g A c l at_ e w hB hl hr hc hb
 rw [hG] at h
 exact h
theorem hr_eightG (g : Nat) (A : Option Addr) (c : Nat) (l : List Int) (at_ e v at2 e2 : Int) (w : World) (hG : rd8 l at_ e = (v, at2, e2)) (hB : Bytes l) (hl : l.length ≤ 1000000000000) (hr : Kd.C (Kd.int .u8) w A l.length l) (hc : l.length ≤ c) (hb : w.heap[g]? = some (.cells (RdC A l.length c at_ e) 100 (0, 0))) :
  Calls Try.prog 55 #[.pointer (some ⟨g, 0, none⟩)] w fun x w' => x = .returned (.int .i64 v) ∧ w'.heap[g]? = some (.cells (RdC A l.length c at2 e2) 100 (0, 0)) ∧ w.grownBy w' (some g) := by
 have h := hr_eight g A c l at_ e w hB hl hr hc hb
 rw [hG] at h
 exact h
end Go.Proofs.Ytfigbjjaffkidaa.P
namespace Go.Proofs.Ytfigbjjaffkidaa.P
open Go.RowKit YtfigbjjaffkidaaW.PrintWords YtfigbjjaffkidaaW.PrintLast YtfigbjjaffkidaaW.PrintMore
def RH (n : Bool) (a b c d e : Int) : Prop := (0 ≤ e ∧ e < 64) ∧ ((n = true ∧ a = 0 ∧ b = 0 ∧ c = 0 ∧ d = 0) ∨ (n = false ∧ 0 ≤ a ∧ a ≤ 4611686018427387903 ∧ 0 ≤ b ∧ b < 64 ∧ 0 ≤ c ∧ c ≤ 1 ∧ -1099511627776 ≤ d ∧ d ≤ 1099511627776))
instance (n : Bool) (a b c d e : Int) : Decidable (RH n a b c d e) := by unfold RH; infer_instance
theorem hj_eq (k : Nat) (n x : Bool) (a b c d e : Int) : height_Check.j0 (k + 1) x n a b c d e = some (if x = true ∧ ((n = true ∧ a = 0 ∧ b = 0 ∧ c = 0 ∧ d = 0) ∨ (n = false ∧ 0 ≤ a ∧ a ≤ 4611686018427387903 ∧ 0 ≤ b ∧ b < 64 ∧ 0 ≤ c ∧ c ≤ 1 ∧ -1099511627776 ≤ d ∧ d ≤ 1099511627776)) then 0 else 1) := by
 simp only [height_Check.j0, height_Null.f, Option.bind_some]
 cases n <;> cases x <;> simp only [Bool.true_and, beq_self_eq_true, Bool.and_true, Bool.and_eq_true, beq_iff_eq, if_true, Bool.false_eq_true, if_false, true_and, false_and, or_false, false_or, Bool.true_eq_false, reduceCtorEq]
 ·repeat' split
  all_goals first
   | rfl
   | (exfalso; omega)
 ·by_cases h : a = 0 ∧ b = 0 ∧ c = 0 ∧ d = 0
  ·rw [if_pos h, if_pos h]
  ·rw [if_neg h, if_neg h]
theorem hc_eq (n : Bool) (a b c d e : Int) : Ev (fun k => height_Check.f k n a b c d e) (if RH n a b c d e then 0 else 1) := by
 unfold height_Check.f
 refine Ev.from 1 fun k => ?_
 rw [hj_eq, hj_eq]
 unfold RH
 by_cases h : e ≥ 0
 ·rw [if_pos h]
  congr 1
  have h0 : 0 ≤ e := h
  simp only [decide_eq_true_eq, h0, true_and]
 ·rw [if_neg h]
  have : ¬ 0 ≤ e := h
  simp only [this, false_and, Bool.false_eq_true]
theorem ha_eq (a b c d e : Int) : ∃ t : Bool × Int × Int × Int × Int × Int × Int, Ev (fun k => height_At.f k a b c d e) t ∧ t.2.2.2.2.2.2 = (if RH false a b c d e then 0 else 1) := by
 unfold height_At.f
 by_cases h : RH false a b c d e
 ·have := hc_eq false a b c d e
  rw [if_pos h] at this
  rw [if_pos h]
  exact ⟨(false, a, b, c, d, e, 0), Ev.bind this (by simp only [if_true]; exact Ev.now _), rfl⟩
 ·have := hc_eq false a b c d e
  rw [if_neg h] at this
  rw [if_neg h]
  exact ⟨(false, 0, 0, 0, 0, 0, 1), Ev.bind this (by simp only [if_neg (show ¬ (1 : Int) = 0 by decide)]; exact Ev.now _), rfl⟩
theorem ev_eq {α : Type} {g : Nat → Option α} {a b : α} (h : Ev g a) (e : a = b) : Ev g b := e ▸ h
end Go.Proofs.Ytfigbjjaffkidaa.P
namespace Go.Proofs.Ytfigbjjaffkidaa.P
open Go.RowKit YtfigbjjaffkidaaW.PrintWords YtfigbjjaffkidaaW.PrintLast YtfigbjjaffkidaaW.PrintMore
attribute [local go_sem] max2_int min2_int max_two min_two max_three min_three max_four min_four
abbrev HP := Bool × Int × Int × Int × Int × Int × Int × Int
def hpNo (e : Int) : HP := (false, 0, 0, 0, 0, 0, 0, e)
def hpFin (n : Bool) (a b c d : Int) (i : Int × Int × Int) : HP :=
 if i.2.2 = 0 then (if RH n a b c d i.1 then (n, a, b, c, d, i.1, i.2.1, 0) else hpNo 4) else hpNo i.2.2
def hpErr (k e : Int) : Int := if e = 0 then (if 1 < k then 4 else 0) else e
def hpGo (l : List Int) (a : Int) : HP :=
 if (rd1 l 1 a 0).1 = 0 then hpFin true 0 0 0 0 (rd1 l 1 (rd1 l 1 a 0).2.1 (hpErr (rd1 l 1 a 0).1 (rd1 l 1 a 0).2.2))
 else
  let t := rd8 l (rd1 l 1 a 0).2.1 (hpErr (rd1 l 1 a 0).1 (rd1 l 1 a 0).2.2)
  let o := rd1 l 1 t.2.1 t.2.2
  let r := rd1 l 1 o.2.1 o.2.2
  let d := rd8 l r.2.1 r.2.2
  hpFin false t.1 o.1 r.1 d.1 (rd1 l 1 d.2.1 d.2.2)
def height_Parse.f (l : List Int) (a : Int) : Option HP := if l.length ≤ 1000000000000 ∧ ∀ x ∈ l, 0 ≤ x ∧ x ≤ 255 then some (hpGo l a) else none
structure HpSt (w0 w : World) (A : Option Addr) (n c g4 g9 gr : Nat) (at_ e : Int) (cs : Array Value) : Prop where
 b4 : w.heap[g4]? = some (.cells #[.bool false, .int .i64 0, .int .i64 0, .int .i64 0, .int .i64 0, .int .i64 0] 41 (0, 0))
 b9 : w.heap[g9]? = some (.cells cs 41 (0, 0))
 br : w.heap[gr]? = some (.cells (RdC A n c at_ e) 100 (0, 0))
 bl : Below w0.heap.size w0 w
 n4 : w0.heap.size ≤ g4
 n9 : w0.heap.size ≤ g9
 nr : w0.heap.size ≤ gr
 d49 : g4 ≠ g9
theorem HpSt.step {w0 w w' : World} {A : Option Addr} {n c g4 g9 gr : Nat} {at_ e : Int} {cs : Array Value} (h : HpSt w0 w A n c g4 g9 gr at_ e cs) {at2 e2 : Int} (hb : w'.heap[gr]? = some (.cells (RdC A n c at2 e2) 100 (0, 0))) (hg : w.grownBy w' (some gr)) : HpSt w0 w' A n c g4 g9 gr at2 e2 cs :=
 ⟨blk_grown h.b4 hg (fun e => blk_ne h.b4 h.br (by decide) (Option.some.inj e)), blk_grown h.b9 hg (fun e => blk_ne h.b9 h.br (by decide) (Option.some.inj e)), hb, pw_below_grown h.bl (some gr) (below_size h.bl) hg (fun k e => by cases e; exact h.nr), h.n4, h.n9, h.nr, h.d49⟩
theorem HpSt.below {w0 w w' : World} {A : Option Addr} {n c g4 g9 gr : Nat} {at_ e : Int} {cs : Array Value} (h : HpSt w0 w A n c g4 g9 gr at_ e cs) (hb : Below w.heap.size w w') : HpSt w0 w' A n c g4 g9 gr at_ e cs :=
 ⟨blk_below h.b4 hb, blk_below h.b9 hb, blk_below h.br hb, below_step h.bl hb, h.n4, h.n9, h.nr, h.d49⟩
theorem HpSt.put {w0 w : World} {A : Option Addr} {n c g4 g9 gr : Nat} {at_ e : Int} {cs cs2 : Array Value} (h : HpSt w0 w A n c g4 g9 gr at_ e cs) (i : Nat) (u : Value) (hs : cs.setIfInBounds i u = cs2) : HpSt w0 (w.setCell ⟨g9, i, none⟩ u) A n c g4 g9 gr at_ e cs2 :=
 ⟨blk_far h.b4 h.d49 _, blk_put h.b9 i _ hs, blk_far h.br (blk_ne h.br h.b9 (by decide)) _, below_set h.bl h.n9, h.n4, h.n9, h.nr, h.d49⟩
theorem HpSt.err {w0 w : World} {A : Option Addr} {n c g4 g9 gr : Nat} {at_ e : Int} {cs : Array Value} (h : HpSt w0 w A n c g4 g9 gr at_ e cs) (e2 : Int) : HpSt w0 (w.setCell ⟨gr, 2, none⟩ (.int .i64 e2)) A n c g4 g9 gr at_ e2 cs :=
 ⟨blk_far h.b4 (blk_ne h.b4 h.br (by decide)) _, blk_far h.b9 (blk_ne h.b9 h.br (by decide)) _, blk_put h.br 2 _ rfl, below_set h.bl h.nr, h.n4, h.n9, h.nr, h.d49⟩
theorem HpSt.drew {w0 w : World} {A : Option Addr} {n c g4 g9 gr : Nat} {at_ e : Int} {cs : Array Value} (h : HpSt w0 w A n c g4 g9 gr at_ e cs) : HpSt w0 w.drew A n c g4 g9 gr at_ e cs :=
 ⟨h.b4, h.b9, h.br, below_drew h.bl, h.n4, h.n9, h.nr, h.d49⟩
def height_Parse.T12 : Bool × List (List Nat × List Nat) := (true, [([], []), ([], []), ([1], [1]), ([2], [2]), ([3], [3]), ([0, 0], [0]), ([5, 0, 5], []), ([4, 6, 0, 1, 2, 3, 4, 5, 6], [4])])
def height_Parse.B12 : List Nat := [0, 0, 2, 6, 14, 1, 33, 127]
theorem height_Parse.tab12 : rtab .any (opsOf Try.f50 12) = height_Parse.T12 := by kernel_rfl
theorem height_Parse.bits12 : waitsOk height_Parse.T12.2 height_Parse.B12 = true := by kernel_rfl
def height_Parse.T13 : Bool × List (List Nat × List Nat) := (true, [([], []), ([], []), ([1], [1]), ([2], [2]), ([3], [3]), ([0, 0], [0]), ([4, 5, 0, 1, 2, 3, 4, 5], [4]), ([6, 0, 1, 2, 3, 4, 5, 6], [])])
def height_Parse.B13 : List Nat := [0, 0, 2, 6, 14, 1, 63, 127]
theorem height_Parse.tab13 : rtab .any (opsOf Try.f50 13) = height_Parse.T13 := by kernel_rfl
theorem height_Parse.bits13 : waitsOk height_Parse.T13.2 height_Parse.B13 = true := by kernel_rfl
theorem hp_bad (A0 : Option Addr) (c0 : Nat) (l0 : List Int) (a1 : Int) (w : World) (k p1 e1 i pi ei : Int) (HL : l0.length ≤ 1000000000000) (HY : Bytes l0) (HR0 : Kd.C (Kd.int .u8) w A0 l0.length l0) (HC0 : l0.length ≤ c0) (HG1 : rd1 l0 1 a1 0 = (k, p1, e1)) (hk : k = 0) (he : ¬ e1 = 0) (HGi : rd1 l0 1 p1 e1 = (i, pi, ei)) (hf : ¬ ei = 0) :
  Calls Try.prog 50 #[.slice A0 l0.length c0, .int .i64 a1] w fun e w' => e = .returned (.tuple #[.agg #[.bool false, .int .i64 0, .int .i64 0, .int .i64 0, .int .i64 0, .int .i64 0], .int .i64 0, .int .i64 ei]) ∧ Below w.heap.size w w' := by
 have hu23 := Try.underlying41
 have hu67 := Try.underlying100
 replace HL := Aside0.mk HL
 replace HY := Aside0.mk HY
 replace HR0 := Aside0.mk HR0
 replace HC0 := Aside0.mk HC0
 replace HG1 := Aside0.mk HG1
 replace HGi := Aside0.mk HGi
 subst hk
 have b1 : (e1 == 0) = false := beq_eq_false_iff_ne.mpr he
 clear he
 have b4 : (ei == 0) = false := beq_eq_false_iff_ne.mpr hf
 have b5 : (ei != 0) = true := bne_iff_ne.mpr hf
 clear hf
 go_enter Try.func50, Try.ntmps50
 go_upto_region 4 with (first
  | ((with_reducible refine gate_dst (N := 4) rfl ?_); refine box_event ?hg (N := 4) ?hd (cs := #[.bool false, .int .i64 0, .int .i64 0, .int .i64 0, .int .i64 0, .int .i64 0]) (t := 41) ?hr ?_; (case hd => rfl); (case hg => rfl); (case hr => first | (go_simp; done) | (go_simp; rfl)); intro g4 hg w4 hbox hb; have HB4 := Aside0.mk hb; have G4 := Aside0.mk (Nat.le_of_eq hg.symm); have B4 := Aside0.mk hbox; clear hb hbox hg)
  | ((with_reducible refine gate_dst (N := 13) rfl ?_); refine box_event ?hg (N := 13) ?hd (cs := RdC A0 l0.length c0 a1 0) (t := 100) ?hr ?_; (case hd => rfl); (case hg => rfl); (case hr => first | (go_simp; done) | (go_simp; rfl)); intro gr hg w5 hbox hb; have HB5 := Aside0.mk (below_step HB4.out hb); have GR := Aside0.mk (show w.heap.size ≤ gr by rw [hg]; exact below_size HB4.out); have B45 := Aside0.mk (blk_below B4.out hb); have BR := Aside0.mk hbox; clear hb hbox hg HB4 B4)
  | ((with_reducible refine gate_dst (N := 15) rfl ?_); refine goesA (some 15) Try.func54 #[.pointer (some ⟨gr, 0, none⟩)] ?_; (with_reducible refine (hr_oneG gr A0 c0 l0 a1 0 _ _ _ _ HG1.out HY.out HL.out (Kd.C_below HR0.out HB5.out) HC0.out BR.out).mono ?_); rintro x_ w6 ⟨rfl, hbx, hgr⟩; refine ⟨_, rfl, ?_⟩; have HB6 := Aside0.mk (pw_below_grown HB5.out (some gr) (below_size HB5.out) hgr (fun k_ e_ => by cases e_; exact GR.out)); have B46 := Aside0.mk (blk_grown B45.out hgr (fun e_ => blk_ne B45.out BR.out (by decide) (Option.some.inj e_))); have BR6 := Aside0.mk hbx; clear hbx hgr HB5 B45 BR)
  | ((with_reducible refine gate_dst (N := 9) rfl ?_); refine box_event ?hg (N := 9) ?hd (cs := #[.bool false, .int .i64 0, .int .i64 0, .int .i64 0, .int .i64 0, .int .i64 0]) (t := 41) ?hr ?_; (case hd => rfl); (case hg => rfl); (case hr => first | (go_simp; done) | (go_simp; rfl)); intro g9 hg w7 hbox hb; have ST0 := Aside0.mk (HpSt.mk (blk_below B46.out hb) hbox (blk_below BR6.out hb) (below_step HB6.out hb) G4.out (by rw [hg]; exact below_size HB6.out) GR.out (by rw [hg]; exact Nat.ne_of_lt (blk_lt B46.out))); clear hb hbox hg; obtain ⟨⟨u0, u1, u2, u3, u4, u5⟩, uf0, uf1, uf2, uf3, uf4, uf5⟩ := cells6 ST0.out.b9))
 have ST := Aside0.mk (show HpSt w ((((((w7.setCell ⟨g9, 0, none⟩ (.bool true)).setCell ⟨g9, 1, none⟩ (.int .i64 0)).setCell ⟨g9, 2, none⟩ (.int .i64 0)).setCell ⟨g9, 3, none⟩ (.int .i64 0)).setCell ⟨g9, 4, none⟩ (.int .i64 0)).setCell ⟨g9, 5, none⟩ (.int .i64 0)) A0 l0.length c0 g4 g9 gr p1 e1 #[.bool true, .int .i64 0, .int .i64 0, .int .i64 0, .int .i64 0, .int .i64 0] from (HpSt.put (HpSt.put (HpSt.put (HpSt.put (HpSt.put (HpSt.put ST0.out 0 (.bool true) rfl) 1 (.int .i64 0) rfl) 2 (.int .i64 0) rfl) 3 (.int .i64 0) rfl) 4 (.int .i64 0) rfl) 5 (.int .i64 0) rfl))
 generalize ((((((w7.setCell ⟨g9, 0, none⟩ (.bool true)).setCell ⟨g9, 1, none⟩ (.int .i64 0)).setCell ⟨g9, 2, none⟩ (.int .i64 0)).setCell ⟨g9, 3, none⟩ (.int .i64 0)).setCell ⟨g9, 4, none⟩ (.int .i64 0)).setCell ⟨g9, 5, none⟩ (.int .i64 0)) = wq at ST ⊢
 clear ST0 u0 uf0 u1 uf1 u2 uf2 u3 uf3 u4 uf4 u5 uf5
 obtain ⟨⟨v0, v1, v2⟩, vf0, vf1, vf2⟩ := cells3 ST.out.br
 obtain ⟨⟨y0, y1, y2, y3, y4, y5⟩, yf0, yf1, yf2, yf3, yf4, yf5⟩ := cells6 ST.out.b9
 go_upto_region 9 with (first
  | ((with_reducible refine gate_dst (N := 47) rfl ?_); refine goesA (some 47) Try.func54 #[.pointer (some ⟨gr, 0, none⟩)] ?_; (with_reducible refine (hr_oneG gr A0 c0 l0 p1 e1 _ _ _ _ HGi.out HY.out HL.out (Kd.C_below HR0.out ST.out.bl) HC0.out ST.out.br).mono ?_); rintro x_ w47 ⟨rfl, hbx, hgr⟩; refine ⟨_, rfl, ?_⟩; have STn := Aside0.mk (ST.out.step hbx hgr); clear ST hbx hgr; have ST := STn; clear STn; obtain ⟨⟨x0, x1, x2, x3, x4, x5⟩, xf0, xf1, xf2, xf3, xf4, xf5⟩ := cells6 ST.out.b9))
 have STn := Aside0.mk (HpSt.put ST.out 5 (.int .i64 i) (cs2 := #[.bool true, .int .i64 0, .int .i64 0, .int .i64 0, .int .i64 0, .int .i64 i]) rfl)
 clear ST
 have ST := STn
 clear STn x0 xf0 x1 xf1 x2 xf2 x3 xf3 x4 xf4 x5 xf5
 clear v0 vf0 v1 vf1 v2 vf2
 clear y0 yf0 y1 yf1 y2 yf2 y3 yf3 y4 yf4 y5 yf5
 generalize (w47.setCell ⟨g9, 5, none⟩ (.int .i64 i)) = wr at ST ⊢
 obtain ⟨⟨v0, v1, v2⟩, vf0, vf1, vf2⟩ := cells3 ST.out.br
 obtain ⟨⟨y0, y1, y2, y3, y4, y5⟩, yf0, yf1, yf2, yf3, yf4, yf5⟩ := cells6 ST.out.b9
 go_upto_region 12 with (fail)
 have STd := Aside0.mk (HpSt.drew ST.out)
 clear ST
 have ST := STd
 clear STd
 refine start_ (n := 8) (S := fun w' => w'.cell? ⟨gr, 2, none⟩ = some (.int .i64 ei)) (ds := []) #[false, false, false, false, false, false, false, false] (by kernel_rfl) rfl rfl ((blk_cell ST.out.br 2).trans rfl) (fun hHeld => ?_); refine with_tabW height_Parse.tab12 height_Parse.bits12 (fun HT_ HW_ => ?_)
 generalize wr.drew = wd at ST hHeld ⊢
 obtain ⟨⟨o0, o1, o2, o3, o4, o5⟩, of0, of1, of2, of3, of4, of5⟩ := cells6 ST.out.b4
 have n94 : g9 ≠ g4 := ST.out.d49.symm
 have nr4 : gr ≠ g4 := (blk_ne ST.out.br ST.out.b4 (by decide))
 refine pureA (i := 0) (N := some 67) HT_ ?_
 refine pureA (i := 1) (N := some 68) HT_ ?_
 refine pureA (i := 2) (N := some 69) HT_ ?_
 refine pureA (i := 3) (N := some 70) HT_ ?_
 refine takeA (i := 4) (N := some 71) HT_ HW_ hHeld ?_
 refine oneA (i := 5) (N := none) HT_ (fun K hK => ?_)
 refine skip_ (w1 := ?_) (by rfl) rfl ?_ ?_
 rotate_left
 ·go_simp
  rfl
 refine hK.out _ _ ?_ (fun hHeld2 => ?_)
 ·(repeat (first | refine (cell_far n94 _).trans ?_ | refine (cell_far nr4 _).trans ?_)); exact hHeld
 clear hHeld
 have hHeld := hHeld2
 clear hHeld2
 clear hK K
 refine pureA (i := 6) (N := some 5) HT_ ?_
 refine pureA (i := 7) (N := some 6) HT_ ?_
 refine done_ (done_of HT_.out (by kernel_rfl)) ?_
 clear HT_ HW_
 try go_wp2
 refine bodyPost_ret (results_ctt rfl _ _ g4 41 #[.bool false, .int .i64 0, .int .i64 0, .int .i64 0, .int .i64 0, .int .i64 0] (0, 0) _ rfl (blk_put (blk_put (blk_put (blk_put (blk_put (blk_put ST.out.b4 0 (.bool false) rfl) 1 (.int .i64 0) rfl) 2 (.int .i64 0) rfl) 3 (.int .i64 0) rfl) 4 (.int .i64 0) rfl) 5 (.int .i64 0) (cs' := #[.bool false, .int .i64 0, .int .i64 0, .int .i64 0, .int .i64 0, .int .i64 0]) rfl) Try.underlying41 rfl (by kernel_rfl)) rfl ?_
 exact ⟨rfl, (below_set (below_set (below_set (below_set (below_set (below_set ST.out.bl ST.out.n4) ST.out.n4) ST.out.n4) ST.out.n4) ST.out.n4) ST.out.n4)⟩
theorem hp_gt (A0 : Option Addr) (c0 : Nat) (l0 : List Int) (a1 : Int) (w : World) (k p1 e1 t pt et o po eo r pr er d pd ed i pi ei : Int) (HL : l0.length ≤ 1000000000000) (HY : Bytes l0) (HR0 : Kd.C (Kd.int .u8) w A0 l0.length l0) (HC0 : l0.length ≤ c0) (HG1 : rd1 l0 1 a1 0 = (k, p1, e1)) (he : e1 = 0) (hk : ¬ k = 0) (hg : 1 < k) (HGt : rd8 l0 p1 4 = (t, pt, et)) (HGo : rd1 l0 1 pt et = (o, po, eo)) (HGr : rd1 l0 1 po eo = (r, pr, er)) (HGd : rd8 l0 pr er = (d, pd, ed)) (HGi : rd1 l0 1 pd ed = (i, pi, ei)) (hf : ¬ ei = 0) :
  Calls Try.prog 50 #[.slice A0 l0.length c0, .int .i64 a1] w fun e w' => e = .returned (.tuple #[.agg #[.bool false, .int .i64 0, .int .i64 0, .int .i64 0, .int .i64 0, .int .i64 0], .int .i64 0, .int .i64 ei]) ∧ Below w.heap.size w w' := by
 have hu23 := Try.underlying41
 have hu67 := Try.underlying100
 replace HL := Aside0.mk HL
 replace HY := Aside0.mk HY
 replace HR0 := Aside0.mk HR0
 replace HC0 := Aside0.mk HC0
 replace HG1 := Aside0.mk HG1
 replace HGt := Aside0.mk HGt
 replace HGo := Aside0.mk HGo
 replace HGr := Aside0.mk HGr
 replace HGd := Aside0.mk HGd
 replace HGi := Aside0.mk HGi
 subst he
 have b2 : (k == 0) = false := beq_eq_false_iff_ne.mpr hk
 have b3 : decide (1 < k) = true := decide_eq_true hg
 clear hk hg
 have b4 : (ei == 0) = false := beq_eq_false_iff_ne.mpr hf
 have b5 : (ei != 0) = true := bne_iff_ne.mpr hf
 clear hf
 go_enter Try.func50, Try.ntmps50
 go_upto_region 4 with (first
  | ((with_reducible refine gate_dst (N := 4) rfl ?_); refine box_event ?hg (N := 4) ?hd (cs := #[.bool false, .int .i64 0, .int .i64 0, .int .i64 0, .int .i64 0, .int .i64 0]) (t := 41) ?hr ?_; (case hd => rfl); (case hg => rfl); (case hr => first | (go_simp; done) | (go_simp; rfl)); intro g4 hg w4 hbox hb; have HB4 := Aside0.mk hb; have G4 := Aside0.mk (Nat.le_of_eq hg.symm); have B4 := Aside0.mk hbox; clear hb hbox hg)
  | ((with_reducible refine gate_dst (N := 13) rfl ?_); refine box_event ?hg (N := 13) ?hd (cs := RdC A0 l0.length c0 a1 0) (t := 100) ?hr ?_; (case hd => rfl); (case hg => rfl); (case hr => first | (go_simp; done) | (go_simp; rfl)); intro gr hg w5 hbox hb; have HB5 := Aside0.mk (below_step HB4.out hb); have GR := Aside0.mk (show w.heap.size ≤ gr by rw [hg]; exact below_size HB4.out); have B45 := Aside0.mk (blk_below B4.out hb); have BR := Aside0.mk hbox; clear hb hbox hg HB4 B4)
  | ((with_reducible refine gate_dst (N := 15) rfl ?_); refine goesA (some 15) Try.func54 #[.pointer (some ⟨gr, 0, none⟩)] ?_; (with_reducible refine (hr_oneG gr A0 c0 l0 a1 0 _ _ _ _ HG1.out HY.out HL.out (Kd.C_below HR0.out HB5.out) HC0.out BR.out).mono ?_); rintro x_ w6 ⟨rfl, hbx, hgr⟩; refine ⟨_, rfl, ?_⟩; have HB6 := Aside0.mk (pw_below_grown HB5.out (some gr) (below_size HB5.out) hgr (fun k_ e_ => by cases e_; exact GR.out)); have B46 := Aside0.mk (blk_grown B45.out hgr (fun e_ => blk_ne B45.out BR.out (by decide) (Option.some.inj e_))); have BR6 := Aside0.mk hbx; clear hbx hgr HB5 B45 BR)
  | ((with_reducible refine gate_dst (N := 9) rfl ?_); refine box_event ?hg (N := 9) ?hd (cs := #[.bool false, .int .i64 0, .int .i64 0, .int .i64 0, .int .i64 0, .int .i64 0]) (t := 41) ?hr ?_; (case hd => rfl); (case hg => rfl); (case hr => first | (go_simp; done) | (go_simp; rfl)); intro g9 hg w7 hbox hb; have ST0 := Aside0.mk (HpSt.mk (blk_below B46.out hb) hbox (blk_below BR6.out hb) (below_step HB6.out hb) G4.out (by rw [hg]; exact below_size HB6.out) GR.out (by rw [hg]; exact Nat.ne_of_lt (blk_lt B46.out))); clear hb hbox hg; obtain ⟨⟨u0, u1, u2, u3, u4, u5⟩, uf0, uf1, uf2, uf3, uf4, uf5⟩ := cells6 ST0.out.b9))
 have ST := Aside0.mk (show HpSt w ((((((w7.setCell ⟨g9, 0, none⟩ (.bool false)).setCell ⟨g9, 1, none⟩ (.int .i64 0)).setCell ⟨g9, 2, none⟩ (.int .i64 0)).setCell ⟨g9, 3, none⟩ (.int .i64 0)).setCell ⟨g9, 4, none⟩ (.int .i64 0)).setCell ⟨g9, 5, none⟩ (.int .i64 0)) A0 l0.length c0 g4 g9 gr p1 0 #[.bool false, .int .i64 0, .int .i64 0, .int .i64 0, .int .i64 0, .int .i64 0] from (HpSt.put (HpSt.put (HpSt.put (HpSt.put (HpSt.put (HpSt.put ST0.out 0 (.bool false) rfl) 1 (.int .i64 0) rfl) 2 (.int .i64 0) rfl) 3 (.int .i64 0) rfl) 4 (.int .i64 0) rfl) 5 (.int .i64 0) rfl))
 generalize ((((((w7.setCell ⟨g9, 0, none⟩ (.bool false)).setCell ⟨g9, 1, none⟩ (.int .i64 0)).setCell ⟨g9, 2, none⟩ (.int .i64 0)).setCell ⟨g9, 3, none⟩ (.int .i64 0)).setCell ⟨g9, 4, none⟩ (.int .i64 0)).setCell ⟨g9, 5, none⟩ (.int .i64 0)) = wq at ST ⊢
 clear ST0 u0 uf0 u1 uf1 u2 uf2 u3 uf3 u4 uf4 u5 uf5
 obtain ⟨⟨v0, v1, v2⟩, vf0, vf1, vf2⟩ := cells3 ST.out.br
 obtain ⟨⟨y0, y1, y2, y3, y4, y5⟩, yf0, yf1, yf2, yf3, yf4, yf5⟩ := cells6 ST.out.b9
 go_upto_region 6 with (fail)
 have STn := Aside0.mk (HpSt.err ST.out 4)
 clear ST
 have ST := STn
 clear STn
 clear v0 vf0 v1 vf1 v2 vf2 y0 yf0 y1 yf1 y2 yf2 y3 yf3 y4 yf4 y5 yf5
 generalize (wq.setCell ⟨gr, 2, none⟩ (.int .i64 4)) = wp at ST ⊢
 obtain ⟨⟨y0, y1, y2, y3, y4, y5⟩, yf0, yf1, yf2, yf3, yf4, yf5⟩ := cells6 ST.out.b9
 go_upto_region 9 with (first
  | ((with_reducible refine gate_dst (N := 35) rfl ?_); refine goesA (some 35) Try.func55 #[.pointer (some ⟨gr, 0, none⟩)] ?_; (with_reducible refine (hr_eightG gr A0 c0 l0 p1 4 _ _ _ _ HGt.out HY.out HL.out (Kd.C_below HR0.out ST.out.bl) HC0.out ST.out.br).mono ?_); rintro x_ w35 ⟨rfl, hbx, hgr⟩; refine ⟨_, rfl, ?_⟩; have STn := Aside0.mk (ST.out.step hbx hgr); clear ST hbx hgr; have ST := STn; clear STn)
  | ((with_reducible refine gate_dst (N := 37) rfl ?_); refine goesA (some 37) Try.func54 #[.pointer (some ⟨gr, 0, none⟩)] ?_; (with_reducible refine (hr_oneG gr A0 c0 l0 pt et _ _ _ _ HGo.out HY.out HL.out (Kd.C_below HR0.out ST.out.bl) HC0.out ST.out.br).mono ?_); rintro x_ w37 ⟨rfl, hbx, hgr⟩; refine ⟨_, rfl, ?_⟩; have STn := Aside0.mk (ST.out.step hbx hgr); clear ST hbx hgr; have ST := STn; clear STn)
  | ((with_reducible refine gate_dst (N := 39) rfl ?_); refine goesA (some 39) Try.func54 #[.pointer (some ⟨gr, 0, none⟩)] ?_; (with_reducible refine (hr_oneG gr A0 c0 l0 po eo _ _ _ _ HGr.out HY.out HL.out (Kd.C_below HR0.out ST.out.bl) HC0.out ST.out.br).mono ?_); rintro x_ w39 ⟨rfl, hbx, hgr⟩; refine ⟨_, rfl, ?_⟩; have STn := Aside0.mk (ST.out.step hbx hgr); clear ST hbx hgr; have ST := STn; clear STn)
  | ((with_reducible refine gate_dst (N := 41) rfl ?_); refine goesA (some 41) Try.func55 #[.pointer (some ⟨gr, 0, none⟩)] ?_; (with_reducible refine (hr_eightG gr A0 c0 l0 pr er _ _ _ _ HGd.out HY.out HL.out (Kd.C_below HR0.out ST.out.bl) HC0.out ST.out.br).mono ?_); rintro x_ w41 ⟨rfl, hbx, hgr⟩; refine ⟨_, rfl, ?_⟩; have STn := Aside0.mk (ST.out.step hbx hgr); clear ST hbx hgr; have ST := STn; clear STn; obtain ⟨⟨z0, z1, z2, z3, z4, z5⟩, zf0, zf1, zf2, zf3, zf4, zf5⟩ := cells6 ST.out.b9)
  | ((with_reducible refine gate_dst (N := 47) rfl ?_); clear z0 zf0 z1 zf1 z2 zf2 z3 zf3 z4 zf4 z5 zf5; have STp := Aside0.mk (HpSt.put (HpSt.put (HpSt.put (HpSt.put ST.out 1 (.int .i64 t) rfl) 2 (.int .i64 o) rfl) 3 (.int .i64 r) rfl) 4 (.int .i64 d) rfl); clear ST; have ST := STp; clear STp; refine goesA (some 47) Try.func54 #[.pointer (some ⟨gr, 0, none⟩)] ?_; (with_reducible refine (hr_oneG gr A0 c0 l0 pd ed _ _ _ _ HGi.out HY.out HL.out (Kd.C_below HR0.out ST.out.bl) HC0.out ST.out.br).mono ?_); rintro x_ w47 ⟨rfl, hbx, hgr⟩; refine ⟨_, rfl, ?_⟩; have STn := Aside0.mk (ST.out.step hbx hgr); clear ST hbx hgr; have ST := STn; clear STn; obtain ⟨⟨x0, x1, x2, x3, x4, x5⟩, xf0, xf1, xf2, xf3, xf4, xf5⟩ := cells6 ST.out.b9))
 have STn := Aside0.mk (HpSt.put ST.out 5 (.int .i64 i) (cs2 := #[.bool false, .int .i64 t, .int .i64 o, .int .i64 r, .int .i64 d, .int .i64 i]) rfl)
 clear ST
 have ST := STn
 clear STn x0 xf0 x1 xf1 x2 xf2 x3 xf3 x4 xf4 x5 xf5
 clear y0 yf0 y1 yf1 y2 yf2 y3 yf3 y4 yf4 y5 yf5
 generalize (w47.setCell ⟨g9, 5, none⟩ (.int .i64 i)) = wr at ST ⊢
 obtain ⟨⟨v0, v1, v2⟩, vf0, vf1, vf2⟩ := cells3 ST.out.br
 obtain ⟨⟨y0, y1, y2, y3, y4, y5⟩, yf0, yf1, yf2, yf3, yf4, yf5⟩ := cells6 ST.out.b9
 go_upto_region 12 with (fail)
 have STd := Aside0.mk (HpSt.drew ST.out)
 clear ST
 have ST := STd
 clear STd
 refine start_ (n := 8) (S := fun w' => w'.cell? ⟨gr, 2, none⟩ = some (.int .i64 ei)) (ds := []) #[false, false, false, false, false, false, false, false] (by kernel_rfl) rfl rfl ((blk_cell ST.out.br 2).trans rfl) (fun hHeld => ?_); refine with_tabW height_Parse.tab12 height_Parse.bits12 (fun HT_ HW_ => ?_)
 generalize wr.drew = wd at ST hHeld ⊢
 obtain ⟨⟨o0, o1, o2, o3, o4, o5⟩, of0, of1, of2, of3, of4, of5⟩ := cells6 ST.out.b4
 have n94 : g9 ≠ g4 := ST.out.d49.symm
 have nr4 : gr ≠ g4 := (blk_ne ST.out.br ST.out.b4 (by decide))
 refine pureA (i := 0) (N := some 67) HT_ ?_
 refine pureA (i := 1) (N := some 68) HT_ ?_
 refine pureA (i := 2) (N := some 69) HT_ ?_
 refine pureA (i := 3) (N := some 70) HT_ ?_
 refine takeA (i := 4) (N := some 71) HT_ HW_ hHeld ?_
 refine oneA (i := 5) (N := none) HT_ (fun K hK => ?_)
 refine skip_ (w1 := ?_) (by rfl) rfl ?_ ?_
 rotate_left
 ·go_simp
  rfl
 refine hK.out _ _ ?_ (fun hHeld2 => ?_)
 ·(repeat (first | refine (cell_far n94 _).trans ?_ | refine (cell_far nr4 _).trans ?_)); exact hHeld
 clear hHeld
 have hHeld := hHeld2
 clear hHeld2
 clear hK K
 refine pureA (i := 6) (N := some 5) HT_ ?_
 refine pureA (i := 7) (N := some 6) HT_ ?_
 refine done_ (done_of HT_.out (by kernel_rfl)) ?_
 clear HT_ HW_
 try go_wp2
 refine bodyPost_ret (results_ctt rfl _ _ g4 41 #[.bool false, .int .i64 0, .int .i64 0, .int .i64 0, .int .i64 0, .int .i64 0] (0, 0) _ rfl (blk_put (blk_put (blk_put (blk_put (blk_put (blk_put ST.out.b4 0 (.bool false) rfl) 1 (.int .i64 0) rfl) 2 (.int .i64 0) rfl) 3 (.int .i64 0) rfl) 4 (.int .i64 0) rfl) 5 (.int .i64 0) (cs' := #[.bool false, .int .i64 0, .int .i64 0, .int .i64 0, .int .i64 0, .int .i64 0]) rfl) Try.underlying41 rfl (by kernel_rfl)) rfl ?_
 exact ⟨rfl, (below_set (below_set (below_set (below_set (below_set (below_set ST.out.bl ST.out.n4) ST.out.n4) ST.out.n4) ST.out.n4) ST.out.n4) ST.out.n4)⟩
theorem hp_n_e (A0 : Option Addr) (c0 : Nat) (l0 : List Int) (a1 : Int) (w : World) (k p1 e1 i pi ei : Int) (HL : l0.length ≤ 1000000000000) (HY : Bytes l0) (HR0 : Kd.C (Kd.int .u8) w A0 l0.length l0) (HC0 : l0.length ≤ c0) (HG1 : rd1 l0 1 a1 0 = (k, p1, e1)) (he : e1 = 0) (hk : k = 0) (hg : ¬ 1 < k) (HGi : rd1 l0 1 p1 0 = (i, pi, ei)) (hf : ¬ ei = 0) :
  Calls Try.prog 50 #[.slice A0 l0.length c0, .int .i64 a1] w fun e w' => e = .returned (.tuple #[.agg #[.bool false, .int .i64 0, .int .i64 0, .int .i64 0, .int .i64 0, .int .i64 0], .int .i64 0, .int .i64 ei]) ∧ Below w.heap.size w w' := by
 have hu23 := Try.underlying41
 have hu67 := Try.underlying100
 replace HL := Aside0.mk HL
 replace HY := Aside0.mk HY
 replace HR0 := Aside0.mk HR0
 replace HC0 := Aside0.mk HC0
 replace HG1 := Aside0.mk HG1
 replace HGi := Aside0.mk HGi
 subst he
 subst hk
 clear hg
 have b4 : (ei == 0) = false := beq_eq_false_iff_ne.mpr hf
 have b5 : (ei != 0) = true := bne_iff_ne.mpr hf
 clear hf
 go_enter Try.func50, Try.ntmps50
 go_upto_region 4 with (first
  | ((with_reducible refine gate_dst (N := 4) rfl ?_); refine box_event ?hg (N := 4) ?hd (cs := #[.bool false, .int .i64 0, .int .i64 0, .int .i64 0, .int .i64 0, .int .i64 0]) (t := 41) ?hr ?_; (case hd => rfl); (case hg => rfl); (case hr => first | (go_simp; done) | (go_simp; rfl)); intro g4 hg w4 hbox hb; have HB4 := Aside0.mk hb; have G4 := Aside0.mk (Nat.le_of_eq hg.symm); have B4 := Aside0.mk hbox; clear hb hbox hg)
  | ((with_reducible refine gate_dst (N := 13) rfl ?_); refine box_event ?hg (N := 13) ?hd (cs := RdC A0 l0.length c0 a1 0) (t := 100) ?hr ?_; (case hd => rfl); (case hg => rfl); (case hr => first | (go_simp; done) | (go_simp; rfl)); intro gr hg w5 hbox hb; have HB5 := Aside0.mk (below_step HB4.out hb); have GR := Aside0.mk (show w.heap.size ≤ gr by rw [hg]; exact below_size HB4.out); have B45 := Aside0.mk (blk_below B4.out hb); have BR := Aside0.mk hbox; clear hb hbox hg HB4 B4)
  | ((with_reducible refine gate_dst (N := 15) rfl ?_); refine goesA (some 15) Try.func54 #[.pointer (some ⟨gr, 0, none⟩)] ?_; (with_reducible refine (hr_oneG gr A0 c0 l0 a1 0 _ _ _ _ HG1.out HY.out HL.out (Kd.C_below HR0.out HB5.out) HC0.out BR.out).mono ?_); rintro x_ w6 ⟨rfl, hbx, hgr⟩; refine ⟨_, rfl, ?_⟩; have HB6 := Aside0.mk (pw_below_grown HB5.out (some gr) (below_size HB5.out) hgr (fun k_ e_ => by cases e_; exact GR.out)); have B46 := Aside0.mk (blk_grown B45.out hgr (fun e_ => blk_ne B45.out BR.out (by decide) (Option.some.inj e_))); have BR6 := Aside0.mk hbx; clear hbx hgr HB5 B45 BR)
  | ((with_reducible refine gate_dst (N := 9) rfl ?_); refine box_event ?hg (N := 9) ?hd (cs := #[.bool false, .int .i64 0, .int .i64 0, .int .i64 0, .int .i64 0, .int .i64 0]) (t := 41) ?hr ?_; (case hd => rfl); (case hg => rfl); (case hr => first | (go_simp; done) | (go_simp; rfl)); intro g9 hg w7 hbox hb; have ST0 := Aside0.mk (HpSt.mk (blk_below B46.out hb) hbox (blk_below BR6.out hb) (below_step HB6.out hb) G4.out (by rw [hg]; exact below_size HB6.out) GR.out (by rw [hg]; exact Nat.ne_of_lt (blk_lt B46.out))); clear hb hbox hg; obtain ⟨⟨u0, u1, u2, u3, u4, u5⟩, uf0, uf1, uf2, uf3, uf4, uf5⟩ := cells6 ST0.out.b9))
 have ST := Aside0.mk (show HpSt w ((((((w7.setCell ⟨g9, 0, none⟩ (.bool true)).setCell ⟨g9, 1, none⟩ (.int .i64 0)).setCell ⟨g9, 2, none⟩ (.int .i64 0)).setCell ⟨g9, 3, none⟩ (.int .i64 0)).setCell ⟨g9, 4, none⟩ (.int .i64 0)).setCell ⟨g9, 5, none⟩ (.int .i64 0)) A0 l0.length c0 g4 g9 gr p1 0 #[.bool true, .int .i64 0, .int .i64 0, .int .i64 0, .int .i64 0, .int .i64 0] from (HpSt.put (HpSt.put (HpSt.put (HpSt.put (HpSt.put (HpSt.put ST0.out 0 (.bool true) rfl) 1 (.int .i64 0) rfl) 2 (.int .i64 0) rfl) 3 (.int .i64 0) rfl) 4 (.int .i64 0) rfl) 5 (.int .i64 0) rfl))
 generalize ((((((w7.setCell ⟨g9, 0, none⟩ (.bool true)).setCell ⟨g9, 1, none⟩ (.int .i64 0)).setCell ⟨g9, 2, none⟩ (.int .i64 0)).setCell ⟨g9, 3, none⟩ (.int .i64 0)).setCell ⟨g9, 4, none⟩ (.int .i64 0)).setCell ⟨g9, 5, none⟩ (.int .i64 0)) = wq at ST ⊢
 clear ST0 u0 uf0 u1 uf1 u2 uf2 u3 uf3 u4 uf4 u5 uf5
 obtain ⟨⟨v0, v1, v2⟩, vf0, vf1, vf2⟩ := cells3 ST.out.br
 obtain ⟨⟨y0, y1, y2, y3, y4, y5⟩, yf0, yf1, yf2, yf3, yf4, yf5⟩ := cells6 ST.out.b9
 go_upto_region 9 with (first
  | ((with_reducible refine gate_dst (N := 47) rfl ?_); refine goesA (some 47) Try.func54 #[.pointer (some ⟨gr, 0, none⟩)] ?_; (with_reducible refine (hr_oneG gr A0 c0 l0 p1 0 _ _ _ _ HGi.out HY.out HL.out (Kd.C_below HR0.out ST.out.bl) HC0.out ST.out.br).mono ?_); rintro x_ w47 ⟨rfl, hbx, hgr⟩; refine ⟨_, rfl, ?_⟩; have STn := Aside0.mk (ST.out.step hbx hgr); clear ST hbx hgr; have ST := STn; clear STn; obtain ⟨⟨x0, x1, x2, x3, x4, x5⟩, xf0, xf1, xf2, xf3, xf4, xf5⟩ := cells6 ST.out.b9))
 have STn := Aside0.mk (HpSt.put ST.out 5 (.int .i64 i) (cs2 := #[.bool true, .int .i64 0, .int .i64 0, .int .i64 0, .int .i64 0, .int .i64 i]) rfl)
 clear ST
 have ST := STn
 clear STn x0 xf0 x1 xf1 x2 xf2 x3 xf3 x4 xf4 x5 xf5
 clear v0 vf0 v1 vf1 v2 vf2
 clear y0 yf0 y1 yf1 y2 yf2 y3 yf3 y4 yf4 y5 yf5
 generalize (w47.setCell ⟨g9, 5, none⟩ (.int .i64 i)) = wr at ST ⊢
 obtain ⟨⟨v0, v1, v2⟩, vf0, vf1, vf2⟩ := cells3 ST.out.br
 obtain ⟨⟨y0, y1, y2, y3, y4, y5⟩, yf0, yf1, yf2, yf3, yf4, yf5⟩ := cells6 ST.out.b9
 go_upto_region 12 with (fail)
 have STd := Aside0.mk (HpSt.drew ST.out)
 clear ST
 have ST := STd
 clear STd
 refine start_ (n := 8) (S := fun w' => w'.cell? ⟨gr, 2, none⟩ = some (.int .i64 ei)) (ds := []) #[false, false, false, false, false, false, false, false] (by kernel_rfl) rfl rfl ((blk_cell ST.out.br 2).trans rfl) (fun hHeld => ?_); refine with_tabW height_Parse.tab12 height_Parse.bits12 (fun HT_ HW_ => ?_)
 generalize wr.drew = wd at ST hHeld ⊢
 obtain ⟨⟨o0, o1, o2, o3, o4, o5⟩, of0, of1, of2, of3, of4, of5⟩ := cells6 ST.out.b4
 have n94 : g9 ≠ g4 := ST.out.d49.symm
 have nr4 : gr ≠ g4 := (blk_ne ST.out.br ST.out.b4 (by decide))
 refine pureA (i := 0) (N := some 67) HT_ ?_
 refine pureA (i := 1) (N := some 68) HT_ ?_
 refine pureA (i := 2) (N := some 69) HT_ ?_
 refine pureA (i := 3) (N := some 70) HT_ ?_
 refine takeA (i := 4) (N := some 71) HT_ HW_ hHeld ?_
 refine oneA (i := 5) (N := none) HT_ (fun K hK => ?_)
 refine skip_ (w1 := ?_) (by rfl) rfl ?_ ?_
 rotate_left
 ·go_simp
  rfl
 refine hK.out _ _ ?_ (fun hHeld2 => ?_)
 ·(repeat (first | refine (cell_far n94 _).trans ?_ | refine (cell_far nr4 _).trans ?_)); exact hHeld
 clear hHeld
 have hHeld := hHeld2
 clear hHeld2
 clear hK K
 refine pureA (i := 6) (N := some 5) HT_ ?_
 refine pureA (i := 7) (N := some 6) HT_ ?_
 refine done_ (done_of HT_.out (by kernel_rfl)) ?_
 clear HT_ HW_
 try go_wp2
 refine bodyPost_ret (results_ctt rfl _ _ g4 41 #[.bool false, .int .i64 0, .int .i64 0, .int .i64 0, .int .i64 0, .int .i64 0] (0, 0) _ rfl (blk_put (blk_put (blk_put (blk_put (blk_put (blk_put ST.out.b4 0 (.bool false) rfl) 1 (.int .i64 0) rfl) 2 (.int .i64 0) rfl) 3 (.int .i64 0) rfl) 4 (.int .i64 0) rfl) 5 (.int .i64 0) (cs' := #[.bool false, .int .i64 0, .int .i64 0, .int .i64 0, .int .i64 0, .int .i64 0]) rfl) Try.underlying41 rfl (by kernel_rfl)) rfl ?_
 exact ⟨rfl, (below_set (below_set (below_set (below_set (below_set (below_set ST.out.bl ST.out.n4) ST.out.n4) ST.out.n4) ST.out.n4) ST.out.n4) ST.out.n4)⟩
theorem hp_n_no (A0 : Option Addr) (c0 : Nat) (l0 : List Int) (a1 : Int) (w : World) (k p1 e1 i pi ei : Int) (HL : l0.length ≤ 1000000000000) (HY : Bytes l0) (HR0 : Kd.C (Kd.int .u8) w A0 l0.length l0) (HC0 : l0.length ≤ c0) (HG1 : rd1 l0 1 a1 0 = (k, p1, e1)) (he : e1 = 0) (hk : k = 0) (hg : ¬ 1 < k) (HGi : rd1 l0 1 p1 0 = (i, pi, ei)) (hf : ei = 0) (hr : ¬ RH true 0 0 0 0 i) :
  Calls Try.prog 50 #[.slice A0 l0.length c0, .int .i64 a1] w fun e w' => e = .returned (.tuple #[.agg #[.bool false, .int .i64 0, .int .i64 0, .int .i64 0, .int .i64 0, .int .i64 0], .int .i64 0, .int .i64 4]) ∧ Below w.heap.size w w' := by
 have hu23 := Try.underlying41
 have hu67 := Try.underlying100
 replace HL := Aside0.mk HL
 replace HY := Aside0.mk HY
 replace HR0 := Aside0.mk HR0
 replace HC0 := Aside0.mk HC0
 replace HG1 := Aside0.mk HG1
 replace HGi := Aside0.mk HGi
 subst he
 subst hk
 clear hg
 subst hf
 obtain ⟨K, hK⟩ := (hc_eq true 0 0 0 0 i).rounds
 rw [if_neg hr] at hK
 have HK := Aside0.mk hK
 clear hK hr
 go_enter Try.func50, Try.ntmps50
 go_upto_region 4 with (first
  | ((with_reducible refine gate_dst (N := 4) rfl ?_); refine box_event ?hg (N := 4) ?hd (cs := #[.bool false, .int .i64 0, .int .i64 0, .int .i64 0, .int .i64 0, .int .i64 0]) (t := 41) ?hr ?_; (case hd => rfl); (case hg => rfl); (case hr => first | (go_simp; done) | (go_simp; rfl)); intro g4 hg w4 hbox hb; have HB4 := Aside0.mk hb; have G4 := Aside0.mk (Nat.le_of_eq hg.symm); have B4 := Aside0.mk hbox; clear hb hbox hg)
  | ((with_reducible refine gate_dst (N := 13) rfl ?_); refine box_event ?hg (N := 13) ?hd (cs := RdC A0 l0.length c0 a1 0) (t := 100) ?hr ?_; (case hd => rfl); (case hg => rfl); (case hr => first | (go_simp; done) | (go_simp; rfl)); intro gr hg w5 hbox hb; have HB5 := Aside0.mk (below_step HB4.out hb); have GR := Aside0.mk (show w.heap.size ≤ gr by rw [hg]; exact below_size HB4.out); have B45 := Aside0.mk (blk_below B4.out hb); have BR := Aside0.mk hbox; clear hb hbox hg HB4 B4)
  | ((with_reducible refine gate_dst (N := 15) rfl ?_); refine goesA (some 15) Try.func54 #[.pointer (some ⟨gr, 0, none⟩)] ?_; (with_reducible refine (hr_oneG gr A0 c0 l0 a1 0 _ _ _ _ HG1.out HY.out HL.out (Kd.C_below HR0.out HB5.out) HC0.out BR.out).mono ?_); rintro x_ w6 ⟨rfl, hbx, hgr⟩; refine ⟨_, rfl, ?_⟩; have HB6 := Aside0.mk (pw_below_grown HB5.out (some gr) (below_size HB5.out) hgr (fun k_ e_ => by cases e_; exact GR.out)); have B46 := Aside0.mk (blk_grown B45.out hgr (fun e_ => blk_ne B45.out BR.out (by decide) (Option.some.inj e_))); have BR6 := Aside0.mk hbx; clear hbx hgr HB5 B45 BR)
  | ((with_reducible refine gate_dst (N := 9) rfl ?_); refine box_event ?hg (N := 9) ?hd (cs := #[.bool false, .int .i64 0, .int .i64 0, .int .i64 0, .int .i64 0, .int .i64 0]) (t := 41) ?hr ?_; (case hd => rfl); (case hg => rfl); (case hr => first | (go_simp; done) | (go_simp; rfl)); intro g9 hg w7 hbox hb; have ST0 := Aside0.mk (HpSt.mk (blk_below B46.out hb) hbox (blk_below BR6.out hb) (below_step HB6.out hb) G4.out (by rw [hg]; exact below_size HB6.out) GR.out (by rw [hg]; exact Nat.ne_of_lt (blk_lt B46.out))); clear hb hbox hg; obtain ⟨⟨u0, u1, u2, u3, u4, u5⟩, uf0, uf1, uf2, uf3, uf4, uf5⟩ := cells6 ST0.out.b9))
 have ST := Aside0.mk (show HpSt w ((((((w7.setCell ⟨g9, 0, none⟩ (.bool true)).setCell ⟨g9, 1, none⟩ (.int .i64 0)).setCell ⟨g9, 2, none⟩ (.int .i64 0)).setCell ⟨g9, 3, none⟩ (.int .i64 0)).setCell ⟨g9, 4, none⟩ (.int .i64 0)).setCell ⟨g9, 5, none⟩ (.int .i64 0)) A0 l0.length c0 g4 g9 gr p1 0 #[.bool true, .int .i64 0, .int .i64 0, .int .i64 0, .int .i64 0, .int .i64 0] from (HpSt.put (HpSt.put (HpSt.put (HpSt.put (HpSt.put (HpSt.put ST0.out 0 (.bool true) rfl) 1 (.int .i64 0) rfl) 2 (.int .i64 0) rfl) 3 (.int .i64 0) rfl) 4 (.int .i64 0) rfl) 5 (.int .i64 0) rfl))
 generalize ((((((w7.setCell ⟨g9, 0, none⟩ (.bool true)).setCell ⟨g9, 1, none⟩ (.int .i64 0)).setCell ⟨g9, 2, none⟩ (.int .i64 0)).setCell ⟨g9, 3, none⟩ (.int .i64 0)).setCell ⟨g9, 4, none⟩ (.int .i64 0)).setCell ⟨g9, 5, none⟩ (.int .i64 0)) = wq at ST ⊢
 clear ST0 u0 uf0 u1 uf1 u2 uf2 u3 uf3 u4 uf4 u5 uf5
 obtain ⟨⟨v0, v1, v2⟩, vf0, vf1, vf2⟩ := cells3 ST.out.br
 obtain ⟨⟨y0, y1, y2, y3, y4, y5⟩, yf0, yf1, yf2, yf3, yf4, yf5⟩ := cells6 ST.out.b9
 go_upto_region 9 with (first
  | ((with_reducible refine gate_dst (N := 47) rfl ?_); refine goesA (some 47) Try.func54 #[.pointer (some ⟨gr, 0, none⟩)] ?_; (with_reducible refine (hr_oneG gr A0 c0 l0 p1 0 _ _ _ _ HGi.out HY.out HL.out (Kd.C_below HR0.out ST.out.bl) HC0.out ST.out.br).mono ?_); rintro x_ w47 ⟨rfl, hbx, hgr⟩; refine ⟨_, rfl, ?_⟩; have STn := Aside0.mk (ST.out.step hbx hgr); clear ST hbx hgr; have ST := STn; clear STn; obtain ⟨⟨x0, x1, x2, x3, x4, x5⟩, xf0, xf1, xf2, xf3, xf4, xf5⟩ := cells6 ST.out.b9))
 have STn := Aside0.mk (HpSt.put ST.out 5 (.int .i64 i) (cs2 := #[.bool true, .int .i64 0, .int .i64 0, .int .i64 0, .int .i64 0, .int .i64 i]) rfl)
 clear ST
 have ST := STn
 clear STn x0 xf0 x1 xf1 x2 xf2 x3 xf3 x4 xf4 x5 xf5
 clear v0 vf0 v1 vf1 v2 vf2
 clear y0 yf0 y1 yf1 y2 yf2 y3 yf3 y4 yf4 y5 yf5
 generalize (w47.setCell ⟨g9, 5, none⟩ (.int .i64 i)) = wr at ST ⊢
 obtain ⟨⟨v0, v1, v2⟩, vf0, vf1, vf2⟩ := cells3 ST.out.br
 obtain ⟨⟨y0, y1, y2, y3, y4, y5⟩, yf0, yf1, yf2, yf3, yf4, yf5⟩ := cells6 ST.out.b9
 go_upto_region 12 with ((go_at_call 44; (with_reducible refine (height_Check.calls K true 0 0 0 0 i 1 _ HK.out).mono ?_); rintro x_ ws ⟨rfl, hb⟩; have STn := Aside0.mk (HpSt.below ST.out hb); clear ST hb; have ST := STn; clear STn; obtain ⟨⟨s0, s1, s2⟩, sf0, sf1, sf2⟩ := cells3 ST.out.br))
 clear v0 vf0 v1 vf1 v2 vf2 y0 yf0 y1 yf1 y2 yf2 y3 yf3 y4 yf4 y5 yf5 s0 sf0 s1 sf1 s2 sf2
 have STn := Aside0.mk (HpSt.err ST.out 4)
 clear ST
 have ST := STn
 clear STn
 generalize (ws.setCell ⟨gr, 2, none⟩ (.int .i64 4)) = wt at ST ⊢
 have STd := Aside0.mk (HpSt.drew ST.out)
 clear ST
 have ST := STd
 clear STd
 refine start_ (n := 8) (S := fun w' => w'.cell? ⟨gr, 2, none⟩ = some (.int .i64 4)) (ds := []) #[false, false, false, false, false, false, false, false] (by kernel_rfl) rfl rfl ((blk_cell ST.out.br 2).trans rfl) (fun hHeld => ?_); refine with_tabW height_Parse.tab12 height_Parse.bits12 (fun HT_ HW_ => ?_)
 generalize wt.drew = wd at ST hHeld ⊢
 obtain ⟨⟨o0, o1, o2, o3, o4, o5⟩, of0, of1, of2, of3, of4, of5⟩ := cells6 ST.out.b4
 have n94 : g9 ≠ g4 := ST.out.d49.symm
 have nr4 : gr ≠ g4 := (blk_ne ST.out.br ST.out.b4 (by decide))
 refine pureA (i := 0) (N := some 67) HT_ ?_
 refine pureA (i := 1) (N := some 68) HT_ ?_
 refine pureA (i := 2) (N := some 69) HT_ ?_
 refine pureA (i := 3) (N := some 70) HT_ ?_
 refine takeA (i := 4) (N := some 71) HT_ HW_ hHeld ?_
 refine oneA (i := 5) (N := none) HT_ (fun K hK => ?_)
 refine skip_ (w1 := ?_) (by rfl) rfl ?_ ?_
 rotate_left
 ·go_simp
  rfl
 refine hK.out _ _ ?_ (fun hHeld2 => ?_)
 ·(repeat (first | refine (cell_far n94 _).trans ?_ | refine (cell_far nr4 _).trans ?_)); exact hHeld
 clear hHeld
 have hHeld := hHeld2
 clear hHeld2
 clear hK K
 refine pureA (i := 6) (N := some 5) HT_ ?_
 refine pureA (i := 7) (N := some 6) HT_ ?_
 refine done_ (done_of HT_.out (by kernel_rfl)) ?_
 clear HT_ HW_
 try go_wp2
 refine bodyPost_ret (results_ctt rfl _ _ g4 41 #[.bool false, .int .i64 0, .int .i64 0, .int .i64 0, .int .i64 0, .int .i64 0] (0, 0) _ rfl (blk_put (blk_put (blk_put (blk_put (blk_put (blk_put ST.out.b4 0 (.bool false) rfl) 1 (.int .i64 0) rfl) 2 (.int .i64 0) rfl) 3 (.int .i64 0) rfl) 4 (.int .i64 0) rfl) 5 (.int .i64 0) (cs' := #[.bool false, .int .i64 0, .int .i64 0, .int .i64 0, .int .i64 0, .int .i64 0]) rfl) Try.underlying41 rfl (by kernel_rfl)) rfl ?_
 exact ⟨rfl, (below_set (below_set (below_set (below_set (below_set (below_set ST.out.bl ST.out.n4) ST.out.n4) ST.out.n4) ST.out.n4) ST.out.n4) ST.out.n4)⟩
theorem hp_n_yes (A0 : Option Addr) (c0 : Nat) (l0 : List Int) (a1 : Int) (w : World) (k p1 e1 i pi ei : Int) (HL : l0.length ≤ 1000000000000) (HY : Bytes l0) (HR0 : Kd.C (Kd.int .u8) w A0 l0.length l0) (HC0 : l0.length ≤ c0) (HG1 : rd1 l0 1 a1 0 = (k, p1, e1)) (he : e1 = 0) (hk : k = 0) (hg : ¬ 1 < k) (HGi : rd1 l0 1 p1 0 = (i, pi, ei)) (hf : ei = 0) (hr : RH true 0 0 0 0 i) :
  Calls Try.prog 50 #[.slice A0 l0.length c0, .int .i64 a1] w fun e w' => e = .returned (.tuple #[.agg #[.bool true, .int .i64 0, .int .i64 0, .int .i64 0, .int .i64 0, .int .i64 i], .int .i64 pi, .int .i64 0]) ∧ Below w.heap.size w w' := by
 have hu23 := Try.underlying41
 have hu67 := Try.underlying100
 replace HL := Aside0.mk HL
 replace HY := Aside0.mk HY
 replace HR0 := Aside0.mk HR0
 replace HC0 := Aside0.mk HC0
 replace HG1 := Aside0.mk HG1
 replace HGi := Aside0.mk HGi
 subst he
 subst hk
 clear hg
 subst hf
 obtain ⟨K, hK⟩ := (hc_eq true 0 0 0 0 i).rounds
 rw [if_pos hr] at hK
 have HK := Aside0.mk hK
 clear hK hr
 go_enter Try.func50, Try.ntmps50
 go_upto_region 4 with (first
  | ((with_reducible refine gate_dst (N := 4) rfl ?_); refine box_event ?hg (N := 4) ?hd (cs := #[.bool false, .int .i64 0, .int .i64 0, .int .i64 0, .int .i64 0, .int .i64 0]) (t := 41) ?hr ?_; (case hd => rfl); (case hg => rfl); (case hr => first | (go_simp; done) | (go_simp; rfl)); intro g4 hg w4 hbox hb; have HB4 := Aside0.mk hb; have G4 := Aside0.mk (Nat.le_of_eq hg.symm); have B4 := Aside0.mk hbox; clear hb hbox hg)
  | ((with_reducible refine gate_dst (N := 13) rfl ?_); refine box_event ?hg (N := 13) ?hd (cs := RdC A0 l0.length c0 a1 0) (t := 100) ?hr ?_; (case hd => rfl); (case hg => rfl); (case hr => first | (go_simp; done) | (go_simp; rfl)); intro gr hg w5 hbox hb; have HB5 := Aside0.mk (below_step HB4.out hb); have GR := Aside0.mk (show w.heap.size ≤ gr by rw [hg]; exact below_size HB4.out); have B45 := Aside0.mk (blk_below B4.out hb); have BR := Aside0.mk hbox; clear hb hbox hg HB4 B4)
  | ((with_reducible refine gate_dst (N := 15) rfl ?_); refine goesA (some 15) Try.func54 #[.pointer (some ⟨gr, 0, none⟩)] ?_; (with_reducible refine (hr_oneG gr A0 c0 l0 a1 0 _ _ _ _ HG1.out HY.out HL.out (Kd.C_below HR0.out HB5.out) HC0.out BR.out).mono ?_); rintro x_ w6 ⟨rfl, hbx, hgr⟩; refine ⟨_, rfl, ?_⟩; have HB6 := Aside0.mk (pw_below_grown HB5.out (some gr) (below_size HB5.out) hgr (fun k_ e_ => by cases e_; exact GR.out)); have B46 := Aside0.mk (blk_grown B45.out hgr (fun e_ => blk_ne B45.out BR.out (by decide) (Option.some.inj e_))); have BR6 := Aside0.mk hbx; clear hbx hgr HB5 B45 BR)
  | ((with_reducible refine gate_dst (N := 9) rfl ?_); refine box_event ?hg (N := 9) ?hd (cs := #[.bool false, .int .i64 0, .int .i64 0, .int .i64 0, .int .i64 0, .int .i64 0]) (t := 41) ?hr ?_; (case hd => rfl); (case hg => rfl); (case hr => first | (go_simp; done) | (go_simp; rfl)); intro g9 hg w7 hbox hb; have ST0 := Aside0.mk (HpSt.mk (blk_below B46.out hb) hbox (blk_below BR6.out hb) (below_step HB6.out hb) G4.out (by rw [hg]; exact below_size HB6.out) GR.out (by rw [hg]; exact Nat.ne_of_lt (blk_lt B46.out))); clear hb hbox hg; obtain ⟨⟨u0, u1, u2, u3, u4, u5⟩, uf0, uf1, uf2, uf3, uf4, uf5⟩ := cells6 ST0.out.b9))
 have ST := Aside0.mk (show HpSt w ((((((w7.setCell ⟨g9, 0, none⟩ (.bool true)).setCell ⟨g9, 1, none⟩ (.int .i64 0)).setCell ⟨g9, 2, none⟩ (.int .i64 0)).setCell ⟨g9, 3, none⟩ (.int .i64 0)).setCell ⟨g9, 4, none⟩ (.int .i64 0)).setCell ⟨g9, 5, none⟩ (.int .i64 0)) A0 l0.length c0 g4 g9 gr p1 0 #[.bool true, .int .i64 0, .int .i64 0, .int .i64 0, .int .i64 0, .int .i64 0] from (HpSt.put (HpSt.put (HpSt.put (HpSt.put (HpSt.put (HpSt.put ST0.out 0 (.bool true) rfl) 1 (.int .i64 0) rfl) 2 (.int .i64 0) rfl) 3 (.int .i64 0) rfl) 4 (.int .i64 0) rfl) 5 (.int .i64 0) rfl))
 generalize ((((((w7.setCell ⟨g9, 0, none⟩ (.bool true)).setCell ⟨g9, 1, none⟩ (.int .i64 0)).setCell ⟨g9, 2, none⟩ (.int .i64 0)).setCell ⟨g9, 3, none⟩ (.int .i64 0)).setCell ⟨g9, 4, none⟩ (.int .i64 0)).setCell ⟨g9, 5, none⟩ (.int .i64 0)) = wq at ST ⊢
 clear ST0 u0 uf0 u1 uf1 u2 uf2 u3 uf3 u4 uf4 u5 uf5
 obtain ⟨⟨v0, v1, v2⟩, vf0, vf1, vf2⟩ := cells3 ST.out.br
 obtain ⟨⟨y0, y1, y2, y3, y4, y5⟩, yf0, yf1, yf2, yf3, yf4, yf5⟩ := cells6 ST.out.b9
 go_upto_region 9 with (first
  | ((with_reducible refine gate_dst (N := 47) rfl ?_); refine goesA (some 47) Try.func54 #[.pointer (some ⟨gr, 0, none⟩)] ?_; (with_reducible refine (hr_oneG gr A0 c0 l0 p1 0 _ _ _ _ HGi.out HY.out HL.out (Kd.C_below HR0.out ST.out.bl) HC0.out ST.out.br).mono ?_); rintro x_ w47 ⟨rfl, hbx, hgr⟩; refine ⟨_, rfl, ?_⟩; have STn := Aside0.mk (ST.out.step hbx hgr); clear ST hbx hgr; have ST := STn; clear STn; obtain ⟨⟨x0, x1, x2, x3, x4, x5⟩, xf0, xf1, xf2, xf3, xf4, xf5⟩ := cells6 ST.out.b9))
 have STn := Aside0.mk (HpSt.put ST.out 5 (.int .i64 i) (cs2 := #[.bool true, .int .i64 0, .int .i64 0, .int .i64 0, .int .i64 0, .int .i64 i]) rfl)
 clear ST
 have ST := STn
 clear STn x0 xf0 x1 xf1 x2 xf2 x3 xf3 x4 xf4 x5 xf5
 clear v0 vf0 v1 vf1 v2 vf2
 clear y0 yf0 y1 yf1 y2 yf2 y3 yf3 y4 yf4 y5 yf5
 generalize (w47.setCell ⟨g9, 5, none⟩ (.int .i64 i)) = wr at ST ⊢
 obtain ⟨⟨v0, v1, v2⟩, vf0, vf1, vf2⟩ := cells3 ST.out.br
 obtain ⟨⟨y0, y1, y2, y3, y4, y5⟩, yf0, yf1, yf2, yf3, yf4, yf5⟩ := cells6 ST.out.b9
 go_upto_region 13 with ((go_at_call 44; (with_reducible refine (height_Check.calls K true 0 0 0 0 i 0 _ HK.out).mono ?_); rintro x_ ws ⟨rfl, hb⟩; have STn := Aside0.mk (HpSt.below ST.out hb); clear ST hb; have ST := STn; clear STn; obtain ⟨⟨s0, s1, s2⟩, sf0, sf1, sf2⟩ := cells3 ST.out.br))
 clear v0 vf0 v1 vf1 v2 vf2 y0 yf0 y1 yf1 y2 yf2 y3 yf3 y4 yf4 y5 yf5 s0 sf0 s1 sf1 s2 sf2
 have STd := Aside0.mk (HpSt.drew ST.out)
 clear ST
 have ST := STd
 clear STd
 refine start_ (n := 8) (S := fun w' => w'.cell? ⟨g9, 0, none⟩ = some (.bool true) ∧ w'.cell? ⟨g9, 1, none⟩ = some (.int .i64 0) ∧ w'.cell? ⟨g9, 2, none⟩ = some (.int .i64 0) ∧ w'.cell? ⟨g9, 3, none⟩ = some (.int .i64 0) ∧ w'.cell? ⟨g9, 4, none⟩ = some (.int .i64 0) ∧ w'.cell? ⟨g9, 5, none⟩ = some (.int .i64 i) ∧ w'.cell? ⟨gr, 1, none⟩ = some (.int .i64 pi)) (ds := []) #[false, false, false, false, false, false, false, false] (by kernel_rfl) rfl rfl ⟨(blk_cell ST.out.b9 0).trans rfl, (blk_cell ST.out.b9 1).trans rfl, (blk_cell ST.out.b9 2).trans rfl, (blk_cell ST.out.b9 3).trans rfl, (blk_cell ST.out.b9 4).trans rfl, (blk_cell ST.out.b9 5).trans rfl, (blk_cell ST.out.br 1).trans rfl⟩ (fun hHeld => ?_); refine with_tabW height_Parse.tab13 height_Parse.bits13 (fun HT_ HW_ => ?_)
 generalize ws.drew = wd at ST hHeld ⊢
 obtain ⟨⟨o0, o1, o2, o3, o4, o5⟩, of0, of1, of2, of3, of4, of5⟩ := cells6 ST.out.b4
 have n94 : g9 ≠ g4 := ST.out.d49.symm
 have nr4 : gr ≠ g4 := (blk_ne ST.out.br ST.out.b4 (by decide))
 refine pureA (i := 1) (N := some 73) HT_ ?_
 refine pureA (i := 2) (N := some 74) HT_ ?_
 refine pureA (i := 3) (N := some 75) HT_ ?_
 refine takeA (i := 0) (N := some 72) HT_ HW_ hHeld ?_
 refine takeA (i := 4) (N := some 76) HT_ HW_ hHeld ?_
 refine oneA (i := 5) (N := none) HT_ (fun K hK => ?_)
 refine skip_ (w1 := ?_) (by rfl) rfl ?_ ?_
 rotate_left
 ·go_simp
  rfl
 refine hK.out _ _ ?_ (fun hHeld2 => ?_)
 ·refine ⟨?_, ?_, ?_, ?_, ?_, ?_, ?_⟩
  ·(repeat (first | refine (cell_far n94 _).trans ?_ | refine (cell_far nr4 _).trans ?_)); exact hHeld.1
  ·(repeat (first | refine (cell_far n94 _).trans ?_ | refine (cell_far nr4 _).trans ?_)); exact hHeld.2.1
  ·(repeat (first | refine (cell_far n94 _).trans ?_ | refine (cell_far nr4 _).trans ?_)); exact hHeld.2.2.1
  ·(repeat (first | refine (cell_far n94 _).trans ?_ | refine (cell_far nr4 _).trans ?_)); exact hHeld.2.2.2.1
  ·(repeat (first | refine (cell_far n94 _).trans ?_ | refine (cell_far nr4 _).trans ?_)); exact hHeld.2.2.2.2.1
  ·(repeat (first | refine (cell_far n94 _).trans ?_ | refine (cell_far nr4 _).trans ?_)); exact hHeld.2.2.2.2.2.1
  ·(repeat (first | refine (cell_far n94 _).trans ?_ | refine (cell_far nr4 _).trans ?_)); exact hHeld.2.2.2.2.2.2
 clear hHeld
 have hHeld := hHeld2
 clear hHeld2
 clear hK K
 refine pureA (i := 6) (N := some 5) HT_ ?_
 refine pureA (i := 7) (N := some 6) HT_ ?_
 refine done_ (done_of HT_.out (by kernel_rfl)) ?_
 clear HT_ HW_
 try go_wp2
 refine bodyPost_ret (results_ctt rfl _ _ g4 41 #[.bool true, .int .i64 0, .int .i64 0, .int .i64 0, .int .i64 0, .int .i64 i] (0, 0) _ rfl (blk_put (blk_put (blk_put (blk_put (blk_put (blk_put ST.out.b4 0 (.bool true) rfl) 1 (.int .i64 0) rfl) 2 (.int .i64 0) rfl) 3 (.int .i64 0) rfl) 4 (.int .i64 0) rfl) 5 (.int .i64 i) (cs' := #[.bool true, .int .i64 0, .int .i64 0, .int .i64 0, .int .i64 0, .int .i64 i]) rfl) Try.underlying41 rfl (by kernel_rfl)) rfl ?_
 exact ⟨rfl, (below_set (below_set (below_set (below_set (below_set (below_set ST.out.bl ST.out.n4) ST.out.n4) ST.out.n4) ST.out.n4) ST.out.n4) ST.out.n4)⟩
theorem hp_k_e (A0 : Option Addr) (c0 : Nat) (l0 : List Int) (a1 : Int) (w : World) (k p1 e1 t pt et o po eo r pr er d pd ed i pi ei : Int) (HL : l0.length ≤ 1000000000000) (HY : Bytes l0) (HR0 : Kd.C (Kd.int .u8) w A0 l0.length l0) (HC0 : l0.length ≤ c0) (HG1 : rd1 l0 1 a1 0 = (k, p1, e1)) (he : e1 = 0) (hk : ¬ k = 0) (hg : ¬ 1 < k) (HGt : rd8 l0 p1 0 = (t, pt, et)) (HGo : rd1 l0 1 pt et = (o, po, eo)) (HGr : rd1 l0 1 po eo = (r, pr, er)) (HGd : rd8 l0 pr er = (d, pd, ed)) (HGi : rd1 l0 1 pd ed = (i, pi, ei)) (hf : ¬ ei = 0) :
  Calls Try.prog 50 #[.slice A0 l0.length c0, .int .i64 a1] w fun e w' => e = .returned (.tuple #[.agg #[.bool false, .int .i64 0, .int .i64 0, .int .i64 0, .int .i64 0, .int .i64 0], .int .i64 0, .int .i64 ei]) ∧ Below w.heap.size w w' := by
 have hu23 := Try.underlying41
 have hu67 := Try.underlying100
 replace HL := Aside0.mk HL
 replace HY := Aside0.mk HY
 replace HR0 := Aside0.mk HR0
 replace HC0 := Aside0.mk HC0
 replace HG1 := Aside0.mk HG1
 replace HGt := Aside0.mk HGt
 replace HGo := Aside0.mk HGo
 replace HGr := Aside0.mk HGr
 replace HGd := Aside0.mk HGd
 replace HGi := Aside0.mk HGi
 subst he
 have b2 : (k == 0) = false := beq_eq_false_iff_ne.mpr hk
 have b3 : decide (1 < k) = false := decide_eq_false hg
 clear hk hg
 have b4 : (ei == 0) = false := beq_eq_false_iff_ne.mpr hf
 have b5 : (ei != 0) = true := bne_iff_ne.mpr hf
 clear hf
 go_enter Try.func50, Try.ntmps50
 go_upto_region 4 with (first
  | ((with_reducible refine gate_dst (N := 4) rfl ?_); refine box_event ?hg (N := 4) ?hd (cs := #[.bool false, .int .i64 0, .int .i64 0, .int .i64 0, .int .i64 0, .int .i64 0]) (t := 41) ?hr ?_; (case hd => rfl); (case hg => rfl); (case hr => first | (go_simp; done) | (go_simp; rfl)); intro g4 hg w4 hbox hb; have HB4 := Aside0.mk hb; have G4 := Aside0.mk (Nat.le_of_eq hg.symm); have B4 := Aside0.mk hbox; clear hb hbox hg)
  | ((with_reducible refine gate_dst (N := 13) rfl ?_); refine box_event ?hg (N := 13) ?hd (cs := RdC A0 l0.length c0 a1 0) (t := 100) ?hr ?_; (case hd => rfl); (case hg => rfl); (case hr => first | (go_simp; done) | (go_simp; rfl)); intro gr hg w5 hbox hb; have HB5 := Aside0.mk (below_step HB4.out hb); have GR := Aside0.mk (show w.heap.size ≤ gr by rw [hg]; exact below_size HB4.out); have B45 := Aside0.mk (blk_below B4.out hb); have BR := Aside0.mk hbox; clear hb hbox hg HB4 B4)
  | ((with_reducible refine gate_dst (N := 15) rfl ?_); refine goesA (some 15) Try.func54 #[.pointer (some ⟨gr, 0, none⟩)] ?_; (with_reducible refine (hr_oneG gr A0 c0 l0 a1 0 _ _ _ _ HG1.out HY.out HL.out (Kd.C_below HR0.out HB5.out) HC0.out BR.out).mono ?_); rintro x_ w6 ⟨rfl, hbx, hgr⟩; refine ⟨_, rfl, ?_⟩; have HB6 := Aside0.mk (pw_below_grown HB5.out (some gr) (below_size HB5.out) hgr (fun k_ e_ => by cases e_; exact GR.out)); have B46 := Aside0.mk (blk_grown B45.out hgr (fun e_ => blk_ne B45.out BR.out (by decide) (Option.some.inj e_))); have BR6 := Aside0.mk hbx; clear hbx hgr HB5 B45 BR)
  | ((with_reducible refine gate_dst (N := 9) rfl ?_); refine box_event ?hg (N := 9) ?hd (cs := #[.bool false, .int .i64 0, .int .i64 0, .int .i64 0, .int .i64 0, .int .i64 0]) (t := 41) ?hr ?_; (case hd => rfl); (case hg => rfl); (case hr => first | (go_simp; done) | (go_simp; rfl)); intro g9 hg w7 hbox hb; have ST0 := Aside0.mk (HpSt.mk (blk_below B46.out hb) hbox (blk_below BR6.out hb) (below_step HB6.out hb) G4.out (by rw [hg]; exact below_size HB6.out) GR.out (by rw [hg]; exact Nat.ne_of_lt (blk_lt B46.out))); clear hb hbox hg; obtain ⟨⟨u0, u1, u2, u3, u4, u5⟩, uf0, uf1, uf2, uf3, uf4, uf5⟩ := cells6 ST0.out.b9))
 have ST := Aside0.mk (show HpSt w ((((((w7.setCell ⟨g9, 0, none⟩ (.bool false)).setCell ⟨g9, 1, none⟩ (.int .i64 0)).setCell ⟨g9, 2, none⟩ (.int .i64 0)).setCell ⟨g9, 3, none⟩ (.int .i64 0)).setCell ⟨g9, 4, none⟩ (.int .i64 0)).setCell ⟨g9, 5, none⟩ (.int .i64 0)) A0 l0.length c0 g4 g9 gr p1 0 #[.bool false, .int .i64 0, .int .i64 0, .int .i64 0, .int .i64 0, .int .i64 0] from (HpSt.put (HpSt.put (HpSt.put (HpSt.put (HpSt.put (HpSt.put ST0.out 0 (.bool false) rfl) 1 (.int .i64 0) rfl) 2 (.int .i64 0) rfl) 3 (.int .i64 0) rfl) 4 (.int .i64 0) rfl) 5 (.int .i64 0) rfl))
 generalize ((((((w7.setCell ⟨g9, 0, none⟩ (.bool false)).setCell ⟨g9, 1, none⟩ (.int .i64 0)).setCell ⟨g9, 2, none⟩ (.int .i64 0)).setCell ⟨g9, 3, none⟩ (.int .i64 0)).setCell ⟨g9, 4, none⟩ (.int .i64 0)).setCell ⟨g9, 5, none⟩ (.int .i64 0)) = wq at ST ⊢
 clear ST0 u0 uf0 u1 uf1 u2 uf2 u3 uf3 u4 uf4 u5 uf5
 obtain ⟨⟨v0, v1, v2⟩, vf0, vf1, vf2⟩ := cells3 ST.out.br
 obtain ⟨⟨y0, y1, y2, y3, y4, y5⟩, yf0, yf1, yf2, yf3, yf4, yf5⟩ := cells6 ST.out.b9
 go_upto_region 9 with (first
  | ((with_reducible refine gate_dst (N := 35) rfl ?_); refine goesA (some 35) Try.func55 #[.pointer (some ⟨gr, 0, none⟩)] ?_; (with_reducible refine (hr_eightG gr A0 c0 l0 p1 0 _ _ _ _ HGt.out HY.out HL.out (Kd.C_below HR0.out ST.out.bl) HC0.out ST.out.br).mono ?_); rintro x_ w35 ⟨rfl, hbx, hgr⟩; refine ⟨_, rfl, ?_⟩; have STn := Aside0.mk (ST.out.step hbx hgr); clear ST hbx hgr; have ST := STn; clear STn)
  | ((with_reducible refine gate_dst (N := 37) rfl ?_); refine goesA (some 37) Try.func54 #[.pointer (some ⟨gr, 0, none⟩)] ?_; (with_reducible refine (hr_oneG gr A0 c0 l0 pt et _ _ _ _ HGo.out HY.out HL.out (Kd.C_below HR0.out ST.out.bl) HC0.out ST.out.br).mono ?_); rintro x_ w37 ⟨rfl, hbx, hgr⟩; refine ⟨_, rfl, ?_⟩; have STn := Aside0.mk (ST.out.step hbx hgr); clear ST hbx hgr; have ST := STn; clear STn)
  | ((with_reducible refine gate_dst (N := 39) rfl ?_); refine goesA (some 39) Try.func54 #[.pointer (some ⟨gr, 0, none⟩)] ?_; (with_reducible refine (hr_oneG gr A0 c0 l0 po eo _ _ _ _ HGr.out HY.out HL.out (Kd.C_below HR0.out ST.out.bl) HC0.out ST.out.br).mono ?_); rintro x_ w39 ⟨rfl, hbx, hgr⟩; refine ⟨_, rfl, ?_⟩; have STn := Aside0.mk (ST.out.step hbx hgr); clear ST hbx hgr; have ST := STn; clear STn)
  | ((with_reducible refine gate_dst (N := 41) rfl ?_); refine goesA (some 41) Try.func55 #[.pointer (some ⟨gr, 0, none⟩)] ?_; (with_reducible refine (hr_eightG gr A0 c0 l0 pr er _ _ _ _ HGd.out HY.out HL.out (Kd.C_below HR0.out ST.out.bl) HC0.out ST.out.br).mono ?_); rintro x_ w41 ⟨rfl, hbx, hgr⟩; refine ⟨_, rfl, ?_⟩; have STn := Aside0.mk (ST.out.step hbx hgr); clear ST hbx hgr; have ST := STn; clear STn; obtain ⟨⟨z0, z1, z2, z3, z4, z5⟩, zf0, zf1, zf2, zf3, zf4, zf5⟩ := cells6 ST.out.b9)
  | ((with_reducible refine gate_dst (N := 47) rfl ?_); clear z0 zf0 z1 zf1 z2 zf2 z3 zf3 z4 zf4 z5 zf5; have STp := Aside0.mk (HpSt.put (HpSt.put (HpSt.put (HpSt.put ST.out 1 (.int .i64 t) rfl) 2 (.int .i64 o) rfl) 3 (.int .i64 r) rfl) 4 (.int .i64 d) rfl); clear ST; have ST := STp; clear STp; refine goesA (some 47) Try.func54 #[.pointer (some ⟨gr, 0, none⟩)] ?_; (with_reducible refine (hr_oneG gr A0 c0 l0 pd ed _ _ _ _ HGi.out HY.out HL.out (Kd.C_below HR0.out ST.out.bl) HC0.out ST.out.br).mono ?_); rintro x_ w47 ⟨rfl, hbx, hgr⟩; refine ⟨_, rfl, ?_⟩; have STn := Aside0.mk (ST.out.step hbx hgr); clear ST hbx hgr; have ST := STn; clear STn; obtain ⟨⟨x0, x1, x2, x3, x4, x5⟩, xf0, xf1, xf2, xf3, xf4, xf5⟩ := cells6 ST.out.b9))
 have STn := Aside0.mk (HpSt.put ST.out 5 (.int .i64 i) (cs2 := #[.bool false, .int .i64 t, .int .i64 o, .int .i64 r, .int .i64 d, .int .i64 i]) rfl)
 clear ST
 have ST := STn
 clear STn x0 xf0 x1 xf1 x2 xf2 x3 xf3 x4 xf4 x5 xf5
 clear v0 vf0 v1 vf1 v2 vf2
 clear y0 yf0 y1 yf1 y2 yf2 y3 yf3 y4 yf4 y5 yf5
 generalize (w47.setCell ⟨g9, 5, none⟩ (.int .i64 i)) = wr at ST ⊢
 obtain ⟨⟨v0, v1, v2⟩, vf0, vf1, vf2⟩ := cells3 ST.out.br
 obtain ⟨⟨y0, y1, y2, y3, y4, y5⟩, yf0, yf1, yf2, yf3, yf4, yf5⟩ := cells6 ST.out.b9
 go_upto_region 12 with (fail)
 have STd := Aside0.mk (HpSt.drew ST.out)
 clear ST
 have ST := STd
 clear STd
 refine start_ (n := 8) (S := fun w' => w'.cell? ⟨gr, 2, none⟩ = some (.int .i64 ei)) (ds := []) #[false, false, false, false, false, false, false, false] (by kernel_rfl) rfl rfl ((blk_cell ST.out.br 2).trans rfl) (fun hHeld => ?_); refine with_tabW height_Parse.tab12 height_Parse.bits12 (fun HT_ HW_ => ?_)
 generalize wr.drew = wd at ST hHeld ⊢
 obtain ⟨⟨o0, o1, o2, o3, o4, o5⟩, of0, of1, of2, of3, of4, of5⟩ := cells6 ST.out.b4
 have n94 : g9 ≠ g4 := ST.out.d49.symm
 have nr4 : gr ≠ g4 := (blk_ne ST.out.br ST.out.b4 (by decide))
 refine pureA (i := 0) (N := some 67) HT_ ?_
 refine pureA (i := 1) (N := some 68) HT_ ?_
 refine pureA (i := 2) (N := some 69) HT_ ?_
 refine pureA (i := 3) (N := some 70) HT_ ?_
 refine takeA (i := 4) (N := some 71) HT_ HW_ hHeld ?_
 refine oneA (i := 5) (N := none) HT_ (fun K hK => ?_)
 refine skip_ (w1 := ?_) (by rfl) rfl ?_ ?_
 rotate_left
 ·go_simp
  rfl
 refine hK.out _ _ ?_ (fun hHeld2 => ?_)
 ·(repeat (first | refine (cell_far n94 _).trans ?_ | refine (cell_far nr4 _).trans ?_)); exact hHeld
 clear hHeld
 have hHeld := hHeld2
 clear hHeld2
 clear hK K
 refine pureA (i := 6) (N := some 5) HT_ ?_
 refine pureA (i := 7) (N := some 6) HT_ ?_
 refine done_ (done_of HT_.out (by kernel_rfl)) ?_
 clear HT_ HW_
 try go_wp2
 refine bodyPost_ret (results_ctt rfl _ _ g4 41 #[.bool false, .int .i64 0, .int .i64 0, .int .i64 0, .int .i64 0, .int .i64 0] (0, 0) _ rfl (blk_put (blk_put (blk_put (blk_put (blk_put (blk_put ST.out.b4 0 (.bool false) rfl) 1 (.int .i64 0) rfl) 2 (.int .i64 0) rfl) 3 (.int .i64 0) rfl) 4 (.int .i64 0) rfl) 5 (.int .i64 0) (cs' := #[.bool false, .int .i64 0, .int .i64 0, .int .i64 0, .int .i64 0, .int .i64 0]) rfl) Try.underlying41 rfl (by kernel_rfl)) rfl ?_
 exact ⟨rfl, (below_set (below_set (below_set (below_set (below_set (below_set ST.out.bl ST.out.n4) ST.out.n4) ST.out.n4) ST.out.n4) ST.out.n4) ST.out.n4)⟩
theorem hp_k_no (A0 : Option Addr) (c0 : Nat) (l0 : List Int) (a1 : Int) (w : World) (k p1 e1 t pt et o po eo r pr er d pd ed i pi ei : Int) (HL : l0.length ≤ 1000000000000) (HY : Bytes l0) (HR0 : Kd.C (Kd.int .u8) w A0 l0.length l0) (HC0 : l0.length ≤ c0) (HG1 : rd1 l0 1 a1 0 = (k, p1, e1)) (he : e1 = 0) (hk : ¬ k = 0) (hg : ¬ 1 < k) (HGt : rd8 l0 p1 0 = (t, pt, et)) (HGo : rd1 l0 1 pt et = (o, po, eo)) (HGr : rd1 l0 1 po eo = (r, pr, er)) (HGd : rd8 l0 pr er = (d, pd, ed)) (HGi : rd1 l0 1 pd ed = (i, pi, ei)) (hf : ei = 0) (hr : ¬ RH false t o r d i) :
  Calls Try.prog 50 #[.slice A0 l0.length c0, .int .i64 a1] w fun e w' => e = .returned (.tuple #[.agg #[.bool false, .int .i64 0, .int .i64 0, .int .i64 0, .int .i64 0, .int .i64 0], .int .i64 0, .int .i64 4]) ∧ Below w.heap.size w w' := by
 have hu23 := Try.underlying41
 have hu67 := Try.underlying100
 replace HL := Aside0.mk HL
 replace HY := Aside0.mk HY
 replace HR0 := Aside0.mk HR0
 replace HC0 := Aside0.mk HC0
 replace HG1 := Aside0.mk HG1
 replace HGt := Aside0.mk HGt
 replace HGo := Aside0.mk HGo
 replace HGr := Aside0.mk HGr
 replace HGd := Aside0.mk HGd
 replace HGi := Aside0.mk HGi
 subst he
 have b2 : (k == 0) = false := beq_eq_false_iff_ne.mpr hk
 have b3 : decide (1 < k) = false := decide_eq_false hg
 clear hk hg
 subst hf
 obtain ⟨K, hK⟩ := (hc_eq false t o r d i).rounds
 rw [if_neg hr] at hK
 have HK := Aside0.mk hK
 clear hK hr
 go_enter Try.func50, Try.ntmps50
 go_upto_region 4 with (first
  | ((with_reducible refine gate_dst (N := 4) rfl ?_); refine box_event ?hg (N := 4) ?hd (cs := #[.bool false, .int .i64 0, .int .i64 0, .int .i64 0, .int .i64 0, .int .i64 0]) (t := 41) ?hr ?_; (case hd => rfl); (case hg => rfl); (case hr => first | (go_simp; done) | (go_simp; rfl)); intro g4 hg w4 hbox hb; have HB4 := Aside0.mk hb; have G4 := Aside0.mk (Nat.le_of_eq hg.symm); have B4 := Aside0.mk hbox; clear hb hbox hg)
  | ((with_reducible refine gate_dst (N := 13) rfl ?_); refine box_event ?hg (N := 13) ?hd (cs := RdC A0 l0.length c0 a1 0) (t := 100) ?hr ?_; (case hd => rfl); (case hg => rfl); (case hr => first | (go_simp; done) | (go_simp; rfl)); intro gr hg w5 hbox hb; have HB5 := Aside0.mk (below_step HB4.out hb); have GR := Aside0.mk (show w.heap.size ≤ gr by rw [hg]; exact below_size HB4.out); have B45 := Aside0.mk (blk_below B4.out hb); have BR := Aside0.mk hbox; clear hb hbox hg HB4 B4)
  | ((with_reducible refine gate_dst (N := 15) rfl ?_); refine goesA (some 15) Try.func54 #[.pointer (some ⟨gr, 0, none⟩)] ?_; (with_reducible refine (hr_oneG gr A0 c0 l0 a1 0 _ _ _ _ HG1.out HY.out HL.out (Kd.C_below HR0.out HB5.out) HC0.out BR.out).mono ?_); rintro x_ w6 ⟨rfl, hbx, hgr⟩; refine ⟨_, rfl, ?_⟩; have HB6 := Aside0.mk (pw_below_grown HB5.out (some gr) (below_size HB5.out) hgr (fun k_ e_ => by cases e_; exact GR.out)); have B46 := Aside0.mk (blk_grown B45.out hgr (fun e_ => blk_ne B45.out BR.out (by decide) (Option.some.inj e_))); have BR6 := Aside0.mk hbx; clear hbx hgr HB5 B45 BR)
  | ((with_reducible refine gate_dst (N := 9) rfl ?_); refine box_event ?hg (N := 9) ?hd (cs := #[.bool false, .int .i64 0, .int .i64 0, .int .i64 0, .int .i64 0, .int .i64 0]) (t := 41) ?hr ?_; (case hd => rfl); (case hg => rfl); (case hr => first | (go_simp; done) | (go_simp; rfl)); intro g9 hg w7 hbox hb; have ST0 := Aside0.mk (HpSt.mk (blk_below B46.out hb) hbox (blk_below BR6.out hb) (below_step HB6.out hb) G4.out (by rw [hg]; exact below_size HB6.out) GR.out (by rw [hg]; exact Nat.ne_of_lt (blk_lt B46.out))); clear hb hbox hg; obtain ⟨⟨u0, u1, u2, u3, u4, u5⟩, uf0, uf1, uf2, uf3, uf4, uf5⟩ := cells6 ST0.out.b9))
 have ST := Aside0.mk (show HpSt w ((((((w7.setCell ⟨g9, 0, none⟩ (.bool false)).setCell ⟨g9, 1, none⟩ (.int .i64 0)).setCell ⟨g9, 2, none⟩ (.int .i64 0)).setCell ⟨g9, 3, none⟩ (.int .i64 0)).setCell ⟨g9, 4, none⟩ (.int .i64 0)).setCell ⟨g9, 5, none⟩ (.int .i64 0)) A0 l0.length c0 g4 g9 gr p1 0 #[.bool false, .int .i64 0, .int .i64 0, .int .i64 0, .int .i64 0, .int .i64 0] from (HpSt.put (HpSt.put (HpSt.put (HpSt.put (HpSt.put (HpSt.put ST0.out 0 (.bool false) rfl) 1 (.int .i64 0) rfl) 2 (.int .i64 0) rfl) 3 (.int .i64 0) rfl) 4 (.int .i64 0) rfl) 5 (.int .i64 0) rfl))
 generalize ((((((w7.setCell ⟨g9, 0, none⟩ (.bool false)).setCell ⟨g9, 1, none⟩ (.int .i64 0)).setCell ⟨g9, 2, none⟩ (.int .i64 0)).setCell ⟨g9, 3, none⟩ (.int .i64 0)).setCell ⟨g9, 4, none⟩ (.int .i64 0)).setCell ⟨g9, 5, none⟩ (.int .i64 0)) = wq at ST ⊢
 clear ST0 u0 uf0 u1 uf1 u2 uf2 u3 uf3 u4 uf4 u5 uf5
 obtain ⟨⟨v0, v1, v2⟩, vf0, vf1, vf2⟩ := cells3 ST.out.br
 obtain ⟨⟨y0, y1, y2, y3, y4, y5⟩, yf0, yf1, yf2, yf3, yf4, yf5⟩ := cells6 ST.out.b9
 go_upto_region 9 with (first
  | ((with_reducible refine gate_dst (N := 35) rfl ?_); refine goesA (some 35) Try.func55 #[.pointer (some ⟨gr, 0, none⟩)] ?_; (with_reducible refine (hr_eightG gr A0 c0 l0 p1 0 _ _ _ _ HGt.out HY.out HL.out (Kd.C_below HR0.out ST.out.bl) HC0.out ST.out.br).mono ?_); rintro x_ w35 ⟨rfl, hbx, hgr⟩; refine ⟨_, rfl, ?_⟩; have STn := Aside0.mk (ST.out.step hbx hgr); clear ST hbx hgr; have ST := STn; clear STn)
  | ((with_reducible refine gate_dst (N := 37) rfl ?_); refine goesA (some 37) Try.func54 #[.pointer (some ⟨gr, 0, none⟩)] ?_; (with_reducible refine (hr_oneG gr A0 c0 l0 pt et _ _ _ _ HGo.out HY.out HL.out (Kd.C_below HR0.out ST.out.bl) HC0.out ST.out.br).mono ?_); rintro x_ w37 ⟨rfl, hbx, hgr⟩; refine ⟨_, rfl, ?_⟩; have STn := Aside0.mk (ST.out.step hbx hgr); clear ST hbx hgr; have ST := STn; clear STn)
  | ((with_reducible refine gate_dst (N := 39) rfl ?_); refine goesA (some 39) Try.func54 #[.pointer (some ⟨gr, 0, none⟩)] ?_; (with_reducible refine (hr_oneG gr A0 c0 l0 po eo _ _ _ _ HGr.out HY.out HL.out (Kd.C_below HR0.out ST.out.bl) HC0.out ST.out.br).mono ?_); rintro x_ w39 ⟨rfl, hbx, hgr⟩; refine ⟨_, rfl, ?_⟩; have STn := Aside0.mk (ST.out.step hbx hgr); clear ST hbx hgr; have ST := STn; clear STn)
  | ((with_reducible refine gate_dst (N := 41) rfl ?_); refine goesA (some 41) Try.func55 #[.pointer (some ⟨gr, 0, none⟩)] ?_; (with_reducible refine (hr_eightG gr A0 c0 l0 pr er _ _ _ _ HGd.out HY.out HL.out (Kd.C_below HR0.out ST.out.bl) HC0.out ST.out.br).mono ?_); rintro x_ w41 ⟨rfl, hbx, hgr⟩; refine ⟨_, rfl, ?_⟩; have STn := Aside0.mk (ST.out.step hbx hgr); clear ST hbx hgr; have ST := STn; clear STn; obtain ⟨⟨z0, z1, z2, z3, z4, z5⟩, zf0, zf1, zf2, zf3, zf4, zf5⟩ := cells6 ST.out.b9)
  | ((with_reducible refine gate_dst (N := 47) rfl ?_); clear z0 zf0 z1 zf1 z2 zf2 z3 zf3 z4 zf4 z5 zf5; have STp := Aside0.mk (HpSt.put (HpSt.put (HpSt.put (HpSt.put ST.out 1 (.int .i64 t) rfl) 2 (.int .i64 o) rfl) 3 (.int .i64 r) rfl) 4 (.int .i64 d) rfl); clear ST; have ST := STp; clear STp; refine goesA (some 47) Try.func54 #[.pointer (some ⟨gr, 0, none⟩)] ?_; (with_reducible refine (hr_oneG gr A0 c0 l0 pd ed _ _ _ _ HGi.out HY.out HL.out (Kd.C_below HR0.out ST.out.bl) HC0.out ST.out.br).mono ?_); rintro x_ w47 ⟨rfl, hbx, hgr⟩; refine ⟨_, rfl, ?_⟩; have STn := Aside0.mk (ST.out.step hbx hgr); clear ST hbx hgr; have ST := STn; clear STn; obtain ⟨⟨x0, x1, x2, x3, x4, x5⟩, xf0, xf1, xf2, xf3, xf4, xf5⟩ := cells6 ST.out.b9))
 have STn := Aside0.mk (HpSt.put ST.out 5 (.int .i64 i) (cs2 := #[.bool false, .int .i64 t, .int .i64 o, .int .i64 r, .int .i64 d, .int .i64 i]) rfl)
 clear ST
 have ST := STn
 clear STn x0 xf0 x1 xf1 x2 xf2 x3 xf3 x4 xf4 x5 xf5
 clear v0 vf0 v1 vf1 v2 vf2
 clear y0 yf0 y1 yf1 y2 yf2 y3 yf3 y4 yf4 y5 yf5
 generalize (w47.setCell ⟨g9, 5, none⟩ (.int .i64 i)) = wr at ST ⊢
 obtain ⟨⟨v0, v1, v2⟩, vf0, vf1, vf2⟩ := cells3 ST.out.br
 obtain ⟨⟨y0, y1, y2, y3, y4, y5⟩, yf0, yf1, yf2, yf3, yf4, yf5⟩ := cells6 ST.out.b9
 go_upto_region 12 with ((go_at_call 44; (with_reducible refine (height_Check.calls K false t o r d i 1 _ HK.out).mono ?_); rintro x_ ws ⟨rfl, hb⟩; have STn := Aside0.mk (HpSt.below ST.out hb); clear ST hb; have ST := STn; clear STn; obtain ⟨⟨s0, s1, s2⟩, sf0, sf1, sf2⟩ := cells3 ST.out.br))
 clear v0 vf0 v1 vf1 v2 vf2 y0 yf0 y1 yf1 y2 yf2 y3 yf3 y4 yf4 y5 yf5 s0 sf0 s1 sf1 s2 sf2
 have STn := Aside0.mk (HpSt.err ST.out 4)
 clear ST
 have ST := STn
 clear STn
 generalize (ws.setCell ⟨gr, 2, none⟩ (.int .i64 4)) = wt at ST ⊢
 have STd := Aside0.mk (HpSt.drew ST.out)
 clear ST
 have ST := STd
 clear STd
 refine start_ (n := 8) (S := fun w' => w'.cell? ⟨gr, 2, none⟩ = some (.int .i64 4)) (ds := []) #[false, false, false, false, false, false, false, false] (by kernel_rfl) rfl rfl ((blk_cell ST.out.br 2).trans rfl) (fun hHeld => ?_); refine with_tabW height_Parse.tab12 height_Parse.bits12 (fun HT_ HW_ => ?_)
 generalize wt.drew = wd at ST hHeld ⊢
 obtain ⟨⟨o0, o1, o2, o3, o4, o5⟩, of0, of1, of2, of3, of4, of5⟩ := cells6 ST.out.b4
 have n94 : g9 ≠ g4 := ST.out.d49.symm
 have nr4 : gr ≠ g4 := (blk_ne ST.out.br ST.out.b4 (by decide))
 refine pureA (i := 0) (N := some 67) HT_ ?_
 refine pureA (i := 1) (N := some 68) HT_ ?_
 refine pureA (i := 2) (N := some 69) HT_ ?_
 refine pureA (i := 3) (N := some 70) HT_ ?_
 refine takeA (i := 4) (N := some 71) HT_ HW_ hHeld ?_
 refine oneA (i := 5) (N := none) HT_ (fun K hK => ?_)
 refine skip_ (w1 := ?_) (by rfl) rfl ?_ ?_
 rotate_left
 ·go_simp
  rfl
 refine hK.out _ _ ?_ (fun hHeld2 => ?_)
 ·(repeat (first | refine (cell_far n94 _).trans ?_ | refine (cell_far nr4 _).trans ?_)); exact hHeld
 clear hHeld
 have hHeld := hHeld2
 clear hHeld2
 clear hK K
 refine pureA (i := 6) (N := some 5) HT_ ?_
 refine pureA (i := 7) (N := some 6) HT_ ?_
 refine done_ (done_of HT_.out (by kernel_rfl)) ?_
 clear HT_ HW_
 try go_wp2
 refine bodyPost_ret (results_ctt rfl _ _ g4 41 #[.bool false, .int .i64 0, .int .i64 0, .int .i64 0, .int .i64 0, .int .i64 0] (0, 0) _ rfl (blk_put (blk_put (blk_put (blk_put (blk_put (blk_put ST.out.b4 0 (.bool false) rfl) 1 (.int .i64 0) rfl) 2 (.int .i64 0) rfl) 3 (.int .i64 0) rfl) 4 (.int .i64 0) rfl) 5 (.int .i64 0) (cs' := #[.bool false, .int .i64 0, .int .i64 0, .int .i64 0, .int .i64 0, .int .i64 0]) rfl) Try.underlying41 rfl (by kernel_rfl)) rfl ?_
 exact ⟨rfl, (below_set (below_set (below_set (below_set (below_set (below_set ST.out.bl ST.out.n4) ST.out.n4) ST.out.n4) ST.out.n4) ST.out.n4) ST.out.n4)⟩
theorem hp_k_yes (A0 : Option Addr) (c0 : Nat) (l0 : List Int) (a1 : Int) (w : World) (k p1 e1 t pt et o po eo r pr er d pd ed i pi ei : Int) (HL : l0.length ≤ 1000000000000) (HY : Bytes l0) (HR0 : Kd.C (Kd.int .u8) w A0 l0.length l0) (HC0 : l0.length ≤ c0) (HG1 : rd1 l0 1 a1 0 = (k, p1, e1)) (he : e1 = 0) (hk : ¬ k = 0) (hg : ¬ 1 < k) (HGt : rd8 l0 p1 0 = (t, pt, et)) (HGo : rd1 l0 1 pt et = (o, po, eo)) (HGr : rd1 l0 1 po eo = (r, pr, er)) (HGd : rd8 l0 pr er = (d, pd, ed)) (HGi : rd1 l0 1 pd ed = (i, pi, ei)) (hf : ei = 0) (hr : RH false t o r d i) :
  Calls Try.prog 50 #[.slice A0 l0.length c0, .int .i64 a1] w fun e w' => e = .returned (.tuple #[.agg #[.bool false, .int .i64 t, .int .i64 o, .int .i64 r, .int .i64 d, .int .i64 i], .int .i64 pi, .int .i64 0]) ∧ Below w.heap.size w w' := by
 have hu23 := Try.underlying41
 have hu67 := Try.underlying100
 replace HL := Aside0.mk HL
 replace HY := Aside0.mk HY
 replace HR0 := Aside0.mk HR0
 replace HC0 := Aside0.mk HC0
 replace HG1 := Aside0.mk HG1
 replace HGt := Aside0.mk HGt
 replace HGo := Aside0.mk HGo
 replace HGr := Aside0.mk HGr
 replace HGd := Aside0.mk HGd
 replace HGi := Aside0.mk HGi
 subst he
 have b2 : (k == 0) = false := beq_eq_false_iff_ne.mpr hk
 have b3 : decide (1 < k) = false := decide_eq_false hg
 clear hk hg
 subst hf
 obtain ⟨K, hK⟩ := (hc_eq false t o r d i).rounds
 rw [if_pos hr] at hK
 have HK := Aside0.mk hK
 clear hK hr
 go_enter Try.func50, Try.ntmps50
 go_upto_region 4 with (first
  | ((with_reducible refine gate_dst (N := 4) rfl ?_); refine box_event ?hg (N := 4) ?hd (cs := #[.bool false, .int .i64 0, .int .i64 0, .int .i64 0, .int .i64 0, .int .i64 0]) (t := 41) ?hr ?_; (case hd => rfl); (case hg => rfl); (case hr => first | (go_simp; done) | (go_simp; rfl)); intro g4 hg w4 hbox hb; have HB4 := Aside0.mk hb; have G4 := Aside0.mk (Nat.le_of_eq hg.symm); have B4 := Aside0.mk hbox; clear hb hbox hg)
  | ((with_reducible refine gate_dst (N := 13) rfl ?_); refine box_event ?hg (N := 13) ?hd (cs := RdC A0 l0.length c0 a1 0) (t := 100) ?hr ?_; (case hd => rfl); (case hg => rfl); (case hr => first | (go_simp; done) | (go_simp; rfl)); intro gr hg w5 hbox hb; have HB5 := Aside0.mk (below_step HB4.out hb); have GR := Aside0.mk (show w.heap.size ≤ gr by rw [hg]; exact below_size HB4.out); have B45 := Aside0.mk (blk_below B4.out hb); have BR := Aside0.mk hbox; clear hb hbox hg HB4 B4)
  | ((with_reducible refine gate_dst (N := 15) rfl ?_); refine goesA (some 15) Try.func54 #[.pointer (some ⟨gr, 0, none⟩)] ?_; (with_reducible refine (hr_oneG gr A0 c0 l0 a1 0 _ _ _ _ HG1.out HY.out HL.out (Kd.C_below HR0.out HB5.out) HC0.out BR.out).mono ?_); rintro x_ w6 ⟨rfl, hbx, hgr⟩; refine ⟨_, rfl, ?_⟩; have HB6 := Aside0.mk (pw_below_grown HB5.out (some gr) (below_size HB5.out) hgr (fun k_ e_ => by cases e_; exact GR.out)); have B46 := Aside0.mk (blk_grown B45.out hgr (fun e_ => blk_ne B45.out BR.out (by decide) (Option.some.inj e_))); have BR6 := Aside0.mk hbx; clear hbx hgr HB5 B45 BR)
  | ((with_reducible refine gate_dst (N := 9) rfl ?_); refine box_event ?hg (N := 9) ?hd (cs := #[.bool false, .int .i64 0, .int .i64 0, .int .i64 0, .int .i64 0, .int .i64 0]) (t := 41) ?hr ?_; (case hd => rfl); (case hg => rfl); (case hr => first | (go_simp; done) | (go_simp; rfl)); intro g9 hg w7 hbox hb; have ST0 := Aside0.mk (HpSt.mk (blk_below B46.out hb) hbox (blk_below BR6.out hb) (below_step HB6.out hb) G4.out (by rw [hg]; exact below_size HB6.out) GR.out (by rw [hg]; exact Nat.ne_of_lt (blk_lt B46.out))); clear hb hbox hg; obtain ⟨⟨u0, u1, u2, u3, u4, u5⟩, uf0, uf1, uf2, uf3, uf4, uf5⟩ := cells6 ST0.out.b9))
 have ST := Aside0.mk (show HpSt w ((((((w7.setCell ⟨g9, 0, none⟩ (.bool false)).setCell ⟨g9, 1, none⟩ (.int .i64 0)).setCell ⟨g9, 2, none⟩ (.int .i64 0)).setCell ⟨g9, 3, none⟩ (.int .i64 0)).setCell ⟨g9, 4, none⟩ (.int .i64 0)).setCell ⟨g9, 5, none⟩ (.int .i64 0)) A0 l0.length c0 g4 g9 gr p1 0 #[.bool false, .int .i64 0, .int .i64 0, .int .i64 0, .int .i64 0, .int .i64 0] from (HpSt.put (HpSt.put (HpSt.put (HpSt.put (HpSt.put (HpSt.put ST0.out 0 (.bool false) rfl) 1 (.int .i64 0) rfl) 2 (.int .i64 0) rfl) 3 (.int .i64 0) rfl) 4 (.int .i64 0) rfl) 5 (.int .i64 0) rfl))
 generalize ((((((w7.setCell ⟨g9, 0, none⟩ (.bool false)).setCell ⟨g9, 1, none⟩ (.int .i64 0)).setCell ⟨g9, 2, none⟩ (.int .i64 0)).setCell ⟨g9, 3, none⟩ (.int .i64 0)).setCell ⟨g9, 4, none⟩ (.int .i64 0)).setCell ⟨g9, 5, none⟩ (.int .i64 0)) = wq at ST ⊢
 clear ST0 u0 uf0 u1 uf1 u2 uf2 u3 uf3 u4 uf4 u5 uf5
 obtain ⟨⟨v0, v1, v2⟩, vf0, vf1, vf2⟩ := cells3 ST.out.br
 obtain ⟨⟨y0, y1, y2, y3, y4, y5⟩, yf0, yf1, yf2, yf3, yf4, yf5⟩ := cells6 ST.out.b9
 go_upto_region 9 with (first
  | ((with_reducible refine gate_dst (N := 35) rfl ?_); refine goesA (some 35) Try.func55 #[.pointer (some ⟨gr, 0, none⟩)] ?_; (with_reducible refine (hr_eightG gr A0 c0 l0 p1 0 _ _ _ _ HGt.out HY.out HL.out (Kd.C_below HR0.out ST.out.bl) HC0.out ST.out.br).mono ?_); rintro x_ w35 ⟨rfl, hbx, hgr⟩; refine ⟨_, rfl, ?_⟩; have STn := Aside0.mk (ST.out.step hbx hgr); clear ST hbx hgr; have ST := STn; clear STn)
  | ((with_reducible refine gate_dst (N := 37) rfl ?_); refine goesA (some 37) Try.func54 #[.pointer (some ⟨gr, 0, none⟩)] ?_; (with_reducible refine (hr_oneG gr A0 c0 l0 pt et _ _ _ _ HGo.out HY.out HL.out (Kd.C_below HR0.out ST.out.bl) HC0.out ST.out.br).mono ?_); rintro x_ w37 ⟨rfl, hbx, hgr⟩; refine ⟨_, rfl, ?_⟩; have STn := Aside0.mk (ST.out.step hbx hgr); clear ST hbx hgr; have ST := STn; clear STn)
  | ((with_reducible refine gate_dst (N := 39) rfl ?_); refine goesA (some 39) Try.func54 #[.pointer (some ⟨gr, 0, none⟩)] ?_; (with_reducible refine (hr_oneG gr A0 c0 l0 po eo _ _ _ _ HGr.out HY.out HL.out (Kd.C_below HR0.out ST.out.bl) HC0.out ST.out.br).mono ?_); rintro x_ w39 ⟨rfl, hbx, hgr⟩; refine ⟨_, rfl, ?_⟩; have STn := Aside0.mk (ST.out.step hbx hgr); clear ST hbx hgr; have ST := STn; clear STn)
  | ((with_reducible refine gate_dst (N := 41) rfl ?_); refine goesA (some 41) Try.func55 #[.pointer (some ⟨gr, 0, none⟩)] ?_; (with_reducible refine (hr_eightG gr A0 c0 l0 pr er _ _ _ _ HGd.out HY.out HL.out (Kd.C_below HR0.out ST.out.bl) HC0.out ST.out.br).mono ?_); rintro x_ w41 ⟨rfl, hbx, hgr⟩; refine ⟨_, rfl, ?_⟩; have STn := Aside0.mk (ST.out.step hbx hgr); clear ST hbx hgr; have ST := STn; clear STn; obtain ⟨⟨z0, z1, z2, z3, z4, z5⟩, zf0, zf1, zf2, zf3, zf4, zf5⟩ := cells6 ST.out.b9)
  | ((with_reducible refine gate_dst (N := 47) rfl ?_); clear z0 zf0 z1 zf1 z2 zf2 z3 zf3 z4 zf4 z5 zf5; have STp := Aside0.mk (HpSt.put (HpSt.put (HpSt.put (HpSt.put ST.out 1 (.int .i64 t) rfl) 2 (.int .i64 o) rfl) 3 (.int .i64 r) rfl) 4 (.int .i64 d) rfl); clear ST; have ST := STp; clear STp; refine goesA (some 47) Try.func54 #[.pointer (some ⟨gr, 0, none⟩)] ?_; (with_reducible refine (hr_oneG gr A0 c0 l0 pd ed _ _ _ _ HGi.out HY.out HL.out (Kd.C_below HR0.out ST.out.bl) HC0.out ST.out.br).mono ?_); rintro x_ w47 ⟨rfl, hbx, hgr⟩; refine ⟨_, rfl, ?_⟩; have STn := Aside0.mk (ST.out.step hbx hgr); clear ST hbx hgr; have ST := STn; clear STn; obtain ⟨⟨x0, x1, x2, x3, x4, x5⟩, xf0, xf1, xf2, xf3, xf4, xf5⟩ := cells6 ST.out.b9))
 have STn := Aside0.mk (HpSt.put ST.out 5 (.int .i64 i) (cs2 := #[.bool false, .int .i64 t, .int .i64 o, .int .i64 r, .int .i64 d, .int .i64 i]) rfl)
 clear ST
 have ST := STn
 clear STn x0 xf0 x1 xf1 x2 xf2 x3 xf3 x4 xf4 x5 xf5
 clear v0 vf0 v1 vf1 v2 vf2
 clear y0 yf0 y1 yf1 y2 yf2 y3 yf3 y4 yf4 y5 yf5
 generalize (w47.setCell ⟨g9, 5, none⟩ (.int .i64 i)) = wr at ST ⊢
 obtain ⟨⟨v0, v1, v2⟩, vf0, vf1, vf2⟩ := cells3 ST.out.br
 obtain ⟨⟨y0, y1, y2, y3, y4, y5⟩, yf0, yf1, yf2, yf3, yf4, yf5⟩ := cells6 ST.out.b9
 go_upto_region 13 with ((go_at_call 44; (with_reducible refine (height_Check.calls K false t o r d i 0 _ HK.out).mono ?_); rintro x_ ws ⟨rfl, hb⟩; have STn := Aside0.mk (HpSt.below ST.out hb); clear ST hb; have ST := STn; clear STn; obtain ⟨⟨s0, s1, s2⟩, sf0, sf1, sf2⟩ := cells3 ST.out.br))
 clear v0 vf0 v1 vf1 v2 vf2 y0 yf0 y1 yf1 y2 yf2 y3 yf3 y4 yf4 y5 yf5 s0 sf0 s1 sf1 s2 sf2
 have STd := Aside0.mk (HpSt.drew ST.out)
 clear ST
 have ST := STd
 clear STd
 refine start_ (n := 8) (S := fun w' => w'.cell? ⟨g9, 0, none⟩ = some (.bool false) ∧ w'.cell? ⟨g9, 1, none⟩ = some (.int .i64 t) ∧ w'.cell? ⟨g9, 2, none⟩ = some (.int .i64 o) ∧ w'.cell? ⟨g9, 3, none⟩ = some (.int .i64 r) ∧ w'.cell? ⟨g9, 4, none⟩ = some (.int .i64 d) ∧ w'.cell? ⟨g9, 5, none⟩ = some (.int .i64 i) ∧ w'.cell? ⟨gr, 1, none⟩ = some (.int .i64 pi)) (ds := []) #[false, false, false, false, false, false, false, false] (by kernel_rfl) rfl rfl ⟨(blk_cell ST.out.b9 0).trans rfl, (blk_cell ST.out.b9 1).trans rfl, (blk_cell ST.out.b9 2).trans rfl, (blk_cell ST.out.b9 3).trans rfl, (blk_cell ST.out.b9 4).trans rfl, (blk_cell ST.out.b9 5).trans rfl, (blk_cell ST.out.br 1).trans rfl⟩ (fun hHeld => ?_); refine with_tabW height_Parse.tab13 height_Parse.bits13 (fun HT_ HW_ => ?_)
 generalize ws.drew = wd at ST hHeld ⊢
 obtain ⟨⟨o0, o1, o2, o3, o4, o5⟩, of0, of1, of2, of3, of4, of5⟩ := cells6 ST.out.b4
 have n94 : g9 ≠ g4 := ST.out.d49.symm
 have nr4 : gr ≠ g4 := (blk_ne ST.out.br ST.out.b4 (by decide))
 refine pureA (i := 1) (N := some 73) HT_ ?_
 refine pureA (i := 2) (N := some 74) HT_ ?_
 refine pureA (i := 3) (N := some 75) HT_ ?_
 refine takeA (i := 0) (N := some 72) HT_ HW_ hHeld ?_
 refine takeA (i := 4) (N := some 76) HT_ HW_ hHeld ?_
 refine oneA (i := 5) (N := none) HT_ (fun K hK => ?_)
 refine skip_ (w1 := ?_) (by rfl) rfl ?_ ?_
 rotate_left
 ·go_simp
  rfl
 refine hK.out _ _ ?_ (fun hHeld2 => ?_)
 ·refine ⟨?_, ?_, ?_, ?_, ?_, ?_, ?_⟩
  ·(repeat (first | refine (cell_far n94 _).trans ?_ | refine (cell_far nr4 _).trans ?_)); exact hHeld.1
  ·(repeat (first | refine (cell_far n94 _).trans ?_ | refine (cell_far nr4 _).trans ?_)); exact hHeld.2.1
  ·(repeat (first | refine (cell_far n94 _).trans ?_ | refine (cell_far nr4 _).trans ?_)); exact hHeld.2.2.1
  ·(repeat (first | refine (cell_far n94 _).trans ?_ | refine (cell_far nr4 _).trans ?_)); exact hHeld.2.2.2.1
  ·(repeat (first | refine (cell_far n94 _).trans ?_ | refine (cell_far nr4 _).trans ?_)); exact hHeld.2.2.2.2.1
  ·(repeat (first | refine (cell_far n94 _).trans ?_ | refine (cell_far nr4 _).trans ?_)); exact hHeld.2.2.2.2.2.1
  ·(repeat (first | refine (cell_far n94 _).trans ?_ | refine (cell_far nr4 _).trans ?_)); exact hHeld.2.2.2.2.2.2
 clear hHeld
 have hHeld := hHeld2
 clear hHeld2
 clear hK K
 refine pureA (i := 6) (N := some 5) HT_ ?_
 refine pureA (i := 7) (N := some 6) HT_ ?_
 refine done_ (done_of HT_.out (by kernel_rfl)) ?_
 clear HT_ HW_
 try go_wp2
 refine bodyPost_ret (results_ctt rfl _ _ g4 41 #[.bool false, .int .i64 t, .int .i64 o, .int .i64 r, .int .i64 d, .int .i64 i] (0, 0) _ rfl (blk_put (blk_put (blk_put (blk_put (blk_put (blk_put ST.out.b4 0 (.bool false) rfl) 1 (.int .i64 t) rfl) 2 (.int .i64 o) rfl) 3 (.int .i64 r) rfl) 4 (.int .i64 d) rfl) 5 (.int .i64 i) (cs' := #[.bool false, .int .i64 t, .int .i64 o, .int .i64 r, .int .i64 d, .int .i64 i]) rfl) Try.underlying41 rfl (by kernel_rfl)) rfl ?_
 exact ⟨rfl, (below_set (below_set (below_set (below_set (below_set (below_set ST.out.bl ST.out.n4) ST.out.n4) ST.out.n4) ST.out.n4) ST.out.n4) ST.out.n4)⟩
theorem rdStep_bad {G : Int × Int × Int} {a v p e : Int} (h : rdStep G a 0 = (v, p, e)) (he : ¬ e = 0) : v = 0 := by
 unfold rdStep at h
 rw [if_pos rfl] at h
 split at h
 ·simp only [Prod.mk.injEq] at h
  exact absurd h.2.2.symm he
 ·simp only [Prod.mk.injEq] at h
  exact h.1.symm
theorem rdStep_stay {G : Int × Int × Int} {a e0 v p e : Int} (h0 : ¬ e0 = 0) (h : rdStep G a e0 = (v, p, e)) : e = e0 := by
 unfold rdStep at h
 rw [if_neg h0] at h
 simp only [Prod.mk.injEq] at h
 exact h.2.2.symm
theorem height_Parse.calls (A0 : Option Addr) (c0 : Nat) (l0 : List Int) (a1 : Int) (r1 : Bool) (r2 r3 r4 r5 r6 r7 r8 : Int) (w : World) (hr0 : Kd.C (Kd.int .u8) w A0 l0.length l0) (hc0 : l0.length ≤ c0) (h : height_Parse.f l0 a1 = some (r1, r2, r3, r4, r5, r6, r7, r8)) :
  Calls Try.prog 50 #[.slice A0 l0.length c0, .int .i64 a1] w fun e w' => e = .returned (.tuple #[.agg #[.bool r1, .int .i64 r2, .int .i64 r3, .int .i64 r4, .int .i64 r5, .int .i64 r6], .int .i64 r7, .int .i64 r8]) ∧ Below w.heap.size w w' := by
 obtain ⟨hL, hB, hP⟩ : l0.length ≤ 1000000000000 ∧ Bytes l0 ∧ hpGo l0 a1 = (r1, r2, r3, r4, r5, r6, r7, r8) := by
  unfold height_Parse.f at h
  split at h
  ·rename_i hc
   exact ⟨hc.1, hc.2, Option.some.inj h⟩
  ·exact absurd h (by simp)
 clear h
 obtain ⟨k, p1, e1, hk1⟩ : ∃ k p1 e1, rd1 l0 1 a1 0 = (k, p1, e1) := ⟨_, _, _, rfl⟩
 unfold hpGo at hP
 simp only [hk1] at hP
 by_cases he : e1 = 0
 ·by_cases hk : k = 0
  ·rw [if_pos hk] at hP
   have hz : hpErr k e1 = 0 := by unfold hpErr; rw [if_pos he, if_neg (by omega)]
   rw [hz] at hP
   obtain ⟨i, pi, ei, hi⟩ : ∃ i pi ei, rd1 l0 1 p1 0 = (i, pi, ei) := ⟨_, _, _, rfl⟩
   simp only [hi, hpFin] at hP
   by_cases hf : ei = 0
   ·rw [if_pos hf] at hP
    by_cases hr : RH true 0 0 0 0 i
    ·rw [if_pos hr] at hP
     simp only [Prod.mk.injEq] at hP
     obtain ⟨rfl, rfl, rfl, rfl, rfl, rfl, rfl, rfl⟩ := hP
     exact hp_n_yes A0 c0 l0 a1 w k p1 e1 i pi ei hL hB hr0 hc0 hk1 he hk (by omega) hi hf hr
    ·rw [if_neg hr] at hP
     simp only [hpNo, Prod.mk.injEq] at hP
     obtain ⟨rfl, rfl, rfl, rfl, rfl, rfl, rfl, rfl⟩ := hP
     exact hp_n_no A0 c0 l0 a1 w k p1 e1 i pi ei hL hB hr0 hc0 hk1 he hk (by omega) hi hf hr
   ·rw [if_neg hf] at hP
    simp only [hpNo, Prod.mk.injEq] at hP
    obtain ⟨rfl, rfl, rfl, rfl, rfl, rfl, rfl, rfl⟩ := hP
    exact hp_n_e A0 c0 l0 a1 w k p1 e1 i pi _ hL hB hr0 hc0 hk1 he hk (by omega) hi hf
  ·rw [if_neg hk] at hP
   by_cases hg : 1 < k
   ·have hz : hpErr k e1 = 4 := by unfold hpErr; rw [if_pos he, if_pos hg]
    rw [hz] at hP
    obtain ⟨t, pt, et, ht⟩ : ∃ t pt et, rd8 l0 p1 4 = (t, pt, et) := ⟨_, _, _, rfl⟩
    obtain ⟨o, po, eo, ho⟩ : ∃ o po eo, rd1 l0 1 pt et = (o, po, eo) := ⟨_, _, _, rfl⟩
    obtain ⟨r, pr, er, hr⟩ : ∃ r pr er, rd1 l0 1 po eo = (r, pr, er) := ⟨_, _, _, rfl⟩
    obtain ⟨d, pd, ed, hd⟩ : ∃ d pd ed, rd8 l0 pr er = (d, pd, ed) := ⟨_, _, _, rfl⟩
    obtain ⟨i, pi, ei, hi⟩ : ∃ i pi ei, rd1 l0 1 pd ed = (i, pi, ei) := ⟨_, _, _, rfl⟩
    simp only [ht, ho, hr, hd, hi, hpFin] at hP
    have h1 : et = 4 := rdStep_stay (by decide) ht
    have h2 : eo = et := rdStep_stay (by omega) ho
    have h3 : er = eo := rdStep_stay (by omega) hr
    have h4 : ed = er := rdStep_stay (by omega) hd
    have h5 : ei = ed := rdStep_stay (by omega) hi
    have hf : ¬ ei = 0 := by omega
    rw [if_neg hf] at hP
    simp only [hpNo, Prod.mk.injEq] at hP
    obtain ⟨rfl, rfl, rfl, rfl, rfl, rfl, rfl, rfl⟩ := hP
    exact hp_gt A0 c0 l0 a1 w k p1 e1 t pt et o po eo r pr er d pd ed i pi _ hL hB hr0 hc0 hk1 he hk hg ht ho hr hd hi hf
   ·have hz : hpErr k e1 = 0 := by unfold hpErr; rw [if_pos he, if_neg hg]
    rw [hz] at hP
    obtain ⟨t, pt, et, ht⟩ : ∃ t pt et, rd8 l0 p1 0 = (t, pt, et) := ⟨_, _, _, rfl⟩
    obtain ⟨o, po, eo, ho⟩ : ∃ o po eo, rd1 l0 1 pt et = (o, po, eo) := ⟨_, _, _, rfl⟩
    obtain ⟨r, pr, er, hr⟩ : ∃ r pr er, rd1 l0 1 po eo = (r, pr, er) := ⟨_, _, _, rfl⟩
    obtain ⟨d, pd, ed, hd⟩ : ∃ d pd ed, rd8 l0 pr er = (d, pd, ed) := ⟨_, _, _, rfl⟩
    obtain ⟨i, pi, ei, hi⟩ : ∃ i pi ei, rd1 l0 1 pd ed = (i, pi, ei) := ⟨_, _, _, rfl⟩
    simp only [ht, ho, hr, hd, hi, hpFin] at hP
    by_cases hf : ei = 0
    ·rw [if_pos hf] at hP
     by_cases hrh : RH false t o r d i
     ·rw [if_pos hrh] at hP
      simp only [Prod.mk.injEq] at hP
      obtain ⟨rfl, rfl, rfl, rfl, rfl, rfl, rfl, rfl⟩ := hP
      exact hp_k_yes A0 c0 l0 a1 w k p1 e1 _ pt et _ po eo _ pr er _ pd ed _ _ ei hL hB hr0 hc0 hk1 he hk hg ht ho hr hd hi hf hrh
     ·rw [if_neg hrh] at hP
      simp only [hpNo, Prod.mk.injEq] at hP
      obtain ⟨rfl, rfl, rfl, rfl, rfl, rfl, rfl, rfl⟩ := hP
      exact hp_k_no A0 c0 l0 a1 w k p1 e1 t pt et o po eo r pr er d pd ed i pi ei hL hB hr0 hc0 hk1 he hk hg ht ho hr hd hi hf hrh
    ·rw [if_neg hf] at hP
     simp only [hpNo, Prod.mk.injEq] at hP
     obtain ⟨rfl, rfl, rfl, rfl, rfl, rfl, rfl, rfl⟩ := hP
     exact hp_k_e A0 c0 l0 a1 w k p1 e1 t pt et o po eo r pr er d pd ed i pi _ hL hB hr0 hc0 hk1 he hk hg ht ho hr hd hi hf
 ·have hk : k = 0 := rdStep_bad hk1 he
  rw [if_pos hk] at hP
  have hz : hpErr k e1 = e1 := by unfold hpErr; rw [if_neg he]
  rw [hz] at hP
  obtain ⟨i, pi, ei, hi⟩ : ∃ i pi ei, rd1 l0 1 p1 e1 = (i, pi, ei) := ⟨_, _, _, rfl⟩
  have h5 : ei = e1 := rdStep_stay he hi
  have hf : ¬ ei = 0 := by omega
  simp only [hi, hpFin] at hP
  rw [if_neg hf] at hP
  simp only [hpNo, Prod.mk.injEq] at hP
  obtain ⟨rfl, rfl, rfl, rfl, rfl, rfl, rfl, rfl⟩ := hP
  exact hp_bad A0 c0 l0 a1 w k p1 e1 i pi _ hL hB hr0 hc0 hk1 hk he hi hf
theorem grown_new {w w1 : World} {g g2 i : Nat} {u : Value} (h : w.grownBy w1 (some g)) (h2 : w.heap.size ≤ g2) : w.grownBy (w1.setCell ⟨g2, i, none⟩ u) (some g) :=
 ⟨h.os, h.tape, h.output, by simpa [World.setCell] using h.size, fun k hk hn => (Below.heap_setCell w1 ⟨g2, i, none⟩ u k (fun e => by simp only at e; omega)).trans (h.block k hk hn)⟩
def rdN (l : List Int) (n at_ e : Int) : Int × Int × Int := if n = 8 then rd8 l at_ e else rd1 l n at_ e
theorem or_numE (g : Nat) (A : Option Addr) (n c : Nat) (at_ e sz : Int) (w : World) (he : ¬ e = 0) (hb : w.heap[g]? = some (.cells (RdC A n c at_ e) 77 (0, 0))) :
  Calls Try.prog 42 #[.pointer (some ⟨g, 0, none⟩), .int .i64 sz] w fun x w' => x = .returned (.int .i64 0) ∧ w' = w := by
 have h1 : w.cell? ⟨g, 2, none⟩ = some (.int .i64 e) := (blk_cell hb 2).trans rfl
 have b0 : (e != 0) = true := bne_iff_ne.mpr he
 clear hb he
 go_enter Try.func42, Try.ntmps42
 go_wp2
 go_ret
 exact ⟨rfl, rfl⟩
def or_num8.T5 : Bool × List (List Nat × List Nat) := (true, [([], []), ([0], [0]), ([1], [1]), ([2], [2]), ([], []), ([4], [4]), ([5], [5]), ([6], [6]), ([3, 7], [3, 7]), ([8], [8]), ([9], [9]), ([9], [9]), ([9], [9]), ([10, 8, 0, 1, 2, 3, 4, 5, 6, 7, 8, 9, 10], [10]), ([11, 13, 0, 1, 2, 3, 4, 5, 6, 7, 8, 9, 10, 11, 13], [11]), ([12, 14, 0, 1, 2, 3, 4, 5, 6, 7, 8, 9, 10, 11, 12, 13, 14], [12])])
def or_num8.B5 : List Nat := [0, 1, 3, 7, 0, 16, 48, 112, 255, 511, 1023, 1023, 1023, 2047, 12287, 32767]
theorem or_num8.tab5 : rtab .any (opsOf Try.f42 5) = or_num8.T5 := by kernel_rfl
theorem or_num8.bits5 : waitsOk or_num8.T5.2 or_num8.B5 = true := by kernel_rfl
theorem or_num8 (g : Nat) (A : Option Addr) (c : Nat) (l : List Int) (at_ e s1 s2 s3 : Int) (w : World) (he : e = 0) (hG : getIntSpec l at_ = (s1, s2, s3)) (hs : s3 = 0) (hB : Bytes l) (hl : l.length ≤ 1000000000000) (hr : Kd.C (Kd.int .u8) w A l.length l) (hc : l.length ≤ c) (hb : w.heap[g]? = some (.cells (RdC A l.length c at_ e) 77 (0, 0))) :
  Calls Try.prog 42 #[.pointer (some ⟨g, 0, none⟩), .int .i64 8] w fun x w' => x = .returned (.int .i64 s1) ∧ w'.heap[g]? = some (.cells (RdC A l.length c s2 0) 77 (0, 0)) ∧ w.grownBy w' (some g) := by
 subst he
 have h2 : w.cell? ⟨g, 2, none⟩ = some (.int .i64 0) := (blk_cell hb 2).trans rfl
 have HBB := Aside0.mk hb
 have HG := Aside0.mk (show wire_GetInt.f l at_ = some (s1, s2, s3) by rw [wire_GetInt_eq _ _ hB hl, hG])
 have HR := Aside0.mk hr
 have HC := Aside0.mk hc
 subst hs
 skip
 clear hG hb hr hc hB hl
 go_enter Try.func42, Try.ntmps42
 go_upto_region 5 with (fail)
 clear h2
 refine start_ (n := 16) (S := fun w' => w'.cell? ⟨g, 0, none⟩ = some (.slice A l.length c) ∧ w'.cell? ⟨g, 1, none⟩ = some (.int .i64 at_)) (ds := []) #[false, false, false, false, false, false, false, false, false, false, false, false, false, false, false, false] (by kernel_rfl) rfl rfl ⟨(blk_cell HBB.out 0).trans rfl, (blk_cell HBB.out 1).trans rfl⟩ (fun hHeld => ?_); refine with_tabW or_num8.tab5 or_num8.bits5 (fun HT_ HW_ => ?_)
 refine pureA (i := 0) (N := some 16) HT_ ?_
 refine pureA (i := 1) (N := some 17) HT_ ?_
 refine pureA (i := 2) (N := some 18) HT_ ?_
 refine pureA (i := 4) (N := some 20) HT_ ?_
 refine pureA (i := 5) (N := some 21) HT_ ?_
 refine pureA (i := 6) (N := some 22) HT_ ?_
 refine takeA (i := 3) (N := some 19) HT_ HW_ hHeld ?_
 refine takeA (i := 7) (N := some 23) HT_ HW_ hHeld ?_
 refine oneA (i := 8) (N := some 24) HT_ (fun K hK => ?_)
 refine goes_ Try.func49 (by kernel_rfl) rfl #[.slice A l.length c, .int .i64 at_] (by rfl) rfl rfl (by simp only [List.map_toArray, List.map_cons, List.map_nil]; rfl) ?_
 with_reducible refine (wire_GetInt.calls A c l at_ _ _ _ _ (Kd.C_below HR.out (below_drew (Below.refl _ _))) HC.out HG.out).mono ?_
 rintro e w7 ⟨rfl, hb7⟩
 refine ⟨_, rfl, ?_⟩
 have HB7 := Aside0.mk hb7
 have BX7 := Aside0.mk (blk_below (w := w.drew) HBB.out hb7)
 clear hb7
 refine hK.out _ _ ⟨(blk_cell BX7.out 0).trans rfl, (blk_cell BX7.out 1).trans rfl⟩ (fun hHeld => ?_)
 clear hK K
 refine normA (N := 24) ?_
 refine pureA (i := 9) (N := some 15) HT_ ?_
 refine pureA (i := 10) (N := some 25) HT_ ?_
 refine pureA (i := 11) (N := some 26) HT_ ?_
 refine pureA (i := 12) (N := some 27) HT_ ?_
 refine pureA (i := 13) (N := some 5) HT_ ?_
 refine pureA (i := 14) (N := some 6) HT_ ?_
 refine pureA (i := 15) (N := some 7) HT_ ?_
 refine done_ (done_of HT_.out (by kernel_rfl)) ?_
 clear HT_ HW_ hHeld
 have k1 : w7.cell? ⟨g, 1, none⟩ = some (.int .i64 at_) := (blk_cell BX7.out 1).trans rfl
 have kf := blk_frozen BX7.out 1
 go_wp2
 go_ret
 exact ⟨rfl, blk_put BX7.out 1 _ rfl, grown_below (below_step (below_drew (Below.refl _ _)) HB7.out) (grown_set BX7.out _ _)⟩
def or_num8x.T5 : Bool × List (List Nat × List Nat) := (true, [([], []), ([0], [0]), ([1], [1]), ([2], [2]), ([], []), ([4], [4]), ([5], [5]), ([6], [6]), ([3, 7], [3, 7]), ([8], [8]), ([9], [9]), ([9], [9]), ([9], [9]), ([10, 8, 0, 1, 2, 3, 4, 5, 6, 7, 8, 9, 10], [10]), ([11, 13, 0, 1, 2, 3, 4, 5, 6, 7, 8, 9, 10, 11, 13], [11]), ([12, 14, 0, 1, 2, 3, 4, 5, 6, 7, 8, 9, 10, 11, 12, 13, 14], [12])])
def or_num8x.B5 : List Nat := [0, 1, 3, 7, 0, 16, 48, 112, 255, 511, 1023, 1023, 1023, 2047, 12287, 32767]
theorem or_num8x.tab5 : rtab .any (opsOf Try.f42 5) = or_num8x.T5 := by kernel_rfl
theorem or_num8x.bits5 : waitsOk or_num8x.T5.2 or_num8x.B5 = true := by kernel_rfl
theorem or_num8x (g : Nat) (A : Option Addr) (c : Nat) (l : List Int) (at_ e s1 s2 s3 : Int) (w : World) (he : e = 0) (hG : getIntSpec l at_ = (s1, s2, s3)) (hs : ¬ s3 = 0) (hB : Bytes l) (hl : l.length ≤ 1000000000000) (hr : Kd.C (Kd.int .u8) w A l.length l) (hc : l.length ≤ c) (hb : w.heap[g]? = some (.cells (RdC A l.length c at_ e) 77 (0, 0))) :
  Calls Try.prog 42 #[.pointer (some ⟨g, 0, none⟩), .int .i64 8] w fun x w' => x = .returned (.int .i64 0) ∧ w'.heap[g]? = some (.cells (RdC A l.length c at_ s3) 77 (0, 0)) ∧ w.grownBy w' (some g) := by
 subst he
 have h2 : w.cell? ⟨g, 2, none⟩ = some (.int .i64 0) := (blk_cell hb 2).trans rfl
 have HBB := Aside0.mk hb
 have HG := Aside0.mk (show wire_GetInt.f l at_ = some (s1, s2, s3) by rw [wire_GetInt_eq _ _ hB hl, hG])
 have HR := Aside0.mk hr
 have HC := Aside0.mk hc
 have b1 : (s3 != 0) = true := bne_iff_ne.mpr hs
 clear hs
 skip
 clear hG hb hr hc hB hl
 go_enter Try.func42, Try.ntmps42
 go_upto_region 5 with (fail)
 clear h2
 refine start_ (n := 16) (S := fun w' => w'.cell? ⟨g, 0, none⟩ = some (.slice A l.length c) ∧ w'.cell? ⟨g, 1, none⟩ = some (.int .i64 at_)) (ds := []) #[false, false, false, false, false, false, false, false, false, false, false, false, false, false, false, false] (by kernel_rfl) rfl rfl ⟨(blk_cell HBB.out 0).trans rfl, (blk_cell HBB.out 1).trans rfl⟩ (fun hHeld => ?_); refine with_tabW or_num8x.tab5 or_num8x.bits5 (fun HT_ HW_ => ?_)
 refine pureA (i := 0) (N := some 16) HT_ ?_
 refine pureA (i := 1) (N := some 17) HT_ ?_
 refine pureA (i := 2) (N := some 18) HT_ ?_
 refine pureA (i := 4) (N := some 20) HT_ ?_
 refine pureA (i := 5) (N := some 21) HT_ ?_
 refine pureA (i := 6) (N := some 22) HT_ ?_
 refine takeA (i := 3) (N := some 19) HT_ HW_ hHeld ?_
 refine takeA (i := 7) (N := some 23) HT_ HW_ hHeld ?_
 refine oneA (i := 8) (N := some 24) HT_ (fun K hK => ?_)
 refine goes_ Try.func49 (by kernel_rfl) rfl #[.slice A l.length c, .int .i64 at_] (by rfl) rfl rfl (by simp only [List.map_toArray, List.map_cons, List.map_nil]; rfl) ?_
 with_reducible refine (wire_GetInt.calls A c l at_ _ _ _ _ (Kd.C_below HR.out (below_drew (Below.refl _ _))) HC.out HG.out).mono ?_
 rintro e w7 ⟨rfl, hb7⟩
 refine ⟨_, rfl, ?_⟩
 have HB7 := Aside0.mk hb7
 have BX7 := Aside0.mk (blk_below (w := w.drew) HBB.out hb7)
 clear hb7
 refine hK.out _ _ ⟨(blk_cell BX7.out 0).trans rfl, (blk_cell BX7.out 1).trans rfl⟩ (fun hHeld => ?_)
 clear hK K
 refine normA (N := 24) ?_
 refine pureA (i := 9) (N := some 15) HT_ ?_
 refine pureA (i := 10) (N := some 25) HT_ ?_
 refine pureA (i := 11) (N := some 26) HT_ ?_
 refine pureA (i := 12) (N := some 27) HT_ ?_
 refine pureA (i := 13) (N := some 5) HT_ ?_
 refine pureA (i := 14) (N := some 6) HT_ ?_
 refine pureA (i := 15) (N := some 7) HT_ ?_
 refine done_ (done_of HT_.out (by kernel_rfl)) ?_
 clear HT_ HW_ hHeld
 have k1 : w7.cell? ⟨g, 2, none⟩ = some (.int .i64 0) := (blk_cell BX7.out 2).trans rfl
 have kf := blk_frozen BX7.out 2
 go_wp2
 go_ret
 exact ⟨rfl, blk_put BX7.out 2 _ rfl, grown_below (below_step (below_drew (Below.refl _ _)) HB7.out) (grown_set BX7.out _ _)⟩
def or_numN.T6 : Bool × List (List Nat × List Nat) := (true, [([], []), ([0], [0]), ([1], [1]), ([2], [2]), ([], []), ([4], [4]), ([5], [5]), ([6], [6]), ([], []), ([3, 7, 8], [3, 7, 8]), ([9], [9]), ([10], [10]), ([10], [10]), ([10], [10]), ([11, 9, 0, 1, 2, 3, 4, 5, 6, 7, 8, 9, 10, 11], [11]), ([12, 14, 0, 1, 2, 3, 4, 5, 6, 7, 8, 9, 10, 11, 12, 14], [12]), ([13, 15, 0, 1, 2, 3, 4, 5, 6, 7, 8, 9, 10, 11, 12, 13, 14, 15], [13])])
def or_numN.B6 : List Nat := [0, 1, 3, 7, 0, 16, 48, 112, 0, 511, 1023, 2047, 2047, 2047, 4095, 24575, 65535]
theorem or_numN.tab6 : rtab .any (opsOf Try.f42 6) = or_numN.T6 := by kernel_rfl
theorem or_numN.bits6 : waitsOk or_numN.T6.2 or_numN.B6 = true := by kernel_rfl
theorem or_numN (g : Nat) (A : Option Addr) (c : Nat) (l : List Int) (at_ e sz s1 s2 s3 : Int) (w : World) (he : e = 0) (hsz : ¬ sz = 8) (hG : getSpec l at_ sz = (s1, s2, s3)) (hs : s3 = 0) (hB : Bytes l) (hl : l.length ≤ 1000000000000) (hr : Kd.C (Kd.int .u8) w A l.length l) (hc : l.length ≤ c) (hb : w.heap[g]? = some (.cells (RdC A l.length c at_ e) 77 (0, 0))) :
  Calls Try.prog 42 #[.pointer (some ⟨g, 0, none⟩), .int .i64 sz] w fun x w' => x = .returned (.int .i64 s1) ∧ w'.heap[g]? = some (.cells (RdC A l.length c s2 0) 77 (0, 0)) ∧ w.grownBy w' (some g) := by
 subst he
 have h2 : w.cell? ⟨g, 2, none⟩ = some (.int .i64 0) := (blk_cell hb 2).trans rfl
 have HBB := Aside0.mk hb
 have HG := Aside0.mk (show wire_Get.f l at_ sz = some (s1, s2, s3) by rw [wire_Get_eq _ _ _ hB hl, hG])
 have HR := Aside0.mk hr
 have HC := Aside0.mk hc
 subst hs
 have b2 : (sz == 8) = false := beq_eq_false_iff_ne.mpr hsz
 clear hsz
 clear hG hb hr hc hB hl
 go_enter Try.func42, Try.ntmps42
 go_upto_region 6 with (fail)
 clear h2
 refine start_ (n := 17) (S := fun w' => w'.cell? ⟨g, 0, none⟩ = some (.slice A l.length c) ∧ w'.cell? ⟨g, 1, none⟩ = some (.int .i64 at_)) (ds := []) #[false, false, false, false, false, false, false, false, false, false, false, false, false, false, false, false, false] (by kernel_rfl) rfl rfl ⟨(blk_cell HBB.out 0).trans rfl, (blk_cell HBB.out 1).trans rfl⟩ (fun hHeld => ?_); refine with_tabW or_numN.tab6 or_numN.bits6 (fun HT_ HW_ => ?_)
 refine pureA (i := 0) (N := some 29) HT_ ?_
 refine pureA (i := 1) (N := some 30) HT_ ?_
 refine pureA (i := 2) (N := some 31) HT_ ?_
 refine pureA (i := 4) (N := some 33) HT_ ?_
 refine pureA (i := 5) (N := some 34) HT_ ?_
 refine pureA (i := 6) (N := some 35) HT_ ?_
 refine pureA (i := 8) (N := some 37) HT_ ?_
 refine takeA (i := 3) (N := some 32) HT_ HW_ hHeld ?_
 refine takeA (i := 7) (N := some 36) HT_ HW_ hHeld ?_
 refine oneA (i := 9) (N := some 38) HT_ (fun K hK => ?_)
 refine goes_ Try.func32 (by kernel_rfl) rfl #[.slice A l.length c, .int .i64 at_, .int .i64 sz] (by rfl) rfl rfl (by simp only [List.map_toArray, List.map_cons, List.map_nil]; rfl) ?_
 with_reducible refine (wire_Get.calls A c l at_ sz _ _ _ _ (Kd.C_below HR.out (below_drew (Below.refl _ _))) HC.out HG.out).mono ?_
 rintro e w7 ⟨rfl, hb7⟩
 refine ⟨_, rfl, ?_⟩
 have HB7 := Aside0.mk hb7
 have BX7 := Aside0.mk (blk_below (w := w.drew) HBB.out hb7)
 clear hb7
 refine hK.out _ _ ⟨(blk_cell BX7.out 0).trans rfl, (blk_cell BX7.out 1).trans rfl⟩ (fun hHeld => ?_)
 clear hK K
 refine normA (N := 38) ?_
 refine pureA (i := 10) (N := some 28) HT_ ?_
 refine pureA (i := 11) (N := some 39) HT_ ?_
 refine pureA (i := 12) (N := some 40) HT_ ?_
 refine pureA (i := 13) (N := some 41) HT_ ?_
 refine pureA (i := 14) (N := some 5) HT_ ?_
 refine pureA (i := 15) (N := some 6) HT_ ?_
 refine pureA (i := 16) (N := some 7) HT_ ?_
 refine done_ (done_of HT_.out (by kernel_rfl)) ?_
 clear HT_ HW_ hHeld
 have k1 : w7.cell? ⟨g, 1, none⟩ = some (.int .i64 at_) := (blk_cell BX7.out 1).trans rfl
 have kf := blk_frozen BX7.out 1
 go_wp2
 go_ret
 exact ⟨rfl, blk_put BX7.out 1 _ rfl, grown_below (below_step (below_drew (Below.refl _ _)) HB7.out) (grown_set BX7.out _ _)⟩
def or_numNx.T6 : Bool × List (List Nat × List Nat) := (true, [([], []), ([0], [0]), ([1], [1]), ([2], [2]), ([], []), ([4], [4]), ([5], [5]), ([6], [6]), ([], []), ([3, 7, 8], [3, 7, 8]), ([9], [9]), ([10], [10]), ([10], [10]), ([10], [10]), ([11, 9, 0, 1, 2, 3, 4, 5, 6, 7, 8, 9, 10, 11], [11]), ([12, 14, 0, 1, 2, 3, 4, 5, 6, 7, 8, 9, 10, 11, 12, 14], [12]), ([13, 15, 0, 1, 2, 3, 4, 5, 6, 7, 8, 9, 10, 11, 12, 13, 14, 15], [13])])
def or_numNx.B6 : List Nat := [0, 1, 3, 7, 0, 16, 48, 112, 0, 511, 1023, 2047, 2047, 2047, 4095, 24575, 65535]
theorem or_numNx.tab6 : rtab .any (opsOf Try.f42 6) = or_numNx.T6 := by kernel_rfl
theorem or_numNx.bits6 : waitsOk or_numNx.T6.2 or_numNx.B6 = true := by kernel_rfl
theorem or_numNx (g : Nat) (A : Option Addr) (c : Nat) (l : List Int) (at_ e sz s1 s2 s3 : Int) (w : World) (he : e = 0) (hsz : ¬ sz = 8) (hG : getSpec l at_ sz = (s1, s2, s3)) (hs : ¬ s3 = 0) (hB : Bytes l) (hl : l.length ≤ 1000000000000) (hr : Kd.C (Kd.int .u8) w A l.length l) (hc : l.length ≤ c) (hb : w.heap[g]? = some (.cells (RdC A l.length c at_ e) 77 (0, 0))) :
  Calls Try.prog 42 #[.pointer (some ⟨g, 0, none⟩), .int .i64 sz] w fun x w' => x = .returned (.int .i64 0) ∧ w'.heap[g]? = some (.cells (RdC A l.length c at_ s3) 77 (0, 0)) ∧ w.grownBy w' (some g) := by
 subst he
 have h2 : w.cell? ⟨g, 2, none⟩ = some (.int .i64 0) := (blk_cell hb 2).trans rfl
 have HBB := Aside0.mk hb
 have HG := Aside0.mk (show wire_Get.f l at_ sz = some (s1, s2, s3) by rw [wire_Get_eq _ _ _ hB hl, hG])
 have HR := Aside0.mk hr
 have HC := Aside0.mk hc
 have b1 : (s3 != 0) = true := bne_iff_ne.mpr hs
 clear hs
 have b2 : (sz == 8) = false := beq_eq_false_iff_ne.mpr hsz
 clear hsz
 clear hG hb hr hc hB hl
 go_enter Try.func42, Try.ntmps42
 go_upto_region 6 with (fail)
 clear h2
 refine start_ (n := 17) (S := fun w' => w'.cell? ⟨g, 0, none⟩ = some (.slice A l.length c) ∧ w'.cell? ⟨g, 1, none⟩ = some (.int .i64 at_)) (ds := []) #[false, false, false, false, false, false, false, false, false, false, false, false, false, false, false, false, false] (by kernel_rfl) rfl rfl ⟨(blk_cell HBB.out 0).trans rfl, (blk_cell HBB.out 1).trans rfl⟩ (fun hHeld => ?_); refine with_tabW or_numNx.tab6 or_numNx.bits6 (fun HT_ HW_ => ?_)
 refine pureA (i := 0) (N := some 29) HT_ ?_
 refine pureA (i := 1) (N := some 30) HT_ ?_
 refine pureA (i := 2) (N := some 31) HT_ ?_
 refine pureA (i := 4) (N := some 33) HT_ ?_
 refine pureA (i := 5) (N := some 34) HT_ ?_
 refine pureA (i := 6) (N := some 35) HT_ ?_
 refine pureA (i := 8) (N := some 37) HT_ ?_
 refine takeA (i := 3) (N := some 32) HT_ HW_ hHeld ?_
 refine takeA (i := 7) (N := some 36) HT_ HW_ hHeld ?_
 refine oneA (i := 9) (N := some 38) HT_ (fun K hK => ?_)
 refine goes_ Try.func32 (by kernel_rfl) rfl #[.slice A l.length c, .int .i64 at_, .int .i64 sz] (by rfl) rfl rfl (by simp only [List.map_toArray, List.map_cons, List.map_nil]; rfl) ?_
 with_reducible refine (wire_Get.calls A c l at_ sz _ _ _ _ (Kd.C_below HR.out (below_drew (Below.refl _ _))) HC.out HG.out).mono ?_
 rintro e w7 ⟨rfl, hb7⟩
 refine ⟨_, rfl, ?_⟩
 have HB7 := Aside0.mk hb7
 have BX7 := Aside0.mk (blk_below (w := w.drew) HBB.out hb7)
 clear hb7
 refine hK.out _ _ ⟨(blk_cell BX7.out 0).trans rfl, (blk_cell BX7.out 1).trans rfl⟩ (fun hHeld => ?_)
 clear hK K
 refine normA (N := 38) ?_
 refine pureA (i := 10) (N := some 28) HT_ ?_
 refine pureA (i := 11) (N := some 39) HT_ ?_
 refine pureA (i := 12) (N := some 40) HT_ ?_
 refine pureA (i := 13) (N := some 41) HT_ ?_
 refine pureA (i := 14) (N := some 5) HT_ ?_
 refine pureA (i := 15) (N := some 6) HT_ ?_
 refine pureA (i := 16) (N := some 7) HT_ ?_
 refine done_ (done_of HT_.out (by kernel_rfl)) ?_
 clear HT_ HW_ hHeld
 have k1 : w7.cell? ⟨g, 2, none⟩ = some (.int .i64 0) := (blk_cell BX7.out 2).trans rfl
 have kf := blk_frozen BX7.out 2
 go_wp2
 go_ret
 exact ⟨rfl, blk_put BX7.out 2 _ rfl, grown_below (below_step (below_drew (Below.refl _ _)) HB7.out) (grown_set BX7.out _ _)⟩
theorem or_number (g : Nat) (A : Option Addr) (c : Nat) (l : List Int) (at_ e sz v at2 e2 : Int) (w : World) (hN : rdN l sz at_ e = (v, at2, e2)) (hB : Bytes l) (hl : l.length ≤ 1000000000000) (hr : Kd.C (Kd.int .u8) w A l.length l) (hc : l.length ≤ c) (hb : w.heap[g]? = some (.cells (RdC A l.length c at_ e) 77 (0, 0))) :
  Calls Try.prog 42 #[.pointer (some ⟨g, 0, none⟩), .int .i64 sz] w fun x w' => x = .returned (.int .i64 v) ∧ w'.heap[g]? = some (.cells (RdC A l.length c at2 e2) 77 (0, 0)) ∧ w.grownBy w' (some g) := by
 by_cases he : e = 0
 ·unfold rdN at hN
  by_cases h8 : sz = 8
  ·subst h8
   rw [if_pos rfl] at hN
   obtain ⟨s1, s2, s3, hG⟩ : ∃ s1 s2 s3, getIntSpec l at_ = (s1, s2, s3) := ⟨_, _, _, rfl⟩
   unfold rd8 rdStep at hN
   rw [if_pos he, hG] at hN
   by_cases hs : s3 = 0
   ·rw [if_pos hs] at hN
    simp only [Prod.mk.injEq] at hN
    obtain ⟨rfl, rfl, rfl⟩ := hN
    exact or_num8 g A c l at_ e s1 s2 s3 w he hG hs hB hl hr hc hb
   ·rw [if_neg hs] at hN
    simp only [Prod.mk.injEq] at hN
    obtain ⟨rfl, rfl, rfl⟩ := hN
    exact or_num8x g A c l at_ e s1 s2 s3 w he hG hs hB hl hr hc hb
  ·rw [if_neg h8] at hN
   obtain ⟨s1, s2, s3, hG⟩ : ∃ s1 s2 s3, getSpec l at_ sz = (s1, s2, s3) := ⟨_, _, _, rfl⟩
   unfold rd1 rdStep at hN
   rw [if_pos he, hG] at hN
   by_cases hs : s3 = 0
   ·rw [if_pos hs] at hN
    simp only [Prod.mk.injEq] at hN
    obtain ⟨rfl, rfl, rfl⟩ := hN
    exact or_numN g A c l at_ e sz s1 s2 s3 w he h8 hG hs hB hl hr hc hb
   ·rw [if_neg hs] at hN
    simp only [Prod.mk.injEq] at hN
    obtain ⟨rfl, rfl, rfl⟩ := hN
    exact or_numNx g A c l at_ e sz s1 s2 s3 w he h8 hG hs hB hl hr hc hb
 ·have hz : (0, at_, e) = (v, at2, e2) := by
   rw [← hN]
   simp only [rdN, rd8, rd1, rdStep, if_neg he, ite_self]
  simp only [Prod.mk.injEq] at hz
  obtain ⟨rfl, rfl, rfl⟩ := hz
  refine (or_numE g A l.length c at_ e sz w he hb).mono ?_
  rintro x w' ⟨rfl, rfl⟩
  exact ⟨rfl, hb, rfl, rfl, rfl, Nat.le_refl _, fun _ _ _ => rfl⟩
def rdH (l : List Int) (at_ e : Int) : HP := if e = 0 then (if (hpGo l at_).2.2.2.2.2.2.2 = 0 then hpGo l at_ else ((hpGo l at_).1, (hpGo l at_).2.1, (hpGo l at_).2.2.1, (hpGo l at_).2.2.2.1, (hpGo l at_).2.2.2.2.1, (hpGo l at_).2.2.2.2.2.1, at_, (hpGo l at_).2.2.2.2.2.2.2)) else (false, 0, 0, 0, 0, 0, at_, e)
theorem or_heiE (g : Nat) (A : Option Addr) (n c : Nat) (at_ e : Int) (w : World) (he : ¬ e = 0) (hb : w.heap[g]? = some (.cells (RdC A n c at_ e) 77 (0, 0))) :
  Calls Try.prog 43 #[.pointer (some ⟨g, 0, none⟩)] w fun x w' => x = .returned (.agg #[.bool false, .int .i64 0, .int .i64 0, .int .i64 0, .int .i64 0, .int .i64 0]) ∧ Below w.heap.size w w' := by
 have hu23 := Try.underlying41
 have b0 : (e != 0) = true := bne_iff_ne.mpr he
 have HBB := Aside0.mk hb
 clear hb he
 go_enter Try.func43, Try.ntmps43
 go_wp2_with (((with_reducible refine gate_dst (N := 2) rfl ?_); refine box_event ?hg (N := 2) ?hd (cs := #[.bool false, .int .i64 0, .int .i64 0, .int .i64 0, .int .i64 0, .int .i64 0]) (t := 41) ?hr ?_; (case hd => rfl); (case hg => rfl); (case hr => first | (go_simp; done) | (go_simp; rfl)); intro g2 hg w4 hbox hb; have HB4 := Aside0.mk hb; have G2 := Aside0.mk (Nat.le_of_eq hg.symm); have B2 := Aside0.mk hbox; have BR := Aside0.mk (blk_below HBB.out hb); clear hb hbox hg; have h1 : w4.cell? ⟨g, 2, none⟩ = some (.int .i64 e) := (blk_cell BR.out 2).trans rfl; obtain ⟨⟨u0, u1, u2, u3, u4, u5⟩, uf0, uf1, uf2, uf3, uf4, uf5⟩ := cells6 B2.out))
 refine bodyPost_ret (results_single (P := Try.prog) (r := .cell 2 41) rfl (Vals.cell g2 41 #[.bool false, .int .i64 0, .int .i64 0, .int .i64 0, .int .i64 0, .int .i64 0] (0, 0) _ rfl (blk_put (blk_put (blk_put (blk_put (blk_put (blk_put B2.out 0 (.bool false) (cs' := #[.bool false, .int .i64 0, .int .i64 0, .int .i64 0, .int .i64 0, .int .i64 0]) rfl) 1 (.int .i64 0) (cs' := #[.bool false, .int .i64 0, .int .i64 0, .int .i64 0, .int .i64 0, .int .i64 0]) rfl) 2 (.int .i64 0) (cs' := #[.bool false, .int .i64 0, .int .i64 0, .int .i64 0, .int .i64 0, .int .i64 0]) rfl) 3 (.int .i64 0) (cs' := #[.bool false, .int .i64 0, .int .i64 0, .int .i64 0, .int .i64 0, .int .i64 0]) rfl) 4 (.int .i64 0) (cs' := #[.bool false, .int .i64 0, .int .i64 0, .int .i64 0, .int .i64 0, .int .i64 0]) rfl) 5 (.int .i64 0) (cs' := #[.bool false, .int .i64 0, .int .i64 0, .int .i64 0, .int .i64 0, .int .i64 0]) rfl) Try.underlying41 rfl (by kernel_rfl) .nil)) rfl ?_
 exact ⟨rfl, (below_set (below_set (below_set (below_set (below_set (below_set HB4.out G2.out) G2.out) G2.out) G2.out) G2.out) G2.out)⟩
def or_hei.T3 : Bool × List (List Nat × List Nat) := (true, [([], []), ([0], [0]), ([1], [1]), ([2], [2]), ([], []), ([4], [4]), ([5], [5]), ([6], [6]), ([3, 7], [3, 7]), ([8], [8]), ([9], [9]), ([9], [9]), ([9], [9]), ([], []), ([13, 10, 8, 0, 1, 2, 3, 4, 5, 6, 7, 8, 9, 10, 13], [10, 13]), ([11, 14, 0, 1, 2, 3, 4, 5, 6, 7, 8, 9, 10, 11, 13, 14], [11]), ([12, 15, 0, 1, 2, 3, 4, 5, 6, 7, 8, 9, 10, 11, 12, 13, 14, 15], [12])])
def or_hei.B3 : List Nat := [0, 1, 3, 7, 0, 16, 48, 112, 255, 511, 1023, 1023, 1023, 0, 10239, 28671, 65535]
theorem or_hei.tab3 : rtab .any (opsOf Try.f43 3) = or_hei.T3 := by kernel_rfl
theorem or_hei.bits3 : waitsOk or_hei.T3.2 or_hei.B3 = true := by kernel_rfl
theorem or_hei (g : Nat) (A : Option Addr) (c : Nat) (l : List Int) (at_ e : Int) (n : Bool) (a b c_ d e_ at2 e2 : Int) (w : World) (he : e = 0) (hG : hpGo l at_ = (n, a, b, c_, d, e_, at2, e2)) (hs : e2 = 0) (hB : Bytes l) (hl : l.length ≤ 1000000000000) (hr : Kd.C (Kd.int .u8) w A l.length l) (hc : l.length ≤ c) (hb : w.heap[g]? = some (.cells (RdC A l.length c at_ e) 77 (0, 0))) :
  Calls Try.prog 43 #[.pointer (some ⟨g, 0, none⟩)] w fun x w' => x = .returned (.agg #[.bool n, .int .i64 a, .int .i64 b, .int .i64 c_, .int .i64 d, .int .i64 e_]) ∧ w'.heap[g]? = some (.cells (RdC A l.length c at2 0) 77 (0, 0)) ∧ w.grownBy w' (some g) := by
 subst he
 have hu23 := Try.underlying41
 have HBB := Aside0.mk hb
 have HG := Aside0.mk (show height_Parse.f l at_ = some (n, a, b, c_, d, e_, at2, e2) by unfold height_Parse.f; rw [if_pos ⟨hl, hB⟩, hG])
 have HR := Aside0.mk hr
 have HC := Aside0.mk hc
 subst hs
 clear hG hb hr hc hB hl
 go_enter Try.func43, Try.ntmps43
 go_upto_region 3 with (((with_reducible refine gate_dst (N := 2) rfl ?_); refine box_event ?hg (N := 2) ?hd (cs := #[.bool false, .int .i64 0, .int .i64 0, .int .i64 0, .int .i64 0, .int .i64 0]) (t := 41) ?hr ?_; (case hd => rfl); (case hg => rfl); (case hr => first | (go_simp; done) | (go_simp; rfl)); intro g2 hg wq hbox hb; have HB := Aside0.mk hb; have G2 := Aside0.mk (Nat.le_of_eq hg.symm); have B2 := Aside0.mk hbox; have BR := Aside0.mk (blk_below HBB.out hb); clear hb hbox hg; have h1 : wq.cell? ⟨g, 2, none⟩ = some (.int .i64 0) := (blk_cell BR.out 2).trans rfl))
 clear h1
 have HBd := Aside0.mk (below_drew HB.out)
 have B2d := Aside0.mk (show wq.drew.heap[g2]? = _ from B2.out)
 have BRd := Aside0.mk (show wq.drew.heap[g]? = _ from BR.out)
 clear HB B2 BR
 refine start_ (n := 17) (S := fun w' => w'.cell? ⟨g, 0, none⟩ = some (.slice A l.length c) ∧ w'.cell? ⟨g, 1, none⟩ = some (.int .i64 at_)) (ds := [14]) #[false, false, false, false, false, false, false, false, false, false, false, false, false, false, false, false, false] (by kernel_rfl) rfl rfl ⟨(blk_cell BRd.out 0).trans rfl, (blk_cell BRd.out 1).trans rfl⟩ (fun hHeld => ?_); refine with_tabW or_hei.tab3 or_hei.bits3 (fun HT_ HW_ => ?_)
 refine pureA (i := 0) (N := some 13) HT_ ?_
 refine pureA (i := 1) (N := some 14) HT_ ?_
 refine pureA (i := 2) (N := some 15) HT_ ?_
 refine pureA (i := 4) (N := some 17) HT_ ?_
 refine pureA (i := 5) (N := some 18) HT_ ?_
 refine pureA (i := 6) (N := some 19) HT_ ?_
 refine takeA (i := 3) (N := some 16) HT_ HW_ hHeld ?_
 refine takeA (i := 7) (N := some 20) HT_ HW_ hHeld ?_
 refine join_ (σ := Nat) 3 #[true, true, true, true, true, true, true, true, true, true, true, true, true, true, false, false, false] (fun s_ => [(21, .tuple #[.agg #[.bool n, .int .i64 a, .int .i64 b, .int .i64 c_, .int .i64 d, .int .i64 e_], .int .i64 at2, .int .i64 0]), (12, .tuple #[.agg #[.bool n, .int .i64 a, .int .i64 b, .int .i64 c_, .int .i64 d, .int .i64 e_], .int .i64 at2, .int .i64 0]), (22, .agg #[.bool n, .int .i64 a, .int .i64 b, .int .i64 c_, .int .i64 d, .int .i64 e_]), (23, .int .i64 at2), (24, .int .i64 0), (3, .pointer (some ⟨s_, 0, none⟩))]) (fun s_ w' => (w'.cell? ⟨g, 0, none⟩ = some (.slice A l.length c) ∧ w'.cell? ⟨g, 1, none⟩ = some (.int .i64 at_)) ∧ Aside0 (w'.heap[s_]? = some (.cells #[.bool false, .int .i64 0, .int .i64 0, .int .i64 0, .int .i64 0, .int .i64 0] 41 (0, 0))) ∧ Aside0 (w'.heap[g]? = some (.cells (RdC A l.length c at_ 0) 77 (0, 0))) ∧ Aside0 (w'.heap[g2]? = some (.cells #[.bool false, .int .i64 0, .int .i64 0, .int .i64 0, .int .i64 0, .int .i64 0] 41 (0, 0))) ∧ Aside0 (Below w.heap.size w w') ∧ Aside0 (w.heap.size ≤ s_) ∧ Aside0 (g2 ≠ s_)) ?_ ?_
 rotate_left
 ·intro hCont
  refine two_ (i := 8) (j := 13) (Ni := some 21) (Nj := some 3) #[true, true, true, true, true, true, true, true, true, false, false, false, false, false, false, false, false] #[true, true, true, true, true, true, true, true, false, false, false, false, false, true, false, false, false] rfl rfl rfl rfl (two_of HT_.out (by kernel_rfl)) (by decide) (by decide) (fun K hK => ?_) (fun K hK => ?_)
  ·skip
   refine goes_ Try.func50 (by kernel_rfl) rfl #[.slice A l.length c, .int .i64 at_] (by rfl) rfl rfl (by simp only [List.map_toArray, List.map_cons, List.map_nil]; rfl) ?_
   with_reducible refine (height_Parse.calls A c l at_ n a b c_ d e_ at2 0 _ (Kd.C_below HR.out HBd.out) HC.out HG.out).mono ?_
   rintro x7 w7 ⟨rfl, hb7⟩
   refine ⟨_, rfl, ?_⟩
   have HBn := Aside0.mk (below_step HBd.out hb7)
   have B2n := Aside0.mk (blk_below B2d.out hb7)
   have BRn := Aside0.mk (blk_below BRd.out hb7)
   clear HBd B2d BRd hb7
   have HBd := HBn
   have B2d := B2n
   have BRd := BRn
   clear HBn B2n BRn
   refine hK.out _ _ ⟨(blk_cell BRd.out 0).trans rfl, (blk_cell BRd.out 1).trans rfl⟩ (fun hHeld => ?_)
   clear hK K
   refine normA (N := 21) ?_
   refine pureA (i := 9) (N := some 12) HT_ ?_
   refine pureA (i := 10) (N := some 22) HT_ ?_
   refine pureA (i := 11) (N := some 23) HT_ ?_
   refine pureA (i := 12) (N := some 24) HT_ ?_
   refine oneA (i := 13) (N := some 3) HT_ (fun K hK => ?_)
   refine box_step ?hg (N := 3) ?hd (cs := #[.bool false, .int .i64 0, .int .i64 0, .int .i64 0, .int .i64 0, .int .i64 0]) (t := 41) ?hr ?_
   (case hd => rfl)
   (case hg => rfl)
   (case hr => first | (go_simp; done) | (go_simp; rfl))
   intro g3 hg w8 hbox hb
   have HBn := Aside0.mk (below_step HBd.out hb)
   have B2n := Aside0.mk (blk_below B2d.out hb)
   have BRn := Aside0.mk (blk_below BRd.out hb)
   have B3d := Aside0.mk hbox
   have G3 := Aside0.mk (show w.heap.size ≤ g3 by rw [hg]; exact below_size HBd.out)
   have N23 := Aside0.mk (show g2 ≠ g3 by rw [hg]; exact Nat.ne_of_lt (blk_lt B2d.out))
   clear HBd B2d BRd hb hbox hg
   have HBd := HBn
   have B2d := B2n
   have BRd := BRn
   clear HBn B2n BRn
   refine hK.out _ _ ⟨(blk_cell BRd.out 0).trans rfl, (blk_cell BRd.out 1).trans rfl⟩ (fun hHeld => ?_)
   clear hK K
   refine normA (N := 3) ?_
   exact norm_ (by simp only [putAll, Act.put, List.setIfInBounds_toArray, List.set_cons_zero, List.set_cons_succ]) (hCont g3 _ ⟨hHeld, B3d, BRd, B2d, HBd, G3, N23⟩)
  ·skip
   refine box_step ?hg (N := 3) ?hd (cs := #[.bool false, .int .i64 0, .int .i64 0, .int .i64 0, .int .i64 0, .int .i64 0]) (t := 41) ?hr ?_
   (case hd => rfl)
   (case hg => rfl)
   (case hr => first | (go_simp; done) | (go_simp; rfl))
   intro g3 hg w8 hbox hb
   have HBn := Aside0.mk (below_step HBd.out hb)
   have B2n := Aside0.mk (blk_below B2d.out hb)
   have BRn := Aside0.mk (blk_below BRd.out hb)
   have B3d := Aside0.mk hbox
   have G3 := Aside0.mk (show w.heap.size ≤ g3 by rw [hg]; exact below_size HBd.out)
   have N23 := Aside0.mk (show g2 ≠ g3 by rw [hg]; exact Nat.ne_of_lt (blk_lt B2d.out))
   clear HBd B2d BRd hb hbox hg
   have HBd := HBn
   have B2d := B2n
   have BRd := BRn
   clear HBn B2n BRn
   refine hK.out _ _ ⟨(blk_cell BRd.out 0).trans rfl, (blk_cell BRd.out 1).trans rfl⟩ (fun hHeld => ?_)
   clear hK K
   refine normA (N := 3) ?_
   refine oneA (i := 8) (N := some 21) HT_ (fun K hK => ?_)
   refine goes_ Try.func50 (by kernel_rfl) rfl #[.slice A l.length c, .int .i64 at_] (by rfl) rfl rfl (by simp only [List.map_toArray, List.map_cons, List.map_nil]; rfl) ?_
   with_reducible refine (height_Parse.calls A c l at_ n a b c_ d e_ at2 0 _ (Kd.C_below HR.out HBd.out) HC.out HG.out).mono ?_
   rintro x7 w7 ⟨rfl, hb7⟩
   refine ⟨_, rfl, ?_⟩
   have HBn := Aside0.mk (below_step HBd.out hb7)
   have B2n := Aside0.mk (blk_below B2d.out hb7)
   have BRn := Aside0.mk (blk_below BRd.out hb7)
   have B3n := Aside0.mk (blk_below B3d.out hb7)
   clear HBd B2d BRd B3d hb7
   have HBd := HBn
   have B2d := B2n
   have BRd := BRn
   have B3d := B3n
   clear HBn B2n BRn B3n
   refine hK.out _ _ ⟨(blk_cell BRd.out 0).trans rfl, (blk_cell BRd.out 1).trans rfl⟩ (fun hHeld => ?_)
   clear hK K
   refine normA (N := 21) ?_
   refine pureA (i := 9) (N := some 12) HT_ ?_
   refine pureA (i := 10) (N := some 22) HT_ ?_
   refine pureA (i := 11) (N := some 23) HT_ ?_
   refine pureA (i := 12) (N := some 24) HT_ ?_
   exact norm_ (by simp only [putAll, Act.put, List.setIfInBounds_toArray, List.set_cons_zero, List.set_cons_succ]) (hCont g3 _ ⟨hHeld, B3d, BRd, B2d, HBd, G3, N23⟩)
 rintro g3 w8 ⟨hHeld, B3, BR, B2, HB, G3, N23⟩
 clear B2d BRd HBd
 obtain ⟨⟨u0, u1, u2, u3, u4, u5⟩, uf0, uf1, uf2, uf3, uf4, uf5⟩ := cells6 B3.out
 refine norm_ (a' := ?_) ?_ ?_
 rotate_left
 ·simp only [putAll, Act.put, List.setIfInBounds_toArray, List.set_cons_zero, List.set_cons_succ]
  rfl
 refine last_ (i := 14) (N := none) #[true, true, true, true, true, true, true, true, true, true, true, true, true, true, true, false, false] rfl rfl (one_of HT_.out (by kernel_rfl)) (by decide) (fun K hK => ?_)
 refine skip_ (w1 := ?_) (by rfl) rfl ?_ ?_
 rotate_left
 ·go_simp
  rfl
 refine hK.out _ _ ?_
 clear hK K
 refine pureA (i := 15) (N := some 4) HT_ ?_
 refine pureA (i := 16) (N := some 5) HT_ ?_
 refine done_ (done_of HT_.out (by kernel_rfl)) ?_
 clear HT_ HW_ hHeld u0 uf0 u1 uf1 u2 uf2 u3 uf3 u4 uf4 u5 uf5
 have nr3 : g ≠ g3 := blk_ne BR.out B3.out (by decide)
 have C3 := Aside0.mk (show ((((((w8.setCell ⟨g3, 0, none⟩ (.bool n)).setCell ⟨g3, 1, none⟩ (.int .i64 a)).setCell ⟨g3, 2, none⟩ (.int .i64 b)).setCell ⟨g3, 3, none⟩ (.int .i64 c_)).setCell ⟨g3, 4, none⟩ (.int .i64 d)).setCell ⟨g3, 5, none⟩ (.int .i64 e_)).heap[g3]? = some (.cells #[.bool n, .int .i64 a, .int .i64 b, .int .i64 c_, .int .i64 d, .int .i64 e_] 41 (0, 0)) from (blk_put (blk_put (blk_put (blk_put (blk_put (blk_put B3.out 0 (.bool n) (cs' := #[.bool n, .int .i64 0, .int .i64 0, .int .i64 0, .int .i64 0, .int .i64 0]) rfl) 1 (.int .i64 a) (cs' := #[.bool n, .int .i64 a, .int .i64 0, .int .i64 0, .int .i64 0, .int .i64 0]) rfl) 2 (.int .i64 b) (cs' := #[.bool n, .int .i64 a, .int .i64 b, .int .i64 0, .int .i64 0, .int .i64 0]) rfl) 3 (.int .i64 c_) (cs' := #[.bool n, .int .i64 a, .int .i64 b, .int .i64 c_, .int .i64 0, .int .i64 0]) rfl) 4 (.int .i64 d) (cs' := #[.bool n, .int .i64 a, .int .i64 b, .int .i64 c_, .int .i64 d, .int .i64 0]) rfl) 5 (.int .i64 e_) (cs' := #[.bool n, .int .i64 a, .int .i64 b, .int .i64 c_, .int .i64 d, .int .i64 e_]) rfl))
 have C2 := Aside0.mk (show ((((((w8.setCell ⟨g3, 0, none⟩ (.bool n)).setCell ⟨g3, 1, none⟩ (.int .i64 a)).setCell ⟨g3, 2, none⟩ (.int .i64 b)).setCell ⟨g3, 3, none⟩ (.int .i64 c_)).setCell ⟨g3, 4, none⟩ (.int .i64 d)).setCell ⟨g3, 5, none⟩ (.int .i64 e_)).heap[g2]? = some (.cells #[.bool false, .int .i64 0, .int .i64 0, .int .i64 0, .int .i64 0, .int .i64 0] 41 (0, 0)) from (blk_far (p := ⟨g3, 5, none⟩) (blk_far (p := ⟨g3, 4, none⟩) (blk_far (p := ⟨g3, 3, none⟩) (blk_far (p := ⟨g3, 2, none⟩) (blk_far (p := ⟨g3, 1, none⟩) (blk_far (p := ⟨g3, 0, none⟩) B2.out N23.out _) N23.out _) N23.out _) N23.out _) N23.out _) N23.out _))
 have CR := Aside0.mk (show ((((((w8.setCell ⟨g3, 0, none⟩ (.bool n)).setCell ⟨g3, 1, none⟩ (.int .i64 a)).setCell ⟨g3, 2, none⟩ (.int .i64 b)).setCell ⟨g3, 3, none⟩ (.int .i64 c_)).setCell ⟨g3, 4, none⟩ (.int .i64 d)).setCell ⟨g3, 5, none⟩ (.int .i64 e_)).heap[g]? = some (.cells (RdC A l.length c at_ 0) 77 (0, 0)) from (blk_far (p := ⟨g3, 5, none⟩) (blk_far (p := ⟨g3, 4, none⟩) (blk_far (p := ⟨g3, 3, none⟩) (blk_far (p := ⟨g3, 2, none⟩) (blk_far (p := ⟨g3, 1, none⟩) (blk_far (p := ⟨g3, 0, none⟩) BR.out nr3 _) nr3 _) nr3 _) nr3 _) nr3 _) nr3 _))
 have CB := Aside0.mk (show Below w.heap.size w ((((((w8.setCell ⟨g3, 0, none⟩ (.bool n)).setCell ⟨g3, 1, none⟩ (.int .i64 a)).setCell ⟨g3, 2, none⟩ (.int .i64 b)).setCell ⟨g3, 3, none⟩ (.int .i64 c_)).setCell ⟨g3, 4, none⟩ (.int .i64 d)).setCell ⟨g3, 5, none⟩ (.int .i64 e_)) from (below_set (below_set (below_set (below_set (below_set (below_set HB.out G3.out) G3.out) G3.out) G3.out) G3.out) G3.out))
 clear B3 B2 BR HB nr3
 generalize ((((((w8.setCell ⟨g3, 0, none⟩ (.bool n)).setCell ⟨g3, 1, none⟩ (.int .i64 a)).setCell ⟨g3, 2, none⟩ (.int .i64 b)).setCell ⟨g3, 3, none⟩ (.int .i64 c_)).setCell ⟨g3, 4, none⟩ (.int .i64 d)).setCell ⟨g3, 5, none⟩ (.int .i64 e_)) = w9 at C3 C2 CR CB ⊢
 obtain ⟨⟨y0, y1, y2, y3, y4, y5⟩, yf0, yf1, yf2, yf3, yf4, yf5⟩ := cells6 C3.out
 obtain ⟨⟨z0, z1, z2, z3, z4, z5⟩, zf0, zf1, zf2, zf3, zf4, zf5⟩ := cells6 C2.out
 have k1 : w9.cell? ⟨g, 1, none⟩ = some (.int .i64 at_) := (blk_cell CR.out 1).trans rfl
 have kf := blk_frozen CR.out 1
 have n2 : g2 ≠ g := blk_ne C2.out CR.out (by decide)
 have n3 : g3 ≠ g := blk_ne C3.out CR.out (by decide)
 have n4 : g ≠ g2 := blk_ne CR.out C2.out (by decide)
 have n5 : g ≠ g3 := blk_ne CR.out C3.out (by decide)
 have n6 : g2 ≠ g3 := N23.out
 have n7 : g3 ≠ g2 := N23.out.symm
 go_wp2
 refine bodyPost_ret (results_single (P := Try.prog) (r := .cell 2 41) rfl (Vals.cell g2 41 #[.bool n, .int .i64 a, .int .i64 b, .int .i64 c_, .int .i64 d, .int .i64 e_] (0, 0) _ rfl (blk_put (blk_put (blk_put (blk_put (blk_put (blk_put (blk_far (p := ⟨g, 1, none⟩) C2.out n2 _) 0 (.bool n) (cs' := #[.bool n, .int .i64 0, .int .i64 0, .int .i64 0, .int .i64 0, .int .i64 0]) rfl) 1 (.int .i64 a) (cs' := #[.bool n, .int .i64 a, .int .i64 0, .int .i64 0, .int .i64 0, .int .i64 0]) rfl) 2 (.int .i64 b) (cs' := #[.bool n, .int .i64 a, .int .i64 b, .int .i64 0, .int .i64 0, .int .i64 0]) rfl) 3 (.int .i64 c_) (cs' := #[.bool n, .int .i64 a, .int .i64 b, .int .i64 c_, .int .i64 0, .int .i64 0]) rfl) 4 (.int .i64 d) (cs' := #[.bool n, .int .i64 a, .int .i64 b, .int .i64 c_, .int .i64 d, .int .i64 0]) rfl) 5 (.int .i64 e_) (cs' := #[.bool n, .int .i64 a, .int .i64 b, .int .i64 c_, .int .i64 d, .int .i64 e_]) rfl) Try.underlying41 rfl (by kernel_rfl) .nil)) rfl ?_
 exact ⟨rfl, (blk_far (p := ⟨g2, 5, none⟩) (blk_far (p := ⟨g2, 4, none⟩) (blk_far (p := ⟨g2, 3, none⟩) (blk_far (p := ⟨g2, 2, none⟩) (blk_far (p := ⟨g2, 1, none⟩) (blk_far (p := ⟨g2, 0, none⟩) (blk_put CR.out 1 (.int .i64 at2) (cs' := RdC A l.length c at2 0) rfl) n4 _) n4 _) n4 _) n4 _) n4 _) n4 _), (grown_new (grown_new (grown_new (grown_new (grown_new (grown_new (grown_below CB.out (grown_set CR.out 1 (.int .i64 at2))) G2.out) G2.out) G2.out) G2.out) G2.out) G2.out)⟩
def or_heix.T3 : Bool × List (List Nat × List Nat) := (true, [([], []), ([0], [0]), ([1], [1]), ([2], [2]), ([], []), ([4], [4]), ([5], [5]), ([6], [6]), ([3, 7], [3, 7]), ([8], [8]), ([9], [9]), ([9], [9]), ([9], [9]), ([], []), ([13, 10, 8, 0, 1, 2, 3, 4, 5, 6, 7, 8, 9, 10, 13], [10, 13]), ([11, 14, 0, 1, 2, 3, 4, 5, 6, 7, 8, 9, 10, 11, 13, 14], [11]), ([12, 15, 0, 1, 2, 3, 4, 5, 6, 7, 8, 9, 10, 11, 12, 13, 14, 15], [12])])
def or_heix.B3 : List Nat := [0, 1, 3, 7, 0, 16, 48, 112, 255, 511, 1023, 1023, 1023, 0, 10239, 28671, 65535]
theorem or_heix.tab3 : rtab .any (opsOf Try.f43 3) = or_heix.T3 := by kernel_rfl
theorem or_heix.bits3 : waitsOk or_heix.T3.2 or_heix.B3 = true := by kernel_rfl
theorem or_heix (g : Nat) (A : Option Addr) (c : Nat) (l : List Int) (at_ e : Int) (n : Bool) (a b c_ d e_ at2 e2 : Int) (w : World) (he : e = 0) (hG : hpGo l at_ = (n, a, b, c_, d, e_, at2, e2)) (hs : ¬ e2 = 0) (hB : Bytes l) (hl : l.length ≤ 1000000000000) (hr : Kd.C (Kd.int .u8) w A l.length l) (hc : l.length ≤ c) (hb : w.heap[g]? = some (.cells (RdC A l.length c at_ e) 77 (0, 0))) :
  Calls Try.prog 43 #[.pointer (some ⟨g, 0, none⟩)] w fun x w' => x = .returned (.agg #[.bool n, .int .i64 a, .int .i64 b, .int .i64 c_, .int .i64 d, .int .i64 e_]) ∧ w'.heap[g]? = some (.cells (RdC A l.length c at_ e2) 77 (0, 0)) ∧ w.grownBy w' (some g) := by
 subst he
 have hu23 := Try.underlying41
 have HBB := Aside0.mk hb
 have HG := Aside0.mk (show height_Parse.f l at_ = some (n, a, b, c_, d, e_, at2, e2) by unfold height_Parse.f; rw [if_pos ⟨hl, hB⟩, hG])
 have HR := Aside0.mk hr
 have HC := Aside0.mk hc
 have b1 : (e2 != 0) = true := bne_iff_ne.mpr hs
 clear hs
 clear hG hb hr hc hB hl
 go_enter Try.func43, Try.ntmps43
 go_upto_region 3 with (((with_reducible refine gate_dst (N := 2) rfl ?_); refine box_event ?hg (N := 2) ?hd (cs := #[.bool false, .int .i64 0, .int .i64 0, .int .i64 0, .int .i64 0, .int .i64 0]) (t := 41) ?hr ?_; (case hd => rfl); (case hg => rfl); (case hr => first | (go_simp; done) | (go_simp; rfl)); intro g2 hg wq hbox hb; have HB := Aside0.mk hb; have G2 := Aside0.mk (Nat.le_of_eq hg.symm); have B2 := Aside0.mk hbox; have BR := Aside0.mk (blk_below HBB.out hb); clear hb hbox hg; have h1 : wq.cell? ⟨g, 2, none⟩ = some (.int .i64 0) := (blk_cell BR.out 2).trans rfl))
 clear h1
 have HBd := Aside0.mk (below_drew HB.out)
 have B2d := Aside0.mk (show wq.drew.heap[g2]? = _ from B2.out)
 have BRd := Aside0.mk (show wq.drew.heap[g]? = _ from BR.out)
 clear HB B2 BR
 refine start_ (n := 17) (S := fun w' => w'.cell? ⟨g, 0, none⟩ = some (.slice A l.length c) ∧ w'.cell? ⟨g, 1, none⟩ = some (.int .i64 at_)) (ds := [14]) #[false, false, false, false, false, false, false, false, false, false, false, false, false, false, false, false, false] (by kernel_rfl) rfl rfl ⟨(blk_cell BRd.out 0).trans rfl, (blk_cell BRd.out 1).trans rfl⟩ (fun hHeld => ?_); refine with_tabW or_heix.tab3 or_heix.bits3 (fun HT_ HW_ => ?_)
 refine pureA (i := 0) (N := some 13) HT_ ?_
 refine pureA (i := 1) (N := some 14) HT_ ?_
 refine pureA (i := 2) (N := some 15) HT_ ?_
 refine pureA (i := 4) (N := some 17) HT_ ?_
 refine pureA (i := 5) (N := some 18) HT_ ?_
 refine pureA (i := 6) (N := some 19) HT_ ?_
 refine takeA (i := 3) (N := some 16) HT_ HW_ hHeld ?_
 refine takeA (i := 7) (N := some 20) HT_ HW_ hHeld ?_
 refine join_ (σ := Nat) 3 #[true, true, true, true, true, true, true, true, true, true, true, true, true, true, false, false, false] (fun s_ => [(21, .tuple #[.agg #[.bool n, .int .i64 a, .int .i64 b, .int .i64 c_, .int .i64 d, .int .i64 e_], .int .i64 at2, .int .i64 e2]), (12, .tuple #[.agg #[.bool n, .int .i64 a, .int .i64 b, .int .i64 c_, .int .i64 d, .int .i64 e_], .int .i64 at2, .int .i64 e2]), (22, .agg #[.bool n, .int .i64 a, .int .i64 b, .int .i64 c_, .int .i64 d, .int .i64 e_]), (23, .int .i64 at2), (24, .int .i64 e2), (3, .pointer (some ⟨s_, 0, none⟩))]) (fun s_ w' => (w'.cell? ⟨g, 0, none⟩ = some (.slice A l.length c) ∧ w'.cell? ⟨g, 1, none⟩ = some (.int .i64 at_)) ∧ Aside0 (w'.heap[s_]? = some (.cells #[.bool false, .int .i64 0, .int .i64 0, .int .i64 0, .int .i64 0, .int .i64 0] 41 (0, 0))) ∧ Aside0 (w'.heap[g]? = some (.cells (RdC A l.length c at_ 0) 77 (0, 0))) ∧ Aside0 (w'.heap[g2]? = some (.cells #[.bool false, .int .i64 0, .int .i64 0, .int .i64 0, .int .i64 0, .int .i64 0] 41 (0, 0))) ∧ Aside0 (Below w.heap.size w w') ∧ Aside0 (w.heap.size ≤ s_) ∧ Aside0 (g2 ≠ s_)) ?_ ?_
 rotate_left
 ·intro hCont
  refine two_ (i := 8) (j := 13) (Ni := some 21) (Nj := some 3) #[true, true, true, true, true, true, true, true, true, false, false, false, false, false, false, false, false] #[true, true, true, true, true, true, true, true, false, false, false, false, false, true, false, false, false] rfl rfl rfl rfl (two_of HT_.out (by kernel_rfl)) (by decide) (by decide) (fun K hK => ?_) (fun K hK => ?_)
  ·skip
   refine goes_ Try.func50 (by kernel_rfl) rfl #[.slice A l.length c, .int .i64 at_] (by rfl) rfl rfl (by simp only [List.map_toArray, List.map_cons, List.map_nil]; rfl) ?_
   with_reducible refine (height_Parse.calls A c l at_ n a b c_ d e_ at2 e2 _ (Kd.C_below HR.out HBd.out) HC.out HG.out).mono ?_
   rintro x7 w7 ⟨rfl, hb7⟩
   refine ⟨_, rfl, ?_⟩
   have HBn := Aside0.mk (below_step HBd.out hb7)
   have B2n := Aside0.mk (blk_below B2d.out hb7)
   have BRn := Aside0.mk (blk_below BRd.out hb7)
   clear HBd B2d BRd hb7
   have HBd := HBn
   have B2d := B2n
   have BRd := BRn
   clear HBn B2n BRn
   refine hK.out _ _ ⟨(blk_cell BRd.out 0).trans rfl, (blk_cell BRd.out 1).trans rfl⟩ (fun hHeld => ?_)
   clear hK K
   refine normA (N := 21) ?_
   refine pureA (i := 9) (N := some 12) HT_ ?_
   refine pureA (i := 10) (N := some 22) HT_ ?_
   refine pureA (i := 11) (N := some 23) HT_ ?_
   refine pureA (i := 12) (N := some 24) HT_ ?_
   refine oneA (i := 13) (N := some 3) HT_ (fun K hK => ?_)
   refine box_step ?hg (N := 3) ?hd (cs := #[.bool false, .int .i64 0, .int .i64 0, .int .i64 0, .int .i64 0, .int .i64 0]) (t := 41) ?hr ?_
   (case hd => rfl)
   (case hg => rfl)
   (case hr => first | (go_simp; done) | (go_simp; rfl))
   intro g3 hg w8 hbox hb
   have HBn := Aside0.mk (below_step HBd.out hb)
   have B2n := Aside0.mk (blk_below B2d.out hb)
   have BRn := Aside0.mk (blk_below BRd.out hb)
   have B3d := Aside0.mk hbox
   have G3 := Aside0.mk (show w.heap.size ≤ g3 by rw [hg]; exact below_size HBd.out)
   have N23 := Aside0.mk (show g2 ≠ g3 by rw [hg]; exact Nat.ne_of_lt (blk_lt B2d.out))
   clear HBd B2d BRd hb hbox hg
   have HBd := HBn
   have B2d := B2n
   have BRd := BRn
   clear HBn B2n BRn
   refine hK.out _ _ ⟨(blk_cell BRd.out 0).trans rfl, (blk_cell BRd.out 1).trans rfl⟩ (fun hHeld => ?_)
   clear hK K
   refine normA (N := 3) ?_
   exact norm_ (by simp only [putAll, Act.put, List.setIfInBounds_toArray, List.set_cons_zero, List.set_cons_succ]) (hCont g3 _ ⟨hHeld, B3d, BRd, B2d, HBd, G3, N23⟩)
  ·skip
   refine box_step ?hg (N := 3) ?hd (cs := #[.bool false, .int .i64 0, .int .i64 0, .int .i64 0, .int .i64 0, .int .i64 0]) (t := 41) ?hr ?_
   (case hd => rfl)
   (case hg => rfl)
   (case hr => first | (go_simp; done) | (go_simp; rfl))
   intro g3 hg w8 hbox hb
   have HBn := Aside0.mk (below_step HBd.out hb)
   have B2n := Aside0.mk (blk_below B2d.out hb)
   have BRn := Aside0.mk (blk_below BRd.out hb)
   have B3d := Aside0.mk hbox
   have G3 := Aside0.mk (show w.heap.size ≤ g3 by rw [hg]; exact below_size HBd.out)
   have N23 := Aside0.mk (show g2 ≠ g3 by rw [hg]; exact Nat.ne_of_lt (blk_lt B2d.out))
   clear HBd B2d BRd hb hbox hg
   have HBd := HBn
   have B2d := B2n
   have BRd := BRn
   clear HBn B2n BRn
   refine hK.out _ _ ⟨(blk_cell BRd.out 0).trans rfl, (blk_cell BRd.out 1).trans rfl⟩ (fun hHeld => ?_)
   clear hK K
   refine normA (N := 3) ?_
   refine oneA (i := 8) (N := some 21) HT_ (fun K hK => ?_)
   refine goes_ Try.func50 (by kernel_rfl) rfl #[.slice A l.length c, .int .i64 at_] (by rfl) rfl rfl (by simp only [List.map_toArray, List.map_cons, List.map_nil]; rfl) ?_
   with_reducible refine (height_Parse.calls A c l at_ n a b c_ d e_ at2 e2 _ (Kd.C_below HR.out HBd.out) HC.out HG.out).mono ?_
   rintro x7 w7 ⟨rfl, hb7⟩
   refine ⟨_, rfl, ?_⟩
   have HBn := Aside0.mk (below_step HBd.out hb7)
   have B2n := Aside0.mk (blk_below B2d.out hb7)
   have BRn := Aside0.mk (blk_below BRd.out hb7)
   have B3n := Aside0.mk (blk_below B3d.out hb7)
   clear HBd B2d BRd B3d hb7
   have HBd := HBn
   have B2d := B2n
   have BRd := BRn
   have B3d := B3n
   clear HBn B2n BRn B3n
   refine hK.out _ _ ⟨(blk_cell BRd.out 0).trans rfl, (blk_cell BRd.out 1).trans rfl⟩ (fun hHeld => ?_)
   clear hK K
   refine normA (N := 21) ?_
   refine pureA (i := 9) (N := some 12) HT_ ?_
   refine pureA (i := 10) (N := some 22) HT_ ?_
   refine pureA (i := 11) (N := some 23) HT_ ?_
   refine pureA (i := 12) (N := some 24) HT_ ?_
   exact norm_ (by simp only [putAll, Act.put, List.setIfInBounds_toArray, List.set_cons_zero, List.set_cons_succ]) (hCont g3 _ ⟨hHeld, B3d, BRd, B2d, HBd, G3, N23⟩)
 rintro g3 w8 ⟨hHeld, B3, BR, B2, HB, G3, N23⟩
 clear B2d BRd HBd
 obtain ⟨⟨u0, u1, u2, u3, u4, u5⟩, uf0, uf1, uf2, uf3, uf4, uf5⟩ := cells6 B3.out
 refine norm_ (a' := ?_) ?_ ?_
 rotate_left
 ·simp only [putAll, Act.put, List.setIfInBounds_toArray, List.set_cons_zero, List.set_cons_succ]
  rfl
 refine last_ (i := 14) (N := none) #[true, true, true, true, true, true, true, true, true, true, true, true, true, true, true, false, false] rfl rfl (one_of HT_.out (by kernel_rfl)) (by decide) (fun K hK => ?_)
 refine skip_ (w1 := ?_) (by rfl) rfl ?_ ?_
 rotate_left
 ·go_simp
  rfl
 refine hK.out _ _ ?_
 clear hK K
 refine pureA (i := 15) (N := some 4) HT_ ?_
 refine pureA (i := 16) (N := some 5) HT_ ?_
 refine done_ (done_of HT_.out (by kernel_rfl)) ?_
 clear HT_ HW_ hHeld u0 uf0 u1 uf1 u2 uf2 u3 uf3 u4 uf4 u5 uf5
 have nr3 : g ≠ g3 := blk_ne BR.out B3.out (by decide)
 have C3 := Aside0.mk (show ((((((w8.setCell ⟨g3, 0, none⟩ (.bool n)).setCell ⟨g3, 1, none⟩ (.int .i64 a)).setCell ⟨g3, 2, none⟩ (.int .i64 b)).setCell ⟨g3, 3, none⟩ (.int .i64 c_)).setCell ⟨g3, 4, none⟩ (.int .i64 d)).setCell ⟨g3, 5, none⟩ (.int .i64 e_)).heap[g3]? = some (.cells #[.bool n, .int .i64 a, .int .i64 b, .int .i64 c_, .int .i64 d, .int .i64 e_] 41 (0, 0)) from (blk_put (blk_put (blk_put (blk_put (blk_put (blk_put B3.out 0 (.bool n) (cs' := #[.bool n, .int .i64 0, .int .i64 0, .int .i64 0, .int .i64 0, .int .i64 0]) rfl) 1 (.int .i64 a) (cs' := #[.bool n, .int .i64 a, .int .i64 0, .int .i64 0, .int .i64 0, .int .i64 0]) rfl) 2 (.int .i64 b) (cs' := #[.bool n, .int .i64 a, .int .i64 b, .int .i64 0, .int .i64 0, .int .i64 0]) rfl) 3 (.int .i64 c_) (cs' := #[.bool n, .int .i64 a, .int .i64 b, .int .i64 c_, .int .i64 0, .int .i64 0]) rfl) 4 (.int .i64 d) (cs' := #[.bool n, .int .i64 a, .int .i64 b, .int .i64 c_, .int .i64 d, .int .i64 0]) rfl) 5 (.int .i64 e_) (cs' := #[.bool n, .int .i64 a, .int .i64 b, .int .i64 c_, .int .i64 d, .int .i64 e_]) rfl))
 have C2 := Aside0.mk (show ((((((w8.setCell ⟨g3, 0, none⟩ (.bool n)).setCell ⟨g3, 1, none⟩ (.int .i64 a)).setCell ⟨g3, 2, none⟩ (.int .i64 b)).setCell ⟨g3, 3, none⟩ (.int .i64 c_)).setCell ⟨g3, 4, none⟩ (.int .i64 d)).setCell ⟨g3, 5, none⟩ (.int .i64 e_)).heap[g2]? = some (.cells #[.bool false, .int .i64 0, .int .i64 0, .int .i64 0, .int .i64 0, .int .i64 0] 41 (0, 0)) from (blk_far (p := ⟨g3, 5, none⟩) (blk_far (p := ⟨g3, 4, none⟩) (blk_far (p := ⟨g3, 3, none⟩) (blk_far (p := ⟨g3, 2, none⟩) (blk_far (p := ⟨g3, 1, none⟩) (blk_far (p := ⟨g3, 0, none⟩) B2.out N23.out _) N23.out _) N23.out _) N23.out _) N23.out _) N23.out _))
 have CR := Aside0.mk (show ((((((w8.setCell ⟨g3, 0, none⟩ (.bool n)).setCell ⟨g3, 1, none⟩ (.int .i64 a)).setCell ⟨g3, 2, none⟩ (.int .i64 b)).setCell ⟨g3, 3, none⟩ (.int .i64 c_)).setCell ⟨g3, 4, none⟩ (.int .i64 d)).setCell ⟨g3, 5, none⟩ (.int .i64 e_)).heap[g]? = some (.cells (RdC A l.length c at_ 0) 77 (0, 0)) from (blk_far (p := ⟨g3, 5, none⟩) (blk_far (p := ⟨g3, 4, none⟩) (blk_far (p := ⟨g3, 3, none⟩) (blk_far (p := ⟨g3, 2, none⟩) (blk_far (p := ⟨g3, 1, none⟩) (blk_far (p := ⟨g3, 0, none⟩) BR.out nr3 _) nr3 _) nr3 _) nr3 _) nr3 _) nr3 _))
 have CB := Aside0.mk (show Below w.heap.size w ((((((w8.setCell ⟨g3, 0, none⟩ (.bool n)).setCell ⟨g3, 1, none⟩ (.int .i64 a)).setCell ⟨g3, 2, none⟩ (.int .i64 b)).setCell ⟨g3, 3, none⟩ (.int .i64 c_)).setCell ⟨g3, 4, none⟩ (.int .i64 d)).setCell ⟨g3, 5, none⟩ (.int .i64 e_)) from (below_set (below_set (below_set (below_set (below_set (below_set HB.out G3.out) G3.out) G3.out) G3.out) G3.out) G3.out))
 clear B3 B2 BR HB nr3
 generalize ((((((w8.setCell ⟨g3, 0, none⟩ (.bool n)).setCell ⟨g3, 1, none⟩ (.int .i64 a)).setCell ⟨g3, 2, none⟩ (.int .i64 b)).setCell ⟨g3, 3, none⟩ (.int .i64 c_)).setCell ⟨g3, 4, none⟩ (.int .i64 d)).setCell ⟨g3, 5, none⟩ (.int .i64 e_)) = w9 at C3 C2 CR CB ⊢
 obtain ⟨⟨y0, y1, y2, y3, y4, y5⟩, yf0, yf1, yf2, yf3, yf4, yf5⟩ := cells6 C3.out
 obtain ⟨⟨z0, z1, z2, z3, z4, z5⟩, zf0, zf1, zf2, zf3, zf4, zf5⟩ := cells6 C2.out
 have k1 : w9.cell? ⟨g, 2, none⟩ = some (.int .i64 0) := (blk_cell CR.out 2).trans rfl
 have kf := blk_frozen CR.out 2
 have n2 : g2 ≠ g := blk_ne C2.out CR.out (by decide)
 have n3 : g3 ≠ g := blk_ne C3.out CR.out (by decide)
 have n4 : g ≠ g2 := blk_ne CR.out C2.out (by decide)
 have n5 : g ≠ g3 := blk_ne CR.out C3.out (by decide)
 have n6 : g2 ≠ g3 := N23.out
 have n7 : g3 ≠ g2 := N23.out.symm
 go_wp2
 refine bodyPost_ret (results_single (P := Try.prog) (r := .cell 2 41) rfl (Vals.cell g2 41 #[.bool n, .int .i64 a, .int .i64 b, .int .i64 c_, .int .i64 d, .int .i64 e_] (0, 0) _ rfl (blk_put (blk_put (blk_put (blk_put (blk_put (blk_put (blk_far (p := ⟨g, 2, none⟩) C2.out n2 _) 0 (.bool n) (cs' := #[.bool n, .int .i64 0, .int .i64 0, .int .i64 0, .int .i64 0, .int .i64 0]) rfl) 1 (.int .i64 a) (cs' := #[.bool n, .int .i64 a, .int .i64 0, .int .i64 0, .int .i64 0, .int .i64 0]) rfl) 2 (.int .i64 b) (cs' := #[.bool n, .int .i64 a, .int .i64 b, .int .i64 0, .int .i64 0, .int .i64 0]) rfl) 3 (.int .i64 c_) (cs' := #[.bool n, .int .i64 a, .int .i64 b, .int .i64 c_, .int .i64 0, .int .i64 0]) rfl) 4 (.int .i64 d) (cs' := #[.bool n, .int .i64 a, .int .i64 b, .int .i64 c_, .int .i64 d, .int .i64 0]) rfl) 5 (.int .i64 e_) (cs' := #[.bool n, .int .i64 a, .int .i64 b, .int .i64 c_, .int .i64 d, .int .i64 e_]) rfl) Try.underlying41 rfl (by kernel_rfl) .nil)) rfl ?_
 exact ⟨rfl, (blk_far (p := ⟨g2, 5, none⟩) (blk_far (p := ⟨g2, 4, none⟩) (blk_far (p := ⟨g2, 3, none⟩) (blk_far (p := ⟨g2, 2, none⟩) (blk_far (p := ⟨g2, 1, none⟩) (blk_far (p := ⟨g2, 0, none⟩) (blk_put CR.out 2 (.int .i64 e2) (cs' := RdC A l.length c at_ e2) rfl) n4 _) n4 _) n4 _) n4 _) n4 _) n4 _), (grown_new (grown_new (grown_new (grown_new (grown_new (grown_new (grown_below CB.out (grown_set CR.out 2 (.int .i64 e2))) G2.out) G2.out) G2.out) G2.out) G2.out) G2.out)⟩
theorem or_height (g : Nat) (A : Option Addr) (c : Nat) (l : List Int) (at_ e : Int) (n : Bool) (a b c_ d e_ at2 e2 : Int) (w : World) (hN : rdH l at_ e = (n, a, b, c_, d, e_, at2, e2)) (hB : Bytes l) (hl : l.length ≤ 1000000000000) (hr : Kd.C (Kd.int .u8) w A l.length l) (hc : l.length ≤ c) (hb : w.heap[g]? = some (.cells (RdC A l.length c at_ e) 77 (0, 0))) :
  Calls Try.prog 43 #[.pointer (some ⟨g, 0, none⟩)] w fun x w' => x = .returned (.agg #[.bool n, .int .i64 a, .int .i64 b, .int .i64 c_, .int .i64 d, .int .i64 e_]) ∧ w'.heap[g]? = some (.cells (RdC A l.length c at2 e2) 77 (0, 0)) ∧ w.grownBy w' (some g) := by
 unfold rdH at hN
 by_cases he : e = 0
 ·rw [if_pos he] at hN
  obtain ⟨n', a', b', c', d', e', p', q', hG⟩ : ∃ n a b c d e p q, hpGo l at_ = (n, a, b, c, d, e, p, q) := ⟨_, _, _, _, _, _, _, _, rfl⟩
  rw [hG] at hN
  simp only at hN
  by_cases hs : q' = 0
  ·rw [if_pos hs] at hN
   simp only [Prod.mk.injEq] at hN
   obtain ⟨rfl, rfl, rfl, rfl, rfl, rfl, rfl, rfl⟩ := hN
   subst hs
   exact or_hei g A c l at_ e _ _ _ _ _ _ _ 0 w he hG rfl hB hl hr hc hb
  ·rw [if_neg hs] at hN
   simp only [Prod.mk.injEq] at hN
   obtain ⟨rfl, rfl, rfl, rfl, rfl, rfl, rfl, rfl⟩ := hN
   exact or_heix g A c l at_ e _ _ _ _ _ _ _ _ w he hG hs hB hl hr hc hb
 ·rw [if_neg he] at hN
  simp only [Prod.mk.injEq] at hN
  obtain ⟨rfl, rfl, rfl, rfl, rfl, rfl, rfl, rfl⟩ := hN
  refine (or_heiE g A l.length c at_ e w he hb).mono ?_
  rintro x w' ⟨rfl, hbb⟩
  exact ⟨rfl, blk_below hb hbb, hbb.os, hbb.tape, hbb.output, hbb.size, fun k hk _ => hbb.block k hk⟩
end Go.Proofs.Ytfigbjjaffkidaa.P
namespace Go.Proofs.Ytfigbjjaffkidaa.P
open Go.RowKit YtfigbjjaffkidaaW.PrintWords YtfigbjjaffkidaaW.PrintLast YtfigbjjaffkidaaW.PrintMore
theorem wire_Int_eq (v : Int) : wire_Int.f v = some (intSpec v) := by
 unfold wire_Int.f wire_bytes.f intSpec
 rw [wrap_u64, if_pos (by omega)]
 rfl
theorem intSpec_length (v : Int) : (intSpec v).length = 8 := be_length _ _
theorem ob_no (a0 a1 : Int) (a2 : Bool) (a3 a4 a5 a6 a7 a8 a9 a10 a11 c : Int) (h : Ev (fun k => object_Check.f k a0 a1 a2 a3 a4 a5 a6 a7 a8 a9 a10 a11) c) (hc : c ≠ 0) :
  Ev (fun k => object_Bytes.f k a0 a1 a2 a3 a4 a5 a6 a7 a8 a9 a10 a11) ([], c) := by
 unfold object_Bytes.f
 refine Ev.bind h ?_
 simp only [if_neg hc]
 exact Ev.now _
theorem os_ev (a0 a1 : Int) (a2 : Bool) (a3 a4 a5 a6 a7 a8 a9 a10 a11 : Int) (out : List Int × Int) (h : Ev (fun k => object_Bytes.f k a0 a1 a2 a3 a4 a5 a6 a7 a8 a9 a10 a11) out) :
  Ev (fun k => object_Size.f k a0 a1 a2 a3 a4 a5 a6 a7 a8 a9 a10 a11) (out.1.length : Int) := by
 unfold object_Size.f
 exact Ev.bind h (Ev.now _)
def RO (a0 a1 : Int) (a2 : Bool) (a3 a4 a5 a6 a7 a8 a9 a10 a11 : Int) : Prop := (0 ≤ a1 ∧ a1 < 64) ∧
  ((a0 = 1 ∧ (a8 = 0 ∧ a9 = 0 ∧ a10 = 0) ∧ (a2 = false ∧ a3 = 0 ∧ a4 = 0 ∧ a5 = 0 ∧ a6 = 0 ∧ a7 = 0) ∧ a11 = 0) ∨
   (a0 = 2 ∧ (a8 = 0 ∧ a9 = 0 ∧ a10 = 0) ∧ a11 = 0 ∧ RH a2 a3 a4 a5 a6 a7) ∨
   (a0 = 3 ∧ (a2 = false ∧ a3 = 0 ∧ a4 = 0 ∧ a5 = 0 ∧ a6 = 0 ∧ a7 = 0) ∧ a11 = 0 ∧ RH false a8 a9 a10 0 0) ∨
   (a0 = 4 ∧ (a8 = 0 ∧ a9 = 0 ∧ a10 = 0) ∧ 0 ≤ a11 ∧ a11 ≤ 65535 ∧ RH a2 a3 a4 a5 a6 a7 ∧ a2 = false))
instance (a0 a1 : Int) (a2 : Bool) (a3 a4 a5 a6 a7 a8 a9 a10 a11 : Int) : Decidable (RO a0 a1 a2 a3 a4 a5 a6 a7 a8 a9 a10 a11) := by unfold RO; infer_instance
theorem oj1_eq (x4 : Bool) (a0 a1 : Int) (a2 : Bool) (a3 a4 a5 a6 a7 a8 a9 a10 a11 : Int) (b2 : Bool) (b3 b4 b5 b6 b7 b8 b9 b10 b11 : Int) :
  Ev (fun k => object_Check.j1 k x4 a0 a1 a2 a3 a4 a5 a6 a7 a8 a9 a10 a11 0 0 b2 b3 b4 b5 b6 b7 b8 b9 b10 b11) (if x4 = true ∧ RH a2 a3 a4 a5 a6 a7 ∧ (b8 = 0 ∧ b9 = 0 ∧ b10 = 0) ∧ b11 = 0 then 0 else 1) := by
 refine Ev.step (f := fun k => _) (fun k => by simp only [object_Check.j1]; rfl) ?_
 cases x4 with
 | false => simp only [Bool.false_eq_true, if_false, false_and]; exact Ev.now _
 | true =>
  simp only [if_true, true_and]
  refine Ev.bind (hc_eq a2 a3 a4 a5 a6 a7) ?_
  by_cases h : RH a2 a3 a4 a5 a6 a7
  ·simp only [if_pos h, if_true, h, true_and]
   by_cases g : (b8 = 0 ∧ b9 = 0 ∧ b10 = 0) ∧ b11 = 0
   ·obtain ⟨⟨rfl, rfl, rfl⟩, rfl⟩ := g
    simp only [and_self, if_true]
    exact Ev.now _
   ·rw [if_neg g]
    have : (!((0 : Int) == 0) || (!((0 : Int) == 0) || ((!(b8 == 0) || (!(b9 == 0) || (!(b10 == 0)))) || (!(b11 == 0))))) = true := by
     rw [← Bool.not_eq_false]
     intro hf
     simp only [Bool.or_eq_false_iff, Bool.not_eq_false', beq_iff_eq] at hf
     exact g ⟨⟨hf.2.2.1.1, hf.2.2.1.2.1, hf.2.2.1.2.2⟩, hf.2.2.2⟩
    simp only [if_pos this]
    exact Ev.now _
  ·simp only [if_neg h, h, false_and, if_false, show ¬ (1 : Int) = 0 by decide]
   exact Ev.now _
theorem oc_eq (a0 a1 : Int) (a2 : Bool) (a3 a4 a5 a6 a7 a8 a9 a10 a11 : Int) : Ev (fun k => object_Check.f k a0 a1 a2 a3 a4 a5 a6 a7 a8 a9 a10 a11) (if RO a0 a1 a2 a3 a4 a5 a6 a7 a8 a9 a10 a11 then 0 else 1) := by
  have hj : ∀ x : Bool, Ev (fun k => object_Check.j0 k x a0 a1 a2 a3 a4 a5 a6 a7 a8 a9 a10 a11 0 0 a2 a3 a4 a5 a6 a7 a8 a9 a10 a11) (if x = true ∧
    ((a0 = 1 ∧ (a8 = 0 ∧ a9 = 0 ∧ a10 = 0) ∧ (a2 = false ∧ a3 = 0 ∧ a4 = 0 ∧ a5 = 0 ∧ a6 = 0 ∧ a7 = 0) ∧ a11 = 0) ∨
     (a0 = 2 ∧ (a8 = 0 ∧ a9 = 0 ∧ a10 = 0) ∧ a11 = 0 ∧ RH a2 a3 a4 a5 a6 a7) ∨
     (a0 = 3 ∧ (a2 = false ∧ a3 = 0 ∧ a4 = 0 ∧ a5 = 0 ∧ a6 = 0 ∧ a7 = 0) ∧ a11 = 0 ∧ RH false a8 a9 a10 0 0) ∨
     (a0 = 4 ∧ (a8 = 0 ∧ a9 = 0 ∧ a10 = 0) ∧ 0 ≤ a11 ∧ a11 ≤ 65535 ∧ RH a2 a3 a4 a5 a6 a7 ∧ a2 = false)) then 0 else 1) := by
    intro x
    refine Ev.step (f := fun k => _) (fun k => by simp only [object_Check.j0]; rfl) ?_
    by_cases h1 : a0 = 1
    · subst h1
      simp only [if_true, show ¬ (1 : Int) = 2 by decide, show ¬ (1 : Int) = 3 by decide, show ¬ (1 : Int) = 4 by decide, false_and, or_false, true_and]
      cases x with
      | false => simp only [Bool.false_eq_true, if_false, false_and]; exact Ev.now _
      | true =>
        simp only [if_true, true_and]
        by_cases g : (a8 = 0 ∧ a9 = 0 ∧ a10 = 0) ∧ (a2 = false ∧ a3 = 0 ∧ a4 = 0 ∧ a5 = 0 ∧ a6 = 0 ∧ a7 = 0) ∧ a11 = 0
        · rw [if_pos g]
          obtain ⟨⟨rfl, rfl, rfl⟩, ⟨rfl, rfl, rfl, rfl, rfl, rfl⟩, rfl⟩ := g
          exact Ev.now _
        · rw [if_neg g]
          have : (!((0 : Int) == 0) || (!((0 : Int) == 0) || ((a2 || (!(a3 == 0) || (!(a4 == 0) || (!(a5 == 0) || (!(a6 == 0) || (!(a7 == 0))))))) || ((!(a8 == 0) || (!(a9 == 0) || (!(a10 == 0)))) || (!(a11 == 0)))))) = true := by
            rw [← Bool.not_eq_false]
            intro hf
            simp only [Bool.or_eq_false_iff, Bool.not_eq_false', beq_iff_eq] at hf
            obtain ⟨_, _, ⟨u2, u3, u4, u5, u6, u7⟩, ⟨u8, u9, u10⟩, u11⟩ := hf
            exact g ⟨⟨u8, u9, u10⟩, ⟨u2, u3, u4, u5, u6, u7⟩, u11⟩
          simp only [if_pos this]
          exact Ev.now _
    by_cases h4 : a0 = 4
    · subst h4
      simp only [if_true, if_neg h1, show ¬ (4 : Int) = 1 by decide, show ¬ (4 : Int) = 2 by decide, show ¬ (4 : Int) = 3 by decide, false_and, false_or, true_and]
      cases x with
      | false =>
        simp only [Bool.false_eq_true, if_false, false_and]
        refine ev_eq (oj1_eq _ _ _ _ _ _ _ _ _ _ _ _ _ _ _ _ _ _ _ _ _ _ _) ?_
        simp only [Bool.false_eq_true, false_and, if_false]
      | true =>
        simp only [if_true, true_and]
        cases a2 with
        | true =>
          simp only [if_true, Bool.true_eq_false, and_false, if_false]
          refine ev_eq (oj1_eq _ _ _ _ _ _ _ _ _ _ _ _ _ _ _ _ _ _ _ _ _ _ _) ?_
          simp only [Bool.false_eq_true, false_and, if_false]
        | false =>
          simp only [Bool.false_eq_true, if_false, and_true]
          by_cases g : a11 ≥ 0
          · simp only [if_pos g]
            refine ev_eq (oj1_eq _ _ _ _ _ _ _ _ _ _ _ _ _ _ _ _ _ _ _ _ _ _ _) ?_
            have g0 : 0 ≤ a11 := g
            simp only [decide_eq_true_eq, g0, true_and, and_true]
            congr 1
            apply propext
            constructor
            · rintro ⟨u, v, w⟩; exact ⟨w, u, v⟩
            · rintro ⟨w, u, v⟩; exact ⟨u, v, w⟩
          · simp only [if_neg g]
            refine ev_eq (oj1_eq _ _ _ _ _ _ _ _ _ _ _ _ _ _ _ _ _ _ _ _ _ _ _) ?_
            have g' : ¬ 0 ≤ a11 := g
            simp only [g', Bool.false_eq_true, false_and, and_false, if_false]
    by_cases h2 : a0 = 2
    · subst h2
      simp only [if_neg h1, if_neg h4, if_true, show ¬ (2 : Int) = 1 by decide, show ¬ (2 : Int) = 4 by decide, show ¬ (2 : Int) = 3 by decide, false_and, false_or, or_false, true_and]
      refine ev_eq (oj1_eq _ _ _ _ _ _ _ _ _ _ _ _ _ _ _ _ _ _ _ _ _ _ _) ?_
      congr 1
      apply propext
      constructor
      · rintro ⟨u, v, w, z⟩; exact ⟨u, w, z, v⟩
      · rintro ⟨u, w, z, v⟩; exact ⟨u, v, w, z⟩
    by_cases h3 : a0 = 3
    · subst h3
      simp only [if_neg h1, if_neg h4, if_neg h2, if_true, show ¬ (3 : Int) = 1 by decide, show ¬ (3 : Int) = 4 by decide, show ¬ (3 : Int) = 2 by decide, false_and, false_or, or_false, true_and]
      obtain ⟨t, ht, he⟩ := ha_eq a8 a9 a10 0 0
      refine Ev.bind ht ?_
      rw [he]
      cases x with
      | false => simp only [Bool.false_eq_true, if_false, false_and]; exact Ev.now _
      | true =>
        simp only [if_true, true_and]
        by_cases h : RH false a8 a9 a10 0 0
        · simp only [if_pos h, h, if_true, and_true]
          by_cases g : (a2 = false ∧ a3 = 0 ∧ a4 = 0 ∧ a5 = 0 ∧ a6 = 0 ∧ a7 = 0) ∧ a11 = 0
          · rw [if_pos g]
            obtain ⟨⟨rfl, rfl, rfl, rfl, rfl, rfl⟩, rfl⟩ := g
            exact Ev.now _
          · rw [if_neg g]
            have : (!((0 : Int) == 0) || (!((0 : Int) == 0) || ((a2 || (!(a3 == 0) || (!(a4 == 0) || (!(a5 == 0) || (!(a6 == 0) || (!(a7 == 0))))))) || (!(a11 == 0))))) = true := by
              rw [← Bool.not_eq_false]
              intro hf
              simp only [Bool.or_eq_false_iff, Bool.not_eq_false', beq_iff_eq] at hf
              obtain ⟨_, _, ⟨u2, u3, u4, u5, u6, u7⟩, u11⟩ := hf
              exact g ⟨⟨u2, u3, u4, u5, u6, u7⟩, u11⟩
            simp only [if_pos this]
            exact Ev.now _
        · simp only [if_neg h, h, show ¬ (1 : Int) = 0 by decide, if_false, and_false]
          exact Ev.now _
    · simp only [if_neg h1, if_neg h4, if_neg h2, if_neg h3, h1, h2, h3, h4, false_and, or_false, and_false, if_false]
      exact Ev.now _
  unfold object_Check.f RO
  by_cases h : a1 ≥ 0
  · simp only [if_pos h]
    refine ev_eq (hj _) ?_
    have g0 : 0 ≤ a1 := h
    simp only [decide_eq_true_eq, g0, true_and]
  · simp only [if_neg h]
    refine ev_eq (hj _) ?_
    have h' : ¬ 0 ≤ a1 := h
    simp only [h', Bool.false_eq_true, false_and, and_false, if_false]
end Go.Proofs.Ytfigbjjaffkidaa.P
