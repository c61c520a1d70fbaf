-- WRITTEN BY xprint.py, a program of this session that drives the kit's printer.
import Derived.Test.YtjeahmlahkngaaaP0
import Derived.Test.YtjeahmlahkngaaaP1
import Derived.Test.YtjeahmlahkngaaaP2
import Derived.Test.YtjeahmlahkngaaaP3
import Derived.Test.YtjeahmlahkngaaaP4
import Derived.Test.YtjeahmlahkngaaaP5
import Derived.Test.YtjeahmlahkngaaaP6
import Derived.Test.YtjeahmlahkngaaaP7
import Derived.Test.YtjeahmlahkngaaaP8
import Derived.Test.YtjeahmlahkngaaaP11
import Derived.Test.YtjeahmlahkngaaaP12
import Derived.Test.YtjeahmlahkngaaaP14
import Derived.Test.YtjeahmlahkngaaaP15
import Derived.Test.YtjeahmlahkngaaaP17
import Derived.Test.YtjeahmlahkngaaaP18
import Derived.Test.YtjeahmlahkngaaaP19
import Derived.Test.YtjeahmlahkngaaaP20
namespace Go.Proofs.Ytjeahmlahkngaaa.P
open Go.RowKit Go.Proofs.YtjeahmlahkngaaaW.PrintWords Go.Proofs.YtjeahmlahkngaaaW.PrintLast Go.Proofs.YtjeahmlahkngaaaW.PrintMore
open Go.Proofs.YtjeahmlahkngaaaW.PrintWords renaming below_alloc → YA, pw_below_drewN → YB, below_drew1 → YC, below_step → YD, below_size → YE, blk_drewN → YF, blk_drew → YG, blk_alloc → YH, blk_cell → YI, blk_frozen → YJ, blk_below → YK
open List renaming setIfInBounds_toArray → YL, set_cons_zero → YM, set_cons_succ → YN, map_toArray → YO, length_take → YP, length_drop → YQ
open Go.Proofs.YtjeahmlahkngaaaW.PrintWords.Kd renaming R_alloc → YR, R_drewN → YS, R_drew → YT, R_below → YU
attribute [local go_sem] max2_int min2_int max_two min_two max_three min_three max_four min_four   -- for this text's walks alone
set_option linter.unusedVariables false
set_option linter.unusedSimpArgs false

attribute [local go_sem high] eqA23 eqA25
/-! ### thalweglaw02_HeightDoes: function 3 -/
def thalweglaw02_HeightDoes.j0 : Nat → Int → Int → Int → List Int → Int → List Int → Int → Bool → Bool → Int → Int → Int → Int → Int → Bool → Int → Int → Int → Int → Int → Option (Bool)
  | 0, _, _, _, _, _, _, _, _, _, _, _, _, _, _, _, _, _, _, _, _ => none
  | k + 1, x4, x12, x14, x15, x16, x17, x18, x19, x295000, x295001, x295002, x295003, x295004, x295005, x303000, x303001, x303002, x303003, x303004, x303005 => (thalweglaw02_awake.f k).bind fun t329 => (if t329 = true then (if x19 = true then ((height_Null.f x4).bind fun bt330 => ((thalwegref02_Null.f x4).bind fun bt336 => (if (bt330.1 == bt336.1 && (bt330.2.1 == bt336.2.1 && (bt330.2.2.1 == bt336.2.2.1 && (bt330.2.2.2.1 == bt336.2.2.2.1 && (bt330.2.2.2.2.1 == bt336.2.2.2.2.1 && (bt330.2.2.2.2.2 == bt336.2.2.2.2.2)))))) = true then ((height_Zero.f x4).bind fun bt342 => ((thalwegref02_Zero.f x4).bind fun bt348 => (if (bt342.1 == bt348.1 && (bt342.2.1 == bt348.2.1 && (bt342.2.2.1 == bt348.2.2.1 && (bt342.2.2.2.1 == bt348.2.2.2.1 && (bt342.2.2.2.2.1 == bt348.2.2.2.2.1 && (bt342.2.2.2.2.2 == bt348.2.2.2.2.2)))))) = true then (if (x295000 == x303000 && (x295001 == x303001 && (x295002 == x303002 && (x295003 == x303003 && (x295004 == x303004 && (x295005 == x303005)))))) = true then (if x12 = x14 then (if (strOfNums x15).toList = (strOfNums x17).toList then (some (x16 == x18)) else (none)) else (none)) else (none)) else (none)))) else (none)))) else (none)) else (none))
def thalweglaw02_HeightDoes.f (k : Nat) (a0_0 : Bool) (a0_1 : Int) (a0_2 : Int) (a0_3 : Int) (a0_4 : Int) (a0_5 : Int) (a1_0 : Bool) (a1_1 : Int) (a1_2 : Int) (a1_3 : Int) (a1_4 : Int) (a1_5 : Int) (a2_0 : Int) (a2_1 : Int) (a2_2 : Int) (a3 : Int) (a4 : Int) : Option (Bool) := (height_At.f k a2_0 a2_1 a2_2 a3 a4).bind fun bt287 => ((thalwegref02_At.f k a2_0 a2_1 a2_2 a3 a4).bind fun bt295 => ((height_Bytes.f k a0_0 a0_1 a0_2 a0_3 a0_4 a0_5).bind fun bt303 => ((thalwegref02_Bytes.f k a0_0 a0_1 a0_2 a0_3 a0_4 a0_5).bind fun bt307 => ((height_Check.f k a0_0 a0_1 a0_2 a0_3 a0_4 a0_5).bind fun t311 => ((thalwegref02_Right.f k a0_0 a0_1 a0_2 a0_3 a0_4 a0_5).bind fun t312 => (if ((t311 == 0) == t312) = true then ((height_Less.f k a0_0 a0_1 a0_2 a0_3 a0_4 a0_5 a1_0 a1_1 a1_2 a1_3 a1_4 a1_5).bind fun t313 => ((thalwegref02_Less.f k a0_0 a0_1 a0_2 a0_3 a0_4 a0_5 a1_0 a1_1 a1_2 a1_3 a1_4 a1_5).bind fun t314 => (if (t313 == t314) = true then ((height_Level.f k a0_0 a0_1 a0_2 a0_3 a0_4 a0_5).bind fun bt315 => ((thalwegref02_Level.f k a0_0 a0_1 a0_2 a0_3 a0_4 a0_5).bind fun bt318 => (if (bt315.1 == bt318.1 && (bt315.2.1 == bt318.2.1 && (bt315.2.2 == bt318.2.2))) = true then ((height_Level.f k a1_0 a1_1 a1_2 a1_3 a1_4 a1_5).bind fun bt321 => ((height_Order.f k a2_0 a2_1 a2_2 bt321.1 bt321.2.1 bt321.2.2).bind fun t324 => ((thalwegref02_Level.f k a1_0 a1_1 a1_2 a1_3 a1_4 a1_5).bind fun bt325 => ((thalwegref02_Order.f k a2_0 a2_1 a2_2 bt325.1 bt325.2.1 bt325.2.2).bind fun t328 => (thalweglaw02_HeightDoes.j0 k a4 bt287.2.2.2.2.2.2 bt295.2.2.2.2.2.2 bt303.1 bt303.2 bt307.1 bt307.2 (t324 == t328) bt287.1 bt287.2.1 bt287.2.2.1 bt287.2.2.2.1 bt287.2.2.2.2.1 bt287.2.2.2.2.2.1 bt295.1 bt295.2.1 bt295.2.2.1 bt295.2.2.2.1 bt295.2.2.2.2.1 bt295.2.2.2.2.2.1))))) else (thalweglaw02_HeightDoes.j0 k a4 bt287.2.2.2.2.2.2 bt295.2.2.2.2.2.2 bt303.1 bt303.2 bt307.1 bt307.2 false bt287.1 bt287.2.1 bt287.2.2.1 bt287.2.2.2.1 bt287.2.2.2.2.1 bt287.2.2.2.2.2.1 bt295.1 bt295.2.1 bt295.2.2.1 bt295.2.2.2.1 bt295.2.2.2.2.1 bt295.2.2.2.2.2.1)))) else (thalweglaw02_HeightDoes.j0 k a4 bt287.2.2.2.2.2.2 bt295.2.2.2.2.2.2 bt303.1 bt303.2 bt307.1 bt307.2 false bt287.1 bt287.2.1 bt287.2.2.1 bt287.2.2.2.1 bt287.2.2.2.2.1 bt287.2.2.2.2.2.1 bt295.1 bt295.2.1 bt295.2.2.1 bt295.2.2.2.1 bt295.2.2.2.2.1 bt295.2.2.2.2.2.1)))) else (thalweglaw02_HeightDoes.j0 k a4 bt287.2.2.2.2.2.2 bt295.2.2.2.2.2.2 bt303.1 bt303.2 bt307.1 bt307.2 false bt287.1 bt287.2.1 bt287.2.2.1 bt287.2.2.2.1 bt287.2.2.2.2.1 bt287.2.2.2.2.2.1 bt295.1 bt295.2.1 bt295.2.2.1 bt295.2.2.2.1 bt295.2.2.2.2.1 bt295.2.2.2.2.2.1)))))))
theorem thalweglaw02_HeightDoes.mono_l : ∀ k, (∀ y0 y1 y2 y3 y4 y5 y6 y7 y8 y9 y10 y11 y12 y13 y14 y15 y16 y17 y18 y19, LeO (thalweglaw02_HeightDoes.j0 k y0 y1 y2 y3 y4 y5 y6 y7 y8 y9 y10 y11 y12 y13 y14 y15 y16 y17 y18 y19) (thalweglaw02_HeightDoes.j0 (k + 1) y0 y1 y2 y3 y4 y5 y6 y7 y8 y9 y10 y11 y12 y13 y14 y15 y16 y17 y18 y19))
  | 0 => fun _ _ _ _ _ _ _ _ _ _ _ _ _ _ _ _ _ _ _ _ r h => by simp [thalweglaw02_HeightDoes.j0] at h
  | k + 1 => by
    have ih0 := thalweglaw02_HeightDoes.mono_l k
    · intro y0 y1 y2 y3 y4 y5 y6 y7 y8 y9 y10 y11 y12 y13 y14 y15 y16 y17 y18 y19
      unfold thalweglaw02_HeightDoes.j0
      repeat' first
      | (with_reducible exact ih0 _ _ _ _ _ _ _ _ _ _ _ _ _ _ _ _ _ _ _ _)
      | (with_reducible exact height_At.mono _ _ _ _ _ _)
      | (with_reducible exact height_Bytes.mono _ _ _ _ _ _ _)
      | (with_reducible exact height_Check.mono _ _ _ _ _ _ _)
      | (with_reducible exact height_Less.mono _ _ _ _ _ _ _ _ _ _ _ _ _)
      | (with_reducible exact height_Level.mono _ _ _ _ _ _ _)
      | (with_reducible exact height_Order.mono _ _ _ _ _ _ _)
      | (with_reducible exact thalweglaw02_awake.mono _)
      | (with_reducible exact thalwegref02_At.mono _ _ _ _ _ _)
      | (with_reducible exact thalwegref02_Bytes.mono _ _ _ _ _ _ _)
      | (with_reducible exact thalwegref02_Less.mono _ _ _ _ _ _ _ _ _ _ _ _ _)
      | (with_reducible exact thalwegref02_Level.mono _ _ _ _ _ _ _)
      | (with_reducible exact thalwegref02_Order.mono _ _ _ _ _ _ _)
      | (with_reducible exact thalwegref02_Right.mono _ _ _ _ _ _ _)
      | (with_reducible exact LeO.refl _)
      | (with_reducible exact LeO.none _)
      | (with_reducible refine LeO.ite ?_ ?_)
      | (with_reducible refine LeO.bind ?_ (fun _ => ?_))
      | exact ih0 _ _ _ _ _ _ _ _ _ _ _ _ _ _ _ _ _ _ _ _
      | exact height_At.mono _ _ _ _ _ _
      | exact height_Bytes.mono _ _ _ _ _ _ _
      | exact height_Check.mono _ _ _ _ _ _ _
      | exact height_Less.mono _ _ _ _ _ _ _ _ _ _ _ _ _
      | exact height_Level.mono _ _ _ _ _ _ _
      | exact height_Order.mono _ _ _ _ _ _ _
      | exact thalweglaw02_awake.mono _
      | exact thalwegref02_At.mono _ _ _ _ _ _
      | exact thalwegref02_Bytes.mono _ _ _ _ _ _ _
      | exact thalwegref02_Less.mono _ _ _ _ _ _ _ _ _ _ _ _ _
      | exact thalwegref02_Level.mono _ _ _ _ _ _ _
      | exact thalwegref02_Order.mono _ _ _ _ _ _ _
      | exact thalwegref02_Right.mono _ _ _ _ _ _ _
      | exact LeO.none _
      | refine LeO.ite ?_ ?_
      | refine LeO.bind ?_ (fun _ => ?_)
theorem thalweglaw02_HeightDoes.mono : ∀ a0 a1 a2 a3 a4 a5 a6 a7 a8 a9 a10 a11 a12 a13 a14 a15 a16 k, LeO (thalweglaw02_HeightDoes.f k a0 a1 a2 a3 a4 a5 a6 a7 a8 a9 a10 a11 a12 a13 a14 a15 a16) (thalweglaw02_HeightDoes.f (k + 1) a0 a1 a2 a3 a4 a5 a6 a7 a8 a9 a10 a11 a12 a13 a14 a15 a16) := by
  intro a0 a1 a2 a3 a4 a5 a6 a7 a8 a9 a10 a11 a12 a13 a14 a15 a16 k
  have ih0 := thalweglaw02_HeightDoes.mono_l k
  unfold thalweglaw02_HeightDoes.f
  repeat' first
      | (with_reducible exact ih0 _ _ _ _ _ _ _ _ _ _ _ _ _ _ _ _ _ _ _ _)
      | (with_reducible exact height_At.mono _ _ _ _ _ _)
      | (with_reducible exact height_Bytes.mono _ _ _ _ _ _ _)
      | (with_reducible exact height_Check.mono _ _ _ _ _ _ _)
      | (with_reducible exact height_Less.mono _ _ _ _ _ _ _ _ _ _ _ _ _)
      | (with_reducible exact height_Level.mono _ _ _ _ _ _ _)
      | (with_reducible exact height_Order.mono _ _ _ _ _ _ _)
      | (with_reducible exact thalweglaw02_awake.mono _)
      | (with_reducible exact thalwegref02_At.mono _ _ _ _ _ _)
      | (with_reducible exact thalwegref02_Bytes.mono _ _ _ _ _ _ _)
      | (with_reducible exact thalwegref02_Less.mono _ _ _ _ _ _ _ _ _ _ _ _ _)
      | (with_reducible exact thalwegref02_Level.mono _ _ _ _ _ _ _)
      | (with_reducible exact thalwegref02_Order.mono _ _ _ _ _ _ _)
      | (with_reducible exact thalwegref02_Right.mono _ _ _ _ _ _ _)
      | (with_reducible exact LeO.refl _)
      | (with_reducible exact LeO.none _)
      | (with_reducible refine LeO.ite ?_ ?_)
      | (with_reducible refine LeO.bind ?_ (fun _ => ?_))
      | exact ih0 _ _ _ _ _ _ _ _ _ _ _ _ _ _ _ _ _ _ _ _
      | exact height_At.mono _ _ _ _ _ _
      | exact height_Bytes.mono _ _ _ _ _ _ _
      | exact height_Check.mono _ _ _ _ _ _ _
      | exact height_Less.mono _ _ _ _ _ _ _ _ _ _ _ _ _
      | exact height_Level.mono _ _ _ _ _ _ _
      | exact height_Order.mono _ _ _ _ _ _ _
      | exact thalweglaw02_awake.mono _
      | exact thalwegref02_At.mono _ _ _ _ _ _
      | exact thalwegref02_Bytes.mono _ _ _ _ _ _ _
      | exact thalwegref02_Less.mono _ _ _ _ _ _ _ _ _ _ _ _ _
      | exact thalwegref02_Level.mono _ _ _ _ _ _ _
      | exact thalwegref02_Order.mono _ _ _ _ _ _ _
      | exact thalwegref02_Right.mono _ _ _ _ _ _ _
      | exact LeO.none _
      | refine LeO.ite ?_ ?_
      | refine LeO.bind ?_ (fun _ => ?_)
def thalweglaw02_HeightDoes.T5 : Bool × List (List Nat × List Nat) := (true, [([], []), ([0], [0]), ([1], [1]), ([], []), ([3, 1], [3]), ([2, 4], [2, 4]), ([5, 4], [5]), ([6], [6]), ([6], [6]), ([7, 8, 6, 6], [6, 7, 8]), ([6], [6]), ([6], [6]), ([10, 11, 9, 6], [6, 10, 11]), ([9, 12, 6], [6, 9, 12]), ([6, 13], [6, 13]), ([14, 12], [14]), ([15], [15]), ([16, 15, 15], [15, 16]), ([15], [15]), ([18, 17, 15], [15, 18]), ([17, 19, 15], [15, 17, 19]), ([15, 20], [15, 20]), ([21, 19], [21]), ([22], [22]), ([22], [22]), ([24, 22, 22], [22, 24]), ([23, 25, 25, 22], [22, 23, 25]), ([22], [22]), ([22], [22]), ([28, 26, 22], [22, 28]), ([27, 29, 29, 22], [22, 27, 29]), ([26, 30, 22], [22, 26, 30]), ([22, 31], [22, 31]), ([32, 30, 0, 1, 2, 3, 4, 5, 6, 7, 8, 9, 10, 11, 12, 13, 14, 15, 16, 17, 18, 19, 20, 21, 22, 23, 24, 25, 26, 27, 28, 29, 30, 31, 32], [32])])
def thalweglaw02_HeightDoes.B5 : List Nat := [0, 1, 3, 0, 11, 31, 63, 127, 127, 511, 127, 127, 4095, 8191, 16383, 32767, 65535, 131071, 65535, 524287, 1048575, 2097151, 4194303, 8388607, 8388607, 25165823, 67108863, 8388607, 8388607, 402653183, 1073741823, 2147483647, 4294967295, 8589934591]
theorem thalweglaw02_HeightDoes.tab5 : rtab .any (opsOf Try.f3 5) = thalweglaw02_HeightDoes.T5 := by kernel_rfl
theorem thalweglaw02_HeightDoes.bits5 : waitsOk thalweglaw02_HeightDoes.T5.2 thalweglaw02_HeightDoes.B5 = true := by kernel_rfl
set_option maxHeartbeats 8000000 in
set_option maxRecDepth 100000 in
theorem thalweglaw02_HeightDoes.calls (k : Nat) (a0_0 : Bool) (a0_1 : Int) (a0_2 : Int) (a0_3 : Int) (a0_4 : Int) (a0_5 : Int) (a1_0 : Bool) (a1_1 : Int) (a1_2 : Int) (a1_3 : Int) (a1_4 : Int) (a1_5 : Int) (a2_0 : Int) (a2_1 : Int) (a2_2 : Int) (a3 : Int) (a4 : Int) (r : Bool) (w : World) (h : thalweglaw02_HeightDoes.f k a0_0 a0_1 a0_2 a0_3 a0_4 a0_5 a1_0 a1_1 a1_2 a1_3 a1_4 a1_5 a2_0 a2_1 a2_2 a3 a4 = some r) :
    Calls Try.prog 3 #[.agg #[.bool a0_0, .int .i64 a0_1, .int .i64 a0_2, .int .i64 a0_3, .int .i64 a0_4, .int .i64 a0_5], .agg #[.bool a1_0, .int .i64 a1_1, .int .i64 a1_2, .int .i64 a1_3, .int .i64 a1_4, .int .i64 a1_5], .agg #[.int .i64 a2_0, .int .i64 a2_1, .int .i64 a2_2], .int .i64 a3, .int .i64 a4] w fun e w' => e = .returned (.bool r) ∧ Below w.heap.size w w' := by
  have hu23 := Try.underlying23
  have hu25 := Try.underlying25
  have HB := Aside0.mk (Below.refl w.heap.size w)
  have H : ((height_At.f k a2_0 a2_1 a2_2 a3 a4).bind fun bt287 => ((thalwegref02_At.f k a2_0 a2_1 a2_2 a3 a4).bind fun bt295 => ((height_Bytes.f k a0_0 a0_1 a0_2 a0_3 a0_4 a0_5).bind fun bt303 => ((thalwegref02_Bytes.f k a0_0 a0_1 a0_2 a0_3 a0_4 a0_5).bind fun bt307 => ((height_Check.f k a0_0 a0_1 a0_2 a0_3 a0_4 a0_5).bind fun t311 => ((thalwegref02_Right.f k a0_0 a0_1 a0_2 a0_3 a0_4 a0_5).bind fun t312 => (if ((t311 == 0) == t312) = true then ((height_Less.f k a0_0 a0_1 a0_2 a0_3 a0_4 a0_5 a1_0 a1_1 a1_2 a1_3 a1_4 a1_5).bind fun t313 => ((thalwegref02_Less.f k a0_0 a0_1 a0_2 a0_3 a0_4 a0_5 a1_0 a1_1 a1_2 a1_3 a1_4 a1_5).bind fun t314 => (if (t313 == t314) = true then ((height_Level.f k a0_0 a0_1 a0_2 a0_3 a0_4 a0_5).bind fun bt315 => ((thalwegref02_Level.f k a0_0 a0_1 a0_2 a0_3 a0_4 a0_5).bind fun bt318 => (if (bt315.1 == bt318.1 && (bt315.2.1 == bt318.2.1 && (bt315.2.2 == bt318.2.2))) = true then ((height_Level.f k a1_0 a1_1 a1_2 a1_3 a1_4 a1_5).bind fun bt321 => ((height_Order.f k a2_0 a2_1 a2_2 bt321.1 bt321.2.1 bt321.2.2).bind fun t324 => ((thalwegref02_Level.f k a1_0 a1_1 a1_2 a1_3 a1_4 a1_5).bind fun bt325 => ((thalwegref02_Order.f k a2_0 a2_1 a2_2 bt325.1 bt325.2.1 bt325.2.2).bind fun t328 => (thalweglaw02_HeightDoes.j0 k a4 bt287.2.2.2.2.2.2 bt295.2.2.2.2.2.2 bt303.1 bt303.2 bt307.1 bt307.2 (t324 == t328) bt287.1 bt287.2.1 bt287.2.2.1 bt287.2.2.2.1 bt287.2.2.2.2.1 bt287.2.2.2.2.2.1 bt295.1 bt295.2.1 bt295.2.2.1 bt295.2.2.2.1 bt295.2.2.2.2.1 bt295.2.2.2.2.2.1))))) else (thalweglaw02_HeightDoes.j0 k a4 bt287.2.2.2.2.2.2 bt295.2.2.2.2.2.2 bt303.1 bt303.2 bt307.1 bt307.2 false bt287.1 bt287.2.1 bt287.2.2.1 bt287.2.2.2.1 bt287.2.2.2.2.1 bt287.2.2.2.2.2.1 bt295.1 bt295.2.1 bt295.2.2.1 bt295.2.2.2.1 bt295.2.2.2.2.1 bt295.2.2.2.2.2.1)))) else (thalweglaw02_HeightDoes.j0 k a4 bt287.2.2.2.2.2.2 bt295.2.2.2.2.2.2 bt303.1 bt303.2 bt307.1 bt307.2 false bt287.1 bt287.2.1 bt287.2.2.1 bt287.2.2.2.1 bt287.2.2.2.2.1 bt287.2.2.2.2.2.1 bt295.1 bt295.2.1 bt295.2.2.1 bt295.2.2.2.1 bt295.2.2.2.2.1 bt295.2.2.2.2.2.1)))) else (thalweglaw02_HeightDoes.j0 k a4 bt287.2.2.2.2.2.2 bt295.2.2.2.2.2.2 bt303.1 bt303.2 bt307.1 bt307.2 false bt287.1 bt287.2.1 bt287.2.2.1 bt287.2.2.2.1 bt287.2.2.2.2.1 bt287.2.2.2.2.2.1 bt295.1 bt295.2.1 bt295.2.2.1 bt295.2.2.2.1 bt295.2.2.2.2.1 bt295.2.2.2.2.2.1)))))))) = some r := h
  clear h
  replace H := Option.bind_eq_some_iff.mp H
  obtain ⟨⟨t287, t288, t289, t290, t291, t292, t293⟩, A60, H⟩ := H
  replace H : ((thalwegref02_At.f k a2_0 a2_1 a2_2 a3 a4).bind fun bt295 => ((height_Bytes.f k a0_0 a0_1 a0_2 a0_3 a0_4 a0_5).bind fun bt303 => ((thalwegref02_Bytes.f k a0_0 a0_1 a0_2 a0_3 a0_4 a0_5).bind fun bt307 => ((height_Check.f k a0_0 a0_1 a0_2 a0_3 a0_4 a0_5).bind fun t311 => ((thalwegref02_Right.f k a0_0 a0_1 a0_2 a0_3 a0_4 a0_5).bind fun t312 => (if ((t311 == 0) == t312) = true then ((height_Less.f k a0_0 a0_1 a0_2 a0_3 a0_4 a0_5 a1_0 a1_1 a1_2 a1_3 a1_4 a1_5).bind fun t313 => ((thalwegref02_Less.f k a0_0 a0_1 a0_2 a0_3 a0_4 a0_5 a1_0 a1_1 a1_2 a1_3 a1_4 a1_5).bind fun t314 => (if (t313 == t314) = true then ((height_Level.f k a0_0 a0_1 a0_2 a0_3 a0_4 a0_5).bind fun bt315 => ((thalwegref02_Level.f k a0_0 a0_1 a0_2 a0_3 a0_4 a0_5).bind fun bt318 => (if (bt315.1 == bt318.1 && (bt315.2.1 == bt318.2.1 && (bt315.2.2 == bt318.2.2))) = true then ((height_Level.f k a1_0 a1_1 a1_2 a1_3 a1_4 a1_5).bind fun bt321 => ((height_Order.f k a2_0 a2_1 a2_2 bt321.1 bt321.2.1 bt321.2.2).bind fun t324 => ((thalwegref02_Level.f k a1_0 a1_1 a1_2 a1_3 a1_4 a1_5).bind fun bt325 => ((thalwegref02_Order.f k a2_0 a2_1 a2_2 bt325.1 bt325.2.1 bt325.2.2).bind fun t328 => (thalweglaw02_HeightDoes.j0 k a4 t293 bt295.2.2.2.2.2.2 bt303.1 bt303.2 bt307.1 bt307.2 (t324 == t328) t287 t288 t289 t290 t291 t292 bt295.1 bt295.2.1 bt295.2.2.1 bt295.2.2.2.1 bt295.2.2.2.2.1 bt295.2.2.2.2.2.1))))) else (thalweglaw02_HeightDoes.j0 k a4 t293 bt295.2.2.2.2.2.2 bt303.1 bt303.2 bt307.1 bt307.2 false t287 t288 t289 t290 t291 t292 bt295.1 bt295.2.1 bt295.2.2.1 bt295.2.2.2.1 bt295.2.2.2.2.1 bt295.2.2.2.2.2.1)))) else (thalweglaw02_HeightDoes.j0 k a4 t293 bt295.2.2.2.2.2.2 bt303.1 bt303.2 bt307.1 bt307.2 false t287 t288 t289 t290 t291 t292 bt295.1 bt295.2.1 bt295.2.2.1 bt295.2.2.2.1 bt295.2.2.2.2.1 bt295.2.2.2.2.2.1)))) else (thalweglaw02_HeightDoes.j0 k a4 t293 bt295.2.2.2.2.2.2 bt303.1 bt303.2 bt307.1 bt307.2 false t287 t288 t289 t290 t291 t292 bt295.1 bt295.2.1 bt295.2.2.1 bt295.2.2.2.1 bt295.2.2.2.2.1 bt295.2.2.2.2.2.1))))))) = some r := H
  have A6 := Aside0.mk A60
  clear A60
  replace H := Option.bind_eq_some_iff.mp H
  obtain ⟨⟨t295, t296, t297, t298, t299, t300, t301⟩, A70, H⟩ := H
  replace H : ((height_Bytes.f k a0_0 a0_1 a0_2 a0_3 a0_4 a0_5).bind fun bt303 => ((thalwegref02_Bytes.f k a0_0 a0_1 a0_2 a0_3 a0_4 a0_5).bind fun bt307 => ((height_Check.f k a0_0 a0_1 a0_2 a0_3 a0_4 a0_5).bind fun t311 => ((thalwegref02_Right.f k a0_0 a0_1 a0_2 a0_3 a0_4 a0_5).bind fun t312 => (if ((t311 == 0) == t312) = true then ((height_Less.f k a0_0 a0_1 a0_2 a0_3 a0_4 a0_5 a1_0 a1_1 a1_2 a1_3 a1_4 a1_5).bind fun t313 => ((thalwegref02_Less.f k a0_0 a0_1 a0_2 a0_3 a0_4 a0_5 a1_0 a1_1 a1_2 a1_3 a1_4 a1_5).bind fun t314 => (if (t313 == t314) = true then ((height_Level.f k a0_0 a0_1 a0_2 a0_3 a0_4 a0_5).bind fun bt315 => ((thalwegref02_Level.f k a0_0 a0_1 a0_2 a0_3 a0_4 a0_5).bind fun bt318 => (if (bt315.1 == bt318.1 && (bt315.2.1 == bt318.2.1 && (bt315.2.2 == bt318.2.2))) = true then ((height_Level.f k a1_0 a1_1 a1_2 a1_3 a1_4 a1_5).bind fun bt321 => ((height_Order.f k a2_0 a2_1 a2_2 bt321.1 bt321.2.1 bt321.2.2).bind fun t324 => ((thalwegref02_Level.f k a1_0 a1_1 a1_2 a1_3 a1_4 a1_5).bind fun bt325 => ((thalwegref02_Order.f k a2_0 a2_1 a2_2 bt325.1 bt325.2.1 bt325.2.2).bind fun t328 => (thalweglaw02_HeightDoes.j0 k a4 t293 t301 bt303.1 bt303.2 bt307.1 bt307.2 (t324 == t328) t287 t288 t289 t290 t291 t292 t295 t296 t297 t298 t299 t300))))) else (thalweglaw02_HeightDoes.j0 k a4 t293 t301 bt303.1 bt303.2 bt307.1 bt307.2 false t287 t288 t289 t290 t291 t292 t295 t296 t297 t298 t299 t300)))) else (thalweglaw02_HeightDoes.j0 k a4 t293 t301 bt303.1 bt303.2 bt307.1 bt307.2 false t287 t288 t289 t290 t291 t292 t295 t296 t297 t298 t299 t300)))) else (thalweglaw02_HeightDoes.j0 k a4 t293 t301 bt303.1 bt303.2 bt307.1 bt307.2 false t287 t288 t289 t290 t291 t292 t295 t296 t297 t298 t299 t300)))))) = some r := H
  have A7 := Aside0.mk A70
  clear A70
  replace H := Option.bind_eq_some_iff.mp H
  obtain ⟨⟨t303, t306⟩, A80, H⟩ := H
  replace H : ((thalwegref02_Bytes.f k a0_0 a0_1 a0_2 a0_3 a0_4 a0_5).bind fun bt307 => ((height_Check.f k a0_0 a0_1 a0_2 a0_3 a0_4 a0_5).bind fun t311 => ((thalwegref02_Right.f k a0_0 a0_1 a0_2 a0_3 a0_4 a0_5).bind fun t312 => (if ((t311 == 0) == t312) = true then ((height_Less.f k a0_0 a0_1 a0_2 a0_3 a0_4 a0_5 a1_0 a1_1 a1_2 a1_3 a1_4 a1_5).bind fun t313 => ((thalwegref02_Less.f k a0_0 a0_1 a0_2 a0_3 a0_4 a0_5 a1_0 a1_1 a1_2 a1_3 a1_4 a1_5).bind fun t314 => (if (t313 == t314) = true then ((height_Level.f k a0_0 a0_1 a0_2 a0_3 a0_4 a0_5).bind fun bt315 => ((thalwegref02_Level.f k a0_0 a0_1 a0_2 a0_3 a0_4 a0_5).bind fun bt318 => (if (bt315.1 == bt318.1 && (bt315.2.1 == bt318.2.1 && (bt315.2.2 == bt318.2.2))) = true then ((height_Level.f k a1_0 a1_1 a1_2 a1_3 a1_4 a1_5).bind fun bt321 => ((height_Order.f k a2_0 a2_1 a2_2 bt321.1 bt321.2.1 bt321.2.2).bind fun t324 => ((thalwegref02_Level.f k a1_0 a1_1 a1_2 a1_3 a1_4 a1_5).bind fun bt325 => ((thalwegref02_Order.f k a2_0 a2_1 a2_2 bt325.1 bt325.2.1 bt325.2.2).bind fun t328 => (thalweglaw02_HeightDoes.j0 k a4 t293 t301 t303 t306 bt307.1 bt307.2 (t324 == t328) t287 t288 t289 t290 t291 t292 t295 t296 t297 t298 t299 t300))))) else (thalweglaw02_HeightDoes.j0 k a4 t293 t301 t303 t306 bt307.1 bt307.2 false t287 t288 t289 t290 t291 t292 t295 t296 t297 t298 t299 t300)))) else (thalweglaw02_HeightDoes.j0 k a4 t293 t301 t303 t306 bt307.1 bt307.2 false t287 t288 t289 t290 t291 t292 t295 t296 t297 t298 t299 t300)))) else (thalweglaw02_HeightDoes.j0 k a4 t293 t301 t303 t306 bt307.1 bt307.2 false t287 t288 t289 t290 t291 t292 t295 t296 t297 t298 t299 t300))))) = some r := H
  have A8 := Aside0.mk A80
  clear A80
  replace H := Option.bind_eq_some_iff.mp H
  obtain ⟨⟨t307, t310⟩, A90, H⟩ := H
  replace H : ((height_Check.f k a0_0 a0_1 a0_2 a0_3 a0_4 a0_5).bind fun t311 => ((thalwegref02_Right.f k a0_0 a0_1 a0_2 a0_3 a0_4 a0_5).bind fun t312 => (if ((t311 == 0) == t312) = true then ((height_Less.f k a0_0 a0_1 a0_2 a0_3 a0_4 a0_5 a1_0 a1_1 a1_2 a1_3 a1_4 a1_5).bind fun t313 => ((thalwegref02_Less.f k a0_0 a0_1 a0_2 a0_3 a0_4 a0_5 a1_0 a1_1 a1_2 a1_3 a1_4 a1_5).bind fun t314 => (if (t313 == t314) = true then ((height_Level.f k a0_0 a0_1 a0_2 a0_3 a0_4 a0_5).bind fun bt315 => ((thalwegref02_Level.f k a0_0 a0_1 a0_2 a0_3 a0_4 a0_5).bind fun bt318 => (if (bt315.1 == bt318.1 && (bt315.2.1 == bt318.2.1 && (bt315.2.2 == bt318.2.2))) = true then ((height_Level.f k a1_0 a1_1 a1_2 a1_3 a1_4 a1_5).bind fun bt321 => ((height_Order.f k a2_0 a2_1 a2_2 bt321.1 bt321.2.1 bt321.2.2).bind fun t324 => ((thalwegref02_Level.f k a1_0 a1_1 a1_2 a1_3 a1_4 a1_5).bind fun bt325 => ((thalwegref02_Order.f k a2_0 a2_1 a2_2 bt325.1 bt325.2.1 bt325.2.2).bind fun t328 => (thalweglaw02_HeightDoes.j0 k a4 t293 t301 t303 t306 t307 t310 (t324 == t328) t287 t288 t289 t290 t291 t292 t295 t296 t297 t298 t299 t300))))) else (thalweglaw02_HeightDoes.j0 k a4 t293 t301 t303 t306 t307 t310 false t287 t288 t289 t290 t291 t292 t295 t296 t297 t298 t299 t300)))) else (thalweglaw02_HeightDoes.j0 k a4 t293 t301 t303 t306 t307 t310 false t287 t288 t289 t290 t291 t292 t295 t296 t297 t298 t299 t300)))) else (thalweglaw02_HeightDoes.j0 k a4 t293 t301 t303 t306 t307 t310 false t287 t288 t289 t290 t291 t292 t295 t296 t297 t298 t299 t300)))) = some r := H
  have A9 := Aside0.mk A90
  clear A90
  have HC10 := Aside0.mk H
  clear H
  go_enter Try.func3, Try.ntmps3
  go_upto_region 5 with (first | ((with_reducible refine gate_dst (N := 5) rfl ?_); refine box_event ?hg (N := 5) ?hd (cs := #[.bool a0_0, .int .i64 a0_1, .int .i64 a0_2, .int .i64 a0_3, .int .i64 a0_4, .int .i64 a0_5]) (t := 23) ?hr ?_; (case hd => rfl); (case hg => rfl); (case hr => first | (go_simp; done) | (go_simp; rfl)); intro gb284 hg w11 hbox hb; have n0_ := Aside0.mk (YD (by repeat (first | (with_reducible first | exact HB.out | apply YA | apply YB | apply YC) | exact HB.out)) hb); have n1_ := Aside0.mk (hbox); have n2_ := Aside0.mk ((by rw [hg]; exact (YE (by repeat (first | (with_reducible first | exact HB.out | apply YA | apply YB | apply YC) | exact HB.out))) : w.heap.size ≤ gb284)); have n3_ := Aside0.mk ((by rw [hg]; exact (YE (by repeat (first | (with_reducible first | exact HB.out | apply YA | apply YB | apply YC) | exact HB.out))) : w.heap.size ≤ gb284)); clear HB; have HB := n0_; have BK284 := n1_; have GW284 := n2_; have GE284 := n3_; clear n0_ n1_ n2_ n3_; clear hb hbox hg) | ((with_reducible refine gate_dst (N := 6) rfl ?_); refine box_event ?hg (N := 6) ?hd (cs := #[.bool a1_0, .int .i64 a1_1, .int .i64 a1_2, .int .i64 a1_3, .int .i64 a1_4, .int .i64 a1_5]) (t := 23) ?hr ?_; (case hd => rfl); (case hg => rfl); (case hr => first | (go_simp; done) | (go_simp; rfl)); intro gb285 hg w12 hbox hb; have n0_ := Aside0.mk (YK (g := gb284) (o := .cells #[.bool a0_0, .int .i64 a0_1, .int .i64 a0_2, .int .i64 a0_3, .int .i64 a0_4, .int .i64 a0_5] 23 (0, 0)) (by (with_reducible repeat (first | refine YF ?_ _ | refine YG ?_ | refine YH ?_ _)); exact BK284.out) hb); have n1_ := Aside0.mk (YD (by repeat (first | (with_reducible first | exact HB.out | apply YA | apply YB | apply YC | refine below_set ?_ GE284.out) | exact HB.out)) hb); have n2_ := Aside0.mk (hbox); have n3_ := Aside0.mk ((by rw [hg]; exact (YE (by repeat (first | (with_reducible first | exact HB.out | apply YA | apply YB | apply YC | refine below_set ?_ GE284.out) | exact HB.out))) : w.heap.size ≤ gb285)); have n4_ := Aside0.mk ((by rw [hg]; exact (YE (by repeat (first | (with_reducible first | exact HB.out | apply YA | apply YB | apply YC | refine below_set ?_ GE284.out) | exact HB.out))) : w.heap.size ≤ gb285)); have n5_ := Aside0.mk ((by rw [hg]; exact Nat.ne_of_lt (blk_lt (g := gb284) (o := .cells #[.bool a0_0, .int .i64 a0_1, .int .i64 a0_2, .int .i64 a0_3, .int .i64 a0_4, .int .i64 a0_5] 23 (0, 0)) (by (with_reducible repeat (first | refine YF ?_ _ | refine YG ?_ | refine YH ?_ _)); exact BK284.out)) : gb284 ≠ gb285)); have n6_ := Aside0.mk ((by rw [hg]; exact Nat.ne_of_gt (blk_lt (g := gb284) (o := .cells #[.bool a0_0, .int .i64 a0_1, .int .i64 a0_2, .int .i64 a0_3, .int .i64 a0_4, .int .i64 a0_5] 23 (0, 0)) (by (with_reducible repeat (first | refine YF ?_ _ | refine YG ?_ | refine YH ?_ _)); exact BK284.out)) : gb285 ≠ gb284)); clear BK284; clear HB; have BK284 := n0_; have HB := n1_; have BK285 := n2_; have GW285 := n3_; have GE285 := n4_; have NB284_285 := n5_; have NB285_284 := n6_; clear n0_ n1_ n2_ n3_ n4_ n5_ n6_; clear hb hbox hg) | ((with_reducible refine gate_dst (N := 7) rfl ?_); refine box_event ?hg (N := 7) ?hd (cs := #[.int .i64 a2_0, .int .i64 a2_1, .int .i64 a2_2]) (t := 25) ?hr ?_; (case hd => rfl); (case hg => rfl); (case hr => first | (go_simp; done) | (go_simp; rfl)); intro gb286 hg w13 hbox hb; have n0_ := Aside0.mk (YK (g := gb284) (o := .cells #[.bool a0_0, .int .i64 a0_1, .int .i64 a0_2, .int .i64 a0_3, .int .i64 a0_4, .int .i64 a0_5] 23 (0, 0)) (by (with_reducible repeat (first | refine YF ?_ _ | refine YG ?_ | refine YH ?_ _)); exact BK284.out) hb); have n1_ := Aside0.mk (YK (g := gb285) (o := .cells #[.bool a1_0, .int .i64 a1_1, .int .i64 a1_2, .int .i64 a1_3, .int .i64 a1_4, .int .i64 a1_5] 23 (0, 0)) (by (with_reducible repeat (first | refine YF ?_ _ | refine YG ?_ | refine YH ?_ _)); exact BK285.out) hb); have n2_ := Aside0.mk (YD (by repeat (first | (with_reducible first | exact HB.out | apply YA | apply YB | apply YC | refine below_set ?_ GE284.out | refine below_set ?_ GE285.out) | exact HB.out)) hb); have n3_ := Aside0.mk (hbox); have n4_ := Aside0.mk ((by rw [hg]; exact (YE (by repeat (first | (with_reducible first | exact HB.out | apply YA | apply YB | apply YC | refine below_set ?_ GE284.out | refine below_set ?_ GE285.out) | exact HB.out))) : w.heap.size ≤ gb286)); have n5_ := Aside0.mk ((by rw [hg]; exact (YE (by repeat (first | (with_reducible first | exact HB.out | apply YA | apply YB | apply YC | refine below_set ?_ GE284.out | refine below_set ?_ GE285.out) | exact HB.out))) : w.heap.size ≤ gb286)); have n6_ := Aside0.mk ((by rw [hg]; exact Nat.ne_of_lt (blk_lt (g := gb284) (o := .cells #[.bool a0_0, .int .i64 a0_1, .int .i64 a0_2, .int .i64 a0_3, .int .i64 a0_4, .int .i64 a0_5] 23 (0, 0)) (by (with_reducible repeat (first | refine YF ?_ _ | refine YG ?_ | refine YH ?_ _)); exact BK284.out)) : gb284 ≠ gb286)); have n7_ := Aside0.mk ((by rw [hg]; exact Nat.ne_of_gt (blk_lt (g := gb284) (o := .cells #[.bool a0_0, .int .i64 a0_1, .int .i64 a0_2, .int .i64 a0_3, .int .i64 a0_4, .int .i64 a0_5] 23 (0, 0)) (by (with_reducible repeat (first | refine YF ?_ _ | refine YG ?_ | refine YH ?_ _)); exact BK284.out)) : gb286 ≠ gb284)); have n8_ := Aside0.mk ((by rw [hg]; exact Nat.ne_of_lt (blk_lt (g := gb285) (o := .cells #[.bool a1_0, .int .i64 a1_1, .int .i64 a1_2, .int .i64 a1_3, .int .i64 a1_4, .int .i64 a1_5] 23 (0, 0)) (by (with_reducible repeat (first | refine YF ?_ _ | refine YG ?_ | refine YH ?_ _)); exact BK285.out)) : gb285 ≠ gb286)); have n9_ := Aside0.mk ((by rw [hg]; exact Nat.ne_of_gt (blk_lt (g := gb285) (o := .cells #[.bool a1_0, .int .i64 a1_1, .int .i64 a1_2, .int .i64 a1_3, .int .i64 a1_4, .int .i64 a1_5] 23 (0, 0)) (by (with_reducible repeat (first | refine YF ?_ _ | refine YG ?_ | refine YH ?_ _)); exact BK285.out)) : gb286 ≠ gb285)); clear BK284; clear BK285; clear HB; have BK284 := n0_; have BK285 := n1_; have HB := n2_; have BK286 := n3_; have GW286 := n4_; have GE286 := n5_; have NB284_286 := n6_; have NB286_284 := n7_; have NB285_286 := n8_; have NB286_285 := n9_; clear n0_ n1_ n2_ n3_ n4_ n5_ n6_ n7_ n8_ n9_; clear hb hbox hg; have hnb14 := NB286_284.out; have hnc14 := NB284_286.out; have hnb15 := NB286_285.out; have hnc15 := NB285_286.out; have hcz16_0 : w13.cell? ⟨gb286, 0, none⟩ = some (.int .i64 a2_0) := (YI BK286.out 0).trans rfl; have hcz16_1 : w13.cell? ⟨gb286, 1, none⟩ = some (.int .i64 a2_1) := (YI BK286.out 1).trans rfl; have hcz16_2 : w13.cell? ⟨gb286, 2, none⟩ = some (.int .i64 a2_2) := (YI BK286.out 2).trans rfl; have hfz16_0 := YJ BK286.out 0; have hfz16_1 := YJ BK286.out 1; have hfz16_2 := YJ BK286.out 2) | ((with_reducible refine gate_callee (f := 8) rfl ?_); refine goesL_ (some 24) rfl rfl Try.func8 (by kernel_rfl) rfl #[.agg #[.int .i64 a2_0, .int .i64 a2_1, .int .i64 a2_2], .int .i64 a3, .int .i64 a4] rfl (by (try simp only [YO, List.map_cons, List.map_nil]); first | done | rfl | (simp only [YQ, YP]; rfl)) ?_; (with_reducible refine (height_At.calls k a2_0 a2_1 a2_2 a3 a4 t287 t288 t289 t290 t291 t292 t293 _ A6.out).mono ?_); rintro e w17 ⟨rfl, hb⟩; refine ⟨_, rfl, ?_⟩; have n0_ := Aside0.mk (YK (g := gb284) (o := .cells #[.bool a0_0, .int .i64 a0_1, .int .i64 a0_2, .int .i64 a0_3, .int .i64 a0_4, .int .i64 a0_5] 23 (0, 0)) (by (with_reducible repeat (first | refine YF ?_ _ | refine YG ?_ | refine YH ?_ _)); exact BK284.out) hb); have n1_ := Aside0.mk (YK (g := gb285) (o := .cells #[.bool a1_0, .int .i64 a1_1, .int .i64 a1_2, .int .i64 a1_3, .int .i64 a1_4, .int .i64 a1_5] 23 (0, 0)) (by (with_reducible repeat (first | refine YF ?_ _ | refine YG ?_ | refine YH ?_ _)); exact BK285.out) hb); have n2_ := Aside0.mk (YK (g := gb286) (o := .cells #[.int .i64 a2_0, .int .i64 a2_1, .int .i64 a2_2] 25 (0, 0)) (by (with_reducible repeat (first | refine YF ?_ _ | refine YG ?_ | refine YH ?_ _)); exact BK286.out) hb); have n3_ := Aside0.mk (YD (by repeat (first | (with_reducible first | exact HB.out | apply YA | apply YB | apply YC | refine below_set ?_ GE284.out | refine below_set ?_ GE285.out | refine below_set ?_ GE286.out) | exact HB.out)) hb); clear BK284; clear BK285; clear BK286; clear HB; have BK284 := n0_; have BK285 := n1_; have BK286 := n2_; have HB := n3_; clear n0_ n1_ n2_ n3_; (try clear hb); (try clear hb2); (try clear hk); (try clear hi)) | ((with_reducible refine gate_dst (N := 11) rfl ?_); refine box_event ?hg (N := 11) ?hd (cs := #[.bool false, .int .i64 0, .int .i64 0, .int .i64 0, .int .i64 0, .int .i64 0]) (t := 23) ?hr ?_; (case hd => rfl); (case hg => rfl); (case hr => first | (go_simp; done) | (go_simp; rfl)); intro gb294 hg w18 hbox hb; have n0_ := Aside0.mk (YK (g := gb284) (o := .cells #[.bool a0_0, .int .i64 a0_1, .int .i64 a0_2, .int .i64 a0_3, .int .i64 a0_4, .int .i64 a0_5] 23 (0, 0)) (by (with_reducible repeat (first | refine YF ?_ _ | refine YG ?_ | refine YH ?_ _)); exact BK284.out) hb); have n1_ := Aside0.mk (YK (g := gb285) (o := .cells #[.bool a1_0, .int .i64 a1_1, .int .i64 a1_2, .int .i64 a1_3, .int .i64 a1_4, .int .i64 a1_5] 23 (0, 0)) (by (with_reducible repeat (first | refine YF ?_ _ | refine YG ?_ | refine YH ?_ _)); exact BK285.out) hb); have n2_ := Aside0.mk (YK (g := gb286) (o := .cells #[.int .i64 a2_0, .int .i64 a2_1, .int .i64 a2_2] 25 (0, 0)) (by (with_reducible repeat (first | refine YF ?_ _ | refine YG ?_ | refine YH ?_ _)); exact BK286.out) hb); have n3_ := Aside0.mk (YD (by repeat (first | (with_reducible first | exact HB.out | apply YA | apply YB | apply YC | refine below_set ?_ GE284.out | refine below_set ?_ GE285.out | refine below_set ?_ GE286.out) | exact HB.out)) hb); have n4_ := Aside0.mk (hbox); have n5_ := Aside0.mk ((by rw [hg]; exact (YE (by repeat (first | (with_reducible first | exact HB.out | apply YA | apply YB | apply YC | refine below_set ?_ GE284.out | refine below_set ?_ GE285.out | refine below_set ?_ GE286.out) | exact HB.out))) : w.heap.size ≤ gb294)); have n6_ := Aside0.mk ((by rw [hg]; exact (YE (by repeat (first | (with_reducible first | exact HB.out | apply YA | apply YB | apply YC | refine below_set ?_ GE284.out | refine below_set ?_ GE285.out | refine below_set ?_ GE286.out) | exact HB.out))) : w.heap.size ≤ gb294)); have n7_ := Aside0.mk ((by rw [hg]; exact Nat.ne_of_lt (blk_lt (g := gb284) (o := .cells #[.bool a0_0, .int .i64 a0_1, .int .i64 a0_2, .int .i64 a0_3, .int .i64 a0_4, .int .i64 a0_5] 23 (0, 0)) (by (with_reducible repeat (first | refine YF ?_ _ | refine YG ?_ | refine YH ?_ _)); exact BK284.out)) : gb284 ≠ gb294)); have n8_ := Aside0.mk ((by rw [hg]; exact Nat.ne_of_gt (blk_lt (g := gb284) (o := .cells #[.bool a0_0, .int .i64 a0_1, .int .i64 a0_2, .int .i64 a0_3, .int .i64 a0_4, .int .i64 a0_5] 23 (0, 0)) (by (with_reducible repeat (first | refine YF ?_ _ | refine YG ?_ | refine YH ?_ _)); exact BK284.out)) : gb294 ≠ gb284)); have n9_ := Aside0.mk ((by rw [hg]; exact Nat.ne_of_lt (blk_lt (g := gb285) (o := .cells #[.bool a1_0, .int .i64 a1_1, .int .i64 a1_2, .int .i64 a1_3, .int .i64 a1_4, .int .i64 a1_5] 23 (0, 0)) (by (with_reducible repeat (first | refine YF ?_ _ | refine YG ?_ | refine YH ?_ _)); exact BK285.out)) : gb285 ≠ gb294)); have n10_ := Aside0.mk ((by rw [hg]; exact Nat.ne_of_gt (blk_lt (g := gb285) (o := .cells #[.bool a1_0, .int .i64 a1_1, .int .i64 a1_2, .int .i64 a1_3, .int .i64 a1_4, .int .i64 a1_5] 23 (0, 0)) (by (with_reducible repeat (first | refine YF ?_ _ | refine YG ?_ | refine YH ?_ _)); exact BK285.out)) : gb294 ≠ gb285)); have n11_ := Aside0.mk ((by rw [hg]; exact Nat.ne_of_lt (blk_lt (g := gb286) (o := .cells #[.int .i64 a2_0, .int .i64 a2_1, .int .i64 a2_2] 25 (0, 0)) (by (with_reducible repeat (first | refine YF ?_ _ | refine YG ?_ | refine YH ?_ _)); exact BK286.out)) : gb286 ≠ gb294)); have n12_ := Aside0.mk ((by rw [hg]; exact Nat.ne_of_gt (blk_lt (g := gb286) (o := .cells #[.int .i64 a2_0, .int .i64 a2_1, .int .i64 a2_2] 25 (0, 0)) (by (with_reducible repeat (first | refine YF ?_ _ | refine YG ?_ | refine YH ?_ _)); exact BK286.out)) : gb294 ≠ gb286)); clear BK284; clear BK285; clear BK286; clear HB; have BK284 := n0_; have BK285 := n1_; have BK286 := n2_; have HB := n3_; have BK294 := n4_; have GW294 := n5_; have GE294 := n6_; have NB284_294 := n7_; have NB294_284 := n8_; have NB285_294 := n9_; have NB294_285 := n10_; have NB286_294 := n11_; have NB294_286 := n12_; clear n0_ n1_ n2_ n3_ n4_ n5_ n6_ n7_ n8_ n9_ n10_ n11_ n12_; clear hb hbox hg; have hnb19 := NB294_284.out; have hnc19 := NB284_294.out; have hnb20 := NB294_285.out; have hnc20 := NB285_294.out; have hnb21 := NB294_286.out; have hnc21 := NB286_294.out; have hcz22_0 : w18.cell? ⟨gb294, 0, none⟩ = some (.bool false) := (YI BK294.out 0).trans rfl; have hcz22_1 : w18.cell? ⟨gb294, 1, none⟩ = some (.int .i64 0) := (YI BK294.out 1).trans rfl; have hcz22_2 : w18.cell? ⟨gb294, 2, none⟩ = some (.int .i64 0) := (YI BK294.out 2).trans rfl; have hcz22_3 : w18.cell? ⟨gb294, 3, none⟩ = some (.int .i64 0) := (YI BK294.out 3).trans rfl; have hcz22_4 : w18.cell? ⟨gb294, 4, none⟩ = some (.int .i64 0) := (YI BK294.out 4).trans rfl; have hcz22_5 : w18.cell? ⟨gb294, 5, none⟩ = some (.int .i64 0) := (YI BK294.out 5).trans rfl; have hfz22_0 := YJ BK294.out 0; have hfz22_1 := YJ BK294.out 1; have hfz22_2 := YJ BK294.out 2; have hfz22_3 := YJ BK294.out 3; have hfz22_4 := YJ BK294.out 4; have hfz22_5 := YJ BK294.out 5; have hcz23_0 : w18.cell? ⟨gb286, 0, none⟩ = some (.int .i64 a2_0) := (YI BK286.out 0).trans rfl; have hcz23_1 : w18.cell? ⟨gb286, 1, none⟩ = some (.int .i64 a2_1) := (YI BK286.out 1).trans rfl; have hcz23_2 : w18.cell? ⟨gb286, 2, none⟩ = some (.int .i64 a2_2) := (YI BK286.out 2).trans rfl; have hfz23_0 := YJ BK286.out 0; have hfz23_1 := YJ BK286.out 1; have hfz23_2 := YJ BK286.out 2) | ((with_reducible refine gate_callee (f := 9) rfl ?_); refine goesL_ (some 31) rfl rfl Try.func9 (by kernel_rfl) rfl #[.agg #[.int .i64 a2_0, .int .i64 a2_1, .int .i64 a2_2], .int .i64 a3, .int .i64 a4] rfl (by (try simp only [YO, List.map_cons, List.map_nil]); first | done | rfl | (simp only [YQ, YP]; rfl)) ?_; (with_reducible refine (thalwegref02_At.calls k a2_0 a2_1 a2_2 a3 a4 t295 t296 t297 t298 t299 t300 t301 _ A7.out).mono ?_); rintro e w24 ⟨rfl, hb⟩; refine ⟨_, rfl, ?_⟩; have n0_ := Aside0.mk (YK (g := gb284) (o := .cells #[.bool a0_0, .int .i64 a0_1, .int .i64 a0_2, .int .i64 a0_3, .int .i64 a0_4, .int .i64 a0_5] 23 (0, 0)) (by (with_reducible repeat (first | refine YF ?_ _ | refine YG ?_ | refine YH ?_ _)); refine blk_far ?_ NB284_294.out _; (with_reducible repeat (first | refine YF ?_ _ | refine YG ?_ | refine YH ?_ _)); refine blk_far ?_ NB284_294.out _; (with_reducible repeat (first | refine YF ?_ _ | refine YG ?_ | refine YH ?_ _)); refine blk_far ?_ NB284_294.out _; (with_reducible repeat (first | refine YF ?_ _ | refine YG ?_ | refine YH ?_ _)); refine blk_far ?_ NB284_294.out _; (with_reducible repeat (first | refine YF ?_ _ | refine YG ?_ | refine YH ?_ _)); refine blk_far ?_ NB284_294.out _; (with_reducible repeat (first | refine YF ?_ _ | refine YG ?_ | refine YH ?_ _)); refine blk_far ?_ NB284_294.out _; (with_reducible repeat (first | refine YF ?_ _ | refine YG ?_ | refine YH ?_ _)); exact BK284.out) hb); have n1_ := Aside0.mk (YK (g := gb285) (o := .cells #[.bool a1_0, .int .i64 a1_1, .int .i64 a1_2, .int .i64 a1_3, .int .i64 a1_4, .int .i64 a1_5] 23 (0, 0)) (by (with_reducible repeat (first | refine YF ?_ _ | refine YG ?_ | refine YH ?_ _)); refine blk_far ?_ NB285_294.out _; (with_reducible repeat (first | refine YF ?_ _ | refine YG ?_ | refine YH ?_ _)); refine blk_far ?_ NB285_294.out _; (with_reducible repeat (first | refine YF ?_ _ | refine YG ?_ | refine YH ?_ _)); refine blk_far ?_ NB285_294.out _; (with_reducible repeat (first | refine YF ?_ _ | refine YG ?_ | refine YH ?_ _)); refine blk_far ?_ NB285_294.out _; (with_reducible repeat (first | refine YF ?_ _ | refine YG ?_ | refine YH ?_ _)); refine blk_far ?_ NB285_294.out _; (with_reducible repeat (first | refine YF ?_ _ | refine YG ?_ | refine YH ?_ _)); refine blk_far ?_ NB285_294.out _; (with_reducible repeat (first | refine YF ?_ _ | refine YG ?_ | refine YH ?_ _)); exact BK285.out) hb); have n2_ := Aside0.mk (YK (g := gb286) (o := .cells #[.int .i64 a2_0, .int .i64 a2_1, .int .i64 a2_2] 25 (0, 0)) (by (with_reducible repeat (first | refine YF ?_ _ | refine YG ?_ | refine YH ?_ _)); refine blk_far ?_ NB286_294.out _; (with_reducible repeat (first | refine YF ?_ _ | refine YG ?_ | refine YH ?_ _)); refine blk_far ?_ NB286_294.out _; (with_reducible repeat (first | refine YF ?_ _ | refine YG ?_ | refine YH ?_ _)); refine blk_far ?_ NB286_294.out _; (with_reducible repeat (first | refine YF ?_ _ | refine YG ?_ | refine YH ?_ _)); refine blk_far ?_ NB286_294.out _; (with_reducible repeat (first | refine YF ?_ _ | refine YG ?_ | refine YH ?_ _)); refine blk_far ?_ NB286_294.out _; (with_reducible repeat (first | refine YF ?_ _ | refine YG ?_ | refine YH ?_ _)); refine blk_far ?_ NB286_294.out _; (with_reducible repeat (first | refine YF ?_ _ | refine YG ?_ | refine YH ?_ _)); exact BK286.out) hb); have n3_ := Aside0.mk (YK (g := gb294) (o := .cells #[.bool t287, .int .i64 t288, .int .i64 t289, .int .i64 t290, .int .i64 t291, .int .i64 t292] 23 (0, 0)) (by (with_reducible repeat (first | refine YF ?_ _ | refine YG ?_ | refine YH ?_ _)); refine blk_put (cs := #[.bool t287, .int .i64 t288, .int .i64 t289, .int .i64 t290, .int .i64 t291, .int .i64 0]) ?_ 5 _ rfl; (with_reducible repeat (first | refine YF ?_ _ | refine YG ?_ | refine YH ?_ _)); refine blk_put (cs := #[.bool t287, .int .i64 t288, .int .i64 t289, .int .i64 t290, .int .i64 0, .int .i64 0]) ?_ 4 _ rfl; (with_reducible repeat (first | refine YF ?_ _ | refine YG ?_ | refine YH ?_ _)); refine blk_put (cs := #[.bool t287, .int .i64 t288, .int .i64 t289, .int .i64 0, .int .i64 0, .int .i64 0]) ?_ 3 _ rfl; (with_reducible repeat (first | refine YF ?_ _ | refine YG ?_ | refine YH ?_ _)); refine blk_put (cs := #[.bool t287, .int .i64 t288, .int .i64 0, .int .i64 0, .int .i64 0, .int .i64 0]) ?_ 2 _ rfl; (with_reducible repeat (first | refine YF ?_ _ | refine YG ?_ | refine YH ?_ _)); refine blk_put (cs := #[.bool t287, .int .i64 0, .int .i64 0, .int .i64 0, .int .i64 0, .int .i64 0]) ?_ 1 _ rfl; (with_reducible repeat (first | refine YF ?_ _ | refine YG ?_ | refine YH ?_ _)); refine blk_put (cs := #[.bool false, .int .i64 0, .int .i64 0, .int .i64 0, .int .i64 0, .int .i64 0]) ?_ 0 _ rfl; (with_reducible repeat (first | refine YF ?_ _ | refine YG ?_ | refine YH ?_ _)); exact BK294.out) hb); have n4_ := Aside0.mk (YD (by repeat (first | (with_reducible first | exact HB.out | apply YA | apply YB | apply YC | refine below_set ?_ GE284.out | refine below_set ?_ GE285.out | refine below_set ?_ GE286.out | refine below_set ?_ GE294.out) | exact HB.out)) hb); clear BK284; clear BK285; clear BK286; clear BK294; clear HB; have BK284 := n0_; have BK285 := n1_; have BK286 := n2_; have BK294 := n3_; have HB := n4_; clear n0_ n1_ n2_ n3_ n4_; (try clear hb); (try clear hb2); (try clear hk); (try clear hi)) | ((with_reducible refine gate_dst (N := 13) rfl ?_); refine box_event ?hg (N := 13) ?hd (cs := #[.bool false, .int .i64 0, .int .i64 0, .int .i64 0, .int .i64 0, .int .i64 0]) (t := 23) ?hr ?_; (case hd => rfl); (case hg => rfl); (case hr => first | (go_simp; done) | (go_simp; rfl)); intro gb302 hg w25 hbox hb; have n0_ := Aside0.mk (YK (g := gb284) (o := .cells #[.bool a0_0, .int .i64 a0_1, .int .i64 a0_2, .int .i64 a0_3, .int .i64 a0_4, .int .i64 a0_5] 23 (0, 0)) (by (with_reducible repeat (first | refine YF ?_ _ | refine YG ?_ | refine YH ?_ _)); exact BK284.out) hb); have n1_ := Aside0.mk (YK (g := gb285) (o := .cells #[.bool a1_0, .int .i64 a1_1, .int .i64 a1_2, .int .i64 a1_3, .int .i64 a1_4, .int .i64 a1_5] 23 (0, 0)) (by (with_reducible repeat (first | refine YF ?_ _ | refine YG ?_ | refine YH ?_ _)); exact BK285.out) hb); have n2_ := Aside0.mk (YK (g := gb286) (o := .cells #[.int .i64 a2_0, .int .i64 a2_1, .int .i64 a2_2] 25 (0, 0)) (by (with_reducible repeat (first | refine YF ?_ _ | refine YG ?_ | refine YH ?_ _)); exact BK286.out) hb); have n3_ := Aside0.mk (YK (g := gb294) (o := .cells #[.bool t287, .int .i64 t288, .int .i64 t289, .int .i64 t290, .int .i64 t291, .int .i64 t292] 23 (0, 0)) (by (with_reducible repeat (first | refine YF ?_ _ | refine YG ?_ | refine YH ?_ _)); exact BK294.out) hb); have n4_ := Aside0.mk (YD (by repeat (first | (with_reducible first | exact HB.out | apply YA | apply YB | apply YC | refine below_set ?_ GE284.out | refine below_set ?_ GE285.out | refine below_set ?_ GE286.out | refine below_set ?_ GE294.out) | exact HB.out)) hb); have n5_ := Aside0.mk (hbox); have n6_ := Aside0.mk ((by rw [hg]; exact (YE (by repeat (first | (with_reducible first | exact HB.out | apply YA | apply YB | apply YC | refine below_set ?_ GE284.out | refine below_set ?_ GE285.out | refine below_set ?_ GE286.out | refine below_set ?_ GE294.out) | exact HB.out))) : w.heap.size ≤ gb302)); have n7_ := Aside0.mk ((by rw [hg]; exact (YE (by repeat (first | (with_reducible first | exact HB.out | apply YA | apply YB | apply YC | refine below_set ?_ GE284.out | refine below_set ?_ GE285.out | refine below_set ?_ GE286.out | refine below_set ?_ GE294.out) | exact HB.out))) : w.heap.size ≤ gb302)); have n8_ := Aside0.mk ((by rw [hg]; exact Nat.ne_of_lt (blk_lt (g := gb284) (o := .cells #[.bool a0_0, .int .i64 a0_1, .int .i64 a0_2, .int .i64 a0_3, .int .i64 a0_4, .int .i64 a0_5] 23 (0, 0)) (by (with_reducible repeat (first | refine YF ?_ _ | refine YG ?_ | refine YH ?_ _)); exact BK284.out)) : gb284 ≠ gb302)); have n9_ := Aside0.mk ((by rw [hg]; exact Nat.ne_of_gt (blk_lt (g := gb284) (o := .cells #[.bool a0_0, .int .i64 a0_1, .int .i64 a0_2, .int .i64 a0_3, .int .i64 a0_4, .int .i64 a0_5] 23 (0, 0)) (by (with_reducible repeat (first | refine YF ?_ _ | refine YG ?_ | refine YH ?_ _)); exact BK284.out)) : gb302 ≠ gb284)); have n10_ := Aside0.mk ((by rw [hg]; exact Nat.ne_of_lt (blk_lt (g := gb285) (o := .cells #[.bool a1_0, .int .i64 a1_1, .int .i64 a1_2, .int .i64 a1_3, .int .i64 a1_4, .int .i64 a1_5] 23 (0, 0)) (by (with_reducible repeat (first | refine YF ?_ _ | refine YG ?_ | refine YH ?_ _)); exact BK285.out)) : gb285 ≠ gb302)); have n11_ := Aside0.mk ((by rw [hg]; exact Nat.ne_of_gt (blk_lt (g := gb285) (o := .cells #[.bool a1_0, .int .i64 a1_1, .int .i64 a1_2, .int .i64 a1_3, .int .i64 a1_4, .int .i64 a1_5] 23 (0, 0)) (by (with_reducible repeat (first | refine YF ?_ _ | refine YG ?_ | refine YH ?_ _)); exact BK285.out)) : gb302 ≠ gb285)); have n12_ := Aside0.mk ((by rw [hg]; exact Nat.ne_of_lt (blk_lt (g := gb286) (o := .cells #[.int .i64 a2_0, .int .i64 a2_1, .int .i64 a2_2] 25 (0, 0)) (by (with_reducible repeat (first | refine YF ?_ _ | refine YG ?_ | refine YH ?_ _)); exact BK286.out)) : gb286 ≠ gb302)); have n13_ := Aside0.mk ((by rw [hg]; exact Nat.ne_of_gt (blk_lt (g := gb286) (o := .cells #[.int .i64 a2_0, .int .i64 a2_1, .int .i64 a2_2] 25 (0, 0)) (by (with_reducible repeat (first | refine YF ?_ _ | refine YG ?_ | refine YH ?_ _)); exact BK286.out)) : gb302 ≠ gb286)); have n14_ := Aside0.mk ((by rw [hg]; exact Nat.ne_of_lt (blk_lt (g := gb294) (o := .cells #[.bool t287, .int .i64 t288, .int .i64 t289, .int .i64 t290, .int .i64 t291, .int .i64 t292] 23 (0, 0)) (by (with_reducible repeat (first | refine YF ?_ _ | refine YG ?_ | refine YH ?_ _)); exact BK294.out)) : gb294 ≠ gb302)); have n15_ := Aside0.mk ((by rw [hg]; exact Nat.ne_of_gt (blk_lt (g := gb294) (o := .cells #[.bool t287, .int .i64 t288, .int .i64 t289, .int .i64 t290, .int .i64 t291, .int .i64 t292] 23 (0, 0)) (by (with_reducible repeat (first | refine YF ?_ _ | refine YG ?_ | refine YH ?_ _)); exact BK294.out)) : gb302 ≠ gb294)); clear BK284; clear BK285; clear BK286; clear BK294; clear HB; have BK284 := n0_; have BK285 := n1_; have BK286 := n2_; have BK294 := n3_; have HB := n4_; have BK302 := n5_; have GW302 := n6_; have GE302 := n7_; have NB284_302 := n8_; have NB302_284 := n9_; have NB285_302 := n10_; have NB302_285 := n11_; have NB286_302 := n12_; have NB302_286 := n13_; have NB294_302 := n14_; have NB302_294 := n15_; clear n0_ n1_ n2_ n3_ n4_ n5_ n6_ n7_ n8_ n9_ n10_ n11_ n12_ n13_ n14_ n15_; clear hb hbox hg; have hnb26 := NB302_284.out; have hnc26 := NB284_302.out; have hnb27 := NB302_285.out; have hnc27 := NB285_302.out; have hnb28 := NB302_286.out; have hnc28 := NB286_302.out; have hnb29 := NB302_294.out; have hnc29 := NB294_302.out; have hcz30_0 : w25.cell? ⟨gb302, 0, none⟩ = some (.bool false) := (YI BK302.out 0).trans rfl; have hcz30_1 : w25.cell? ⟨gb302, 1, none⟩ = some (.int .i64 0) := (YI BK302.out 1).trans rfl; have hcz30_2 : w25.cell? ⟨gb302, 2, none⟩ = some (.int .i64 0) := (YI BK302.out 2).trans rfl; have hcz30_3 : w25.cell? ⟨gb302, 3, none⟩ = some (.int .i64 0) := (YI BK302.out 3).trans rfl; have hcz30_4 : w25.cell? ⟨gb302, 4, none⟩ = some (.int .i64 0) := (YI BK302.out 4).trans rfl; have hcz30_5 : w25.cell? ⟨gb302, 5, none⟩ = some (.int .i64 0) := (YI BK302.out 5).trans rfl; have hfz30_0 := YJ BK302.out 0; have hfz30_1 := YJ BK302.out 1; have hfz30_2 := YJ BK302.out 2; have hfz30_3 := YJ BK302.out 3; have hfz30_4 := YJ BK302.out 4; have hfz30_5 := YJ BK302.out 5; have hnb31 := NB284_285.out; have hnc31 := NB285_284.out; have hcz32_0 : w25.cell? ⟨gb284, 0, none⟩ = some (.bool a0_0) := (YI BK284.out 0).trans rfl; have hcz32_1 : w25.cell? ⟨gb284, 1, none⟩ = some (.int .i64 a0_1) := (YI BK284.out 1).trans rfl; have hcz32_2 : w25.cell? ⟨gb284, 2, none⟩ = some (.int .i64 a0_2) := (YI BK284.out 2).trans rfl; have hcz32_3 : w25.cell? ⟨gb284, 3, none⟩ = some (.int .i64 a0_3) := (YI BK284.out 3).trans rfl; have hcz32_4 : w25.cell? ⟨gb284, 4, none⟩ = some (.int .i64 a0_4) := (YI BK284.out 4).trans rfl; have hcz32_5 : w25.cell? ⟨gb284, 5, none⟩ = some (.int .i64 a0_5) := (YI BK284.out 5).trans rfl; have hfz32_0 := YJ BK284.out 0; have hfz32_1 := YJ BK284.out 1; have hfz32_2 := YJ BK284.out 2; have hfz32_3 := YJ BK284.out 3; have hfz32_4 := YJ BK284.out 4; have hfz32_5 := YJ BK284.out 5) | ((with_reducible refine gate_callee (f := 10) rfl ?_); refine goesL_ (some 36) rfl rfl Try.func10 (by kernel_rfl) rfl #[.agg #[.bool a0_0, .int .i64 a0_1, .int .i64 a0_2, .int .i64 a0_3, .int .i64 a0_4, .int .i64 a0_5]] rfl (by (try simp only [YO, List.map_cons, List.map_nil]); first | done | rfl | (simp only [YQ, YP]; rfl)) ?_; (with_reducible refine (height_Bytes.calls k a0_0 a0_1 a0_2 a0_3 a0_4 a0_5 t303 t306 _ A8.out).mono ?_); rintro e w33 ⟨v304, rfl, ho0, hb⟩; refine ⟨_, rfl, ?_⟩; have n0_ := Aside0.mk (Kd.R_lower ho0 (YE (by repeat (first | (with_reducible first | exact HB.out | apply YA | apply YB | apply YC | refine below_set ?_ GE284.out | refine below_set ?_ GE285.out | refine below_set ?_ GE286.out | refine below_set ?_ GE294.out | refine below_set ?_ GE302.out) | exact HB.out)))); have n1_ := Aside0.mk (YK (g := gb284) (o := .cells #[.bool a0_0, .int .i64 a0_1, .int .i64 a0_2, .int .i64 a0_3, .int .i64 a0_4, .int .i64 a0_5] 23 (0, 0)) (by (with_reducible repeat (first | refine YF ?_ _ | refine YG ?_ | refine YH ?_ _)); refine blk_far ?_ NB284_302.out _; (with_reducible repeat (first | refine YF ?_ _ | refine YG ?_ | refine YH ?_ _)); refine blk_far ?_ NB284_302.out _; (with_reducible repeat (first | refine YF ?_ _ | refine YG ?_ | refine YH ?_ _)); refine blk_far ?_ NB284_302.out _; (with_reducible repeat (first | refine YF ?_ _ | refine YG ?_ | refine YH ?_ _)); refine blk_far ?_ NB284_302.out _; (with_reducible repeat (first | refine YF ?_ _ | refine YG ?_ | refine YH ?_ _)); refine blk_far ?_ NB284_302.out _; (with_reducible repeat (first | refine YF ?_ _ | refine YG ?_ | refine YH ?_ _)); refine blk_far ?_ NB284_302.out _; (with_reducible repeat (first | refine YF ?_ _ | refine YG ?_ | refine YH ?_ _)); exact BK284.out) hb); have n2_ := Aside0.mk (YK (g := gb285) (o := .cells #[.bool a1_0, .int .i64 a1_1, .int .i64 a1_2, .int .i64 a1_3, .int .i64 a1_4, .int .i64 a1_5] 23 (0, 0)) (by (with_reducible repeat (first | refine YF ?_ _ | refine YG ?_ | refine YH ?_ _)); refine blk_far ?_ NB285_302.out _; (with_reducible repeat (first | refine YF ?_ _ | refine YG ?_ | refine YH ?_ _)); refine blk_far ?_ NB285_302.out _; (with_reducible repeat (first | refine YF ?_ _ | refine YG ?_ | refine YH ?_ _)); refine blk_far ?_ NB285_302.out _; (with_reducible repeat (first | refine YF ?_ _ | refine YG ?_ | refine YH ?_ _)); refine blk_far ?_ NB285_302.out _; (with_reducible repeat (first | refine YF ?_ _ | refine YG ?_ | refine YH ?_ _)); refine blk_far ?_ NB285_302.out _; (with_reducible repeat (first | refine YF ?_ _ | refine YG ?_ | refine YH ?_ _)); refine blk_far ?_ NB285_302.out _; (with_reducible repeat (first | refine YF ?_ _ | refine YG ?_ | refine YH ?_ _)); exact BK285.out) hb); have n3_ := Aside0.mk (YK (g := gb286) (o := .cells #[.int .i64 a2_0, .int .i64 a2_1, .int .i64 a2_2] 25 (0, 0)) (by (with_reducible repeat (first | refine YF ?_ _ | refine YG ?_ | refine YH ?_ _)); refine blk_far ?_ NB286_302.out _; (with_reducible repeat (first | refine YF ?_ _ | refine YG ?_ | refine YH ?_ _)); refine blk_far ?_ NB286_302.out _; (with_reducible repeat (first | refine YF ?_ _ | refine YG ?_ | refine YH ?_ _)); refine blk_far ?_ NB286_302.out _; (with_reducible repeat (first | refine YF ?_ _ | refine YG ?_ | refine YH ?_ _)); refine blk_far ?_ NB286_302.out _; (with_reducible repeat (first | refine YF ?_ _ | refine YG ?_ | refine YH ?_ _)); refine blk_far ?_ NB286_302.out _; (with_reducible repeat (first | refine YF ?_ _ | refine YG ?_ | refine YH ?_ _)); refine blk_far ?_ NB286_302.out _; (with_reducible repeat (first | refine YF ?_ _ | refine YG ?_ | refine YH ?_ _)); exact BK286.out) hb); have n4_ := Aside0.mk (YK (g := gb294) (o := .cells #[.bool t287, .int .i64 t288, .int .i64 t289, .int .i64 t290, .int .i64 t291, .int .i64 t292] 23 (0, 0)) (by (with_reducible repeat (first | refine YF ?_ _ | refine YG ?_ | refine YH ?_ _)); refine blk_far ?_ NB294_302.out _; (with_reducible repeat (first | refine YF ?_ _ | refine YG ?_ | refine YH ?_ _)); refine blk_far ?_ NB294_302.out _; (with_reducible repeat (first | refine YF ?_ _ | refine YG ?_ | refine YH ?_ _)); refine blk_far ?_ NB294_302.out _; (with_reducible repeat (first | refine YF ?_ _ | refine YG ?_ | refine YH ?_ _)); refine blk_far ?_ NB294_302.out _; (with_reducible repeat (first | refine YF ?_ _ | refine YG ?_ | refine YH ?_ _)); refine blk_far ?_ NB294_302.out _; (with_reducible repeat (first | refine YF ?_ _ | refine YG ?_ | refine YH ?_ _)); refine blk_far ?_ NB294_302.out _; (with_reducible repeat (first | refine YF ?_ _ | refine YG ?_ | refine YH ?_ _)); exact BK294.out) hb); have n5_ := Aside0.mk (YK (g := gb302) (o := .cells #[.bool t295, .int .i64 t296, .int .i64 t297, .int .i64 t298, .int .i64 t299, .int .i64 t300] 23 (0, 0)) (by (with_reducible repeat (first | refine YF ?_ _ | refine YG ?_ | refine YH ?_ _)); refine blk_put (cs := #[.bool t295, .int .i64 t296, .int .i64 t297, .int .i64 t298, .int .i64 t299, .int .i64 0]) ?_ 5 _ rfl; (with_reducible repeat (first | refine YF ?_ _ | refine YG ?_ | refine YH ?_ _)); refine blk_put (cs := #[.bool t295, .int .i64 t296, .int .i64 t297, .int .i64 t298, .int .i64 0, .int .i64 0]) ?_ 4 _ rfl; (with_reducible repeat (first | refine YF ?_ _ | refine YG ?_ | refine YH ?_ _)); refine blk_put (cs := #[.bool t295, .int .i64 t296, .int .i64 t297, .int .i64 0, .int .i64 0, .int .i64 0]) ?_ 3 _ rfl; (with_reducible repeat (first | refine YF ?_ _ | refine YG ?_ | refine YH ?_ _)); refine blk_put (cs := #[.bool t295, .int .i64 t296, .int .i64 0, .int .i64 0, .int .i64 0, .int .i64 0]) ?_ 2 _ rfl; (with_reducible repeat (first | refine YF ?_ _ | refine YG ?_ | refine YH ?_ _)); refine blk_put (cs := #[.bool t295, .int .i64 0, .int .i64 0, .int .i64 0, .int .i64 0, .int .i64 0]) ?_ 1 _ rfl; (with_reducible repeat (first | refine YF ?_ _ | refine YG ?_ | refine YH ?_ _)); refine blk_put (cs := #[.bool false, .int .i64 0, .int .i64 0, .int .i64 0, .int .i64 0, .int .i64 0]) ?_ 0 _ rfl; (with_reducible repeat (first | refine YF ?_ _ | refine YG ?_ | refine YH ?_ _)); exact BK302.out) hb); have n6_ := Aside0.mk (YD (by repeat (first | (with_reducible first | exact HB.out | apply YA | apply YB | apply YC | refine below_set ?_ GE284.out | refine below_set ?_ GE285.out | refine below_set ?_ GE286.out | refine below_set ?_ GE294.out | refine below_set ?_ GE302.out) | exact HB.out)) hb); clear BK284; clear BK285; clear BK286; clear BK294; clear BK302; clear HB; have HO305 := n0_; have BK284 := n1_; have BK285 := n2_; have BK286 := n3_; have BK294 := n4_; have BK302 := n5_; have HB := n6_; clear n0_ n1_ n2_ n3_ n4_ n5_ n6_; (try clear hb); (try clear hb2); (try clear hk); (try clear hi); (try clear ho0); have hcz34_0 : w33.cell? ⟨gb284, 0, none⟩ = some (.bool a0_0) := (YI BK284.out 0).trans rfl; have hcz34_1 : w33.cell? ⟨gb284, 1, none⟩ = some (.int .i64 a0_1) := (YI BK284.out 1).trans rfl; have hcz34_2 : w33.cell? ⟨gb284, 2, none⟩ = some (.int .i64 a0_2) := (YI BK284.out 2).trans rfl; have hcz34_3 : w33.cell? ⟨gb284, 3, none⟩ = some (.int .i64 a0_3) := (YI BK284.out 3).trans rfl; have hcz34_4 : w33.cell? ⟨gb284, 4, none⟩ = some (.int .i64 a0_4) := (YI BK284.out 4).trans rfl; have hcz34_5 : w33.cell? ⟨gb284, 5, none⟩ = some (.int .i64 a0_5) := (YI BK284.out 5).trans rfl; have hfz34_0 := YJ BK284.out 0; have hfz34_1 := YJ BK284.out 1; have hfz34_2 := YJ BK284.out 2; have hfz34_3 := YJ BK284.out 3; have hfz34_4 := YJ BK284.out 4; have hfz34_5 := YJ BK284.out 5) | ((with_reducible refine gate_callee (f := 11) rfl ?_); refine goesL_ (some 41) rfl rfl Try.func11 (by kernel_rfl) rfl #[.agg #[.bool a0_0, .int .i64 a0_1, .int .i64 a0_2, .int .i64 a0_3, .int .i64 a0_4, .int .i64 a0_5]] rfl (by (try simp only [YO, List.map_cons, List.map_nil]); first | done | rfl | (simp only [YQ, YP]; rfl)) ?_; (with_reducible refine (thalwegref02_Bytes.calls k a0_0 a0_1 a0_2 a0_3 a0_4 a0_5 t307 t310 _ A9.out).mono ?_); rintro e w35 ⟨v308, rfl, ho0, hb⟩; refine ⟨_, rfl, ?_⟩; have n0_ := Aside0.mk (Kd.R_elder' (by (with_reducible repeat (first | apply YR | apply YS | apply YT)); exact HO305.out) (Kd.R_base ho0) hb); have n1_ := Aside0.mk (Kd.R_lower (Kd.R_new' ho0 (Kd.R_lt (by (with_reducible repeat (first | apply YR | apply YS | apply YT)); exact HO305.out))) (YE (by repeat (first | (with_reducible first | exact HB.out | apply YA | apply YB | apply YC | refine below_set ?_ GE284.out | refine below_set ?_ GE285.out | refine below_set ?_ GE286.out | refine below_set ?_ GE294.out | refine below_set ?_ GE302.out) | exact HB.out)))); have n2_ := Aside0.mk (YK (g := gb284) (o := .cells #[.bool a0_0, .int .i64 a0_1, .int .i64 a0_2, .int .i64 a0_3, .int .i64 a0_4, .int .i64 a0_5] 23 (0, 0)) (by (with_reducible repeat (first | refine YF ?_ _ | refine YG ?_ | refine YH ?_ _)); exact BK284.out) hb); have n3_ := Aside0.mk (YK (g := gb285) (o := .cells #[.bool a1_0, .int .i64 a1_1, .int .i64 a1_2, .int .i64 a1_3, .int .i64 a1_4, .int .i64 a1_5] 23 (0, 0)) (by (with_reducible repeat (first | refine YF ?_ _ | refine YG ?_ | refine YH ?_ _)); exact BK285.out) hb); have n4_ := Aside0.mk (YK (g := gb286) (o := .cells #[.int .i64 a2_0, .int .i64 a2_1, .int .i64 a2_2] 25 (0, 0)) (by (with_reducible repeat (first | refine YF ?_ _ | refine YG ?_ | refine YH ?_ _)); exact BK286.out) hb); have n5_ := Aside0.mk (YK (g := gb294) (o := .cells #[.bool t287, .int .i64 t288, .int .i64 t289, .int .i64 t290, .int .i64 t291, .int .i64 t292] 23 (0, 0)) (by (with_reducible repeat (first | refine YF ?_ _ | refine YG ?_ | refine YH ?_ _)); exact BK294.out) hb); have n6_ := Aside0.mk (YK (g := gb302) (o := .cells #[.bool t295, .int .i64 t296, .int .i64 t297, .int .i64 t298, .int .i64 t299, .int .i64 t300] 23 (0, 0)) (by (with_reducible repeat (first | refine YF ?_ _ | refine YG ?_ | refine YH ?_ _)); exact BK302.out) hb); have n7_ := Aside0.mk (YD (by repeat (first | (with_reducible first | exact HB.out | apply YA | apply YB | apply YC | refine below_set ?_ GE284.out | refine below_set ?_ GE285.out | refine below_set ?_ GE286.out | refine below_set ?_ GE294.out | refine below_set ?_ GE302.out) | exact HB.out)) hb); clear HO305; clear BK284; clear BK285; clear BK286; clear BK294; clear BK302; clear HB; have HO305 := n0_; have HO309 := n1_; have BK284 := n2_; have BK285 := n3_; have BK286 := n4_; have BK294 := n5_; have BK302 := n6_; have HB := n7_; clear n0_ n1_ n2_ n3_ n4_ n5_ n6_ n7_; (try clear hb); (try clear hb2); (try clear hk); (try clear hi); (try clear ho0)))
  (try simp only [Act.put, YL, YM, YN])
  go_cut [19] (fun v19 wc => ∃ (kq : Nat) (x19_9 : Bool), v19 = .bool x19_9 ∧ Aside0 (thalweglaw02_HeightDoes.j0 kq a4 t293 t301 t303 t306 t307 t310 x19_9 t287 t288 t289 t290 t291 t292 t295 t296 t297 t298 t299 t300 = some r) ∧ Aside0 (kq ≤ k) ∧ Aside0 (Kd.R (Kd.int .u8) 5 wc w.heap.size (fun k_ => some k_ ≠ (v308 : Value).ownBlock) v304 t303) ∧ Aside0 (Kd.R (Kd.int .u8) 5 wc w.heap.size (fun k_ => some k_ ≠ (v304 : Value).ownBlock) v308 t307) ∧ Aside0 (wc.heap[gb284]? = some (.cells #[.bool a0_0, .int .i64 a0_1, .int .i64 a0_2, .int .i64 a0_3, .int .i64 a0_4, .int .i64 a0_5] 23 (0, 0))) ∧ Aside0 (wc.heap[gb285]? = some (.cells #[.bool a1_0, .int .i64 a1_1, .int .i64 a1_2, .int .i64 a1_3, .int .i64 a1_4, .int .i64 a1_5] 23 (0, 0))) ∧ Aside0 (wc.heap[gb286]? = some (.cells #[.int .i64 a2_0, .int .i64 a2_1, .int .i64 a2_2] 25 (0, 0))) ∧ Aside0 (wc.heap[gb294]? = some (.cells #[.bool t287, .int .i64 t288, .int .i64 t289, .int .i64 t290, .int .i64 t291, .int .i64 t292] 23 (0, 0))) ∧ Aside0 (wc.heap[gb302]? = some (.cells #[.bool t295, .int .i64 t296, .int .i64 t297, .int .i64 t298, .int .i64 t299, .int .i64 t300] 23 (0, 0))) ∧ Aside0 (Below w.heap.size w wc))
  case first =>
    have H := HC10.out
    clear HC10
    replace H := Option.bind_eq_some_iff.mp H
    obtain ⟨t311, A360, H⟩ := H
    replace H : ((thalwegref02_Right.f k a0_0 a0_1 a0_2 a0_3 a0_4 a0_5).bind fun t312 => (if ((t311 == 0) == t312) = true then ((height_Less.f k a0_0 a0_1 a0_2 a0_3 a0_4 a0_5 a1_0 a1_1 a1_2 a1_3 a1_4 a1_5).bind fun t313 => ((thalwegref02_Less.f k a0_0 a0_1 a0_2 a0_3 a0_4 a0_5 a1_0 a1_1 a1_2 a1_3 a1_4 a1_5).bind fun t314 => (if (t313 == t314) = true then ((height_Level.f k a0_0 a0_1 a0_2 a0_3 a0_4 a0_5).bind fun bt315 => ((thalwegref02_Level.f k a0_0 a0_1 a0_2 a0_3 a0_4 a0_5).bind fun bt318 => (if (bt315.1 == bt318.1 && (bt315.2.1 == bt318.2.1 && (bt315.2.2 == bt318.2.2))) = true then ((height_Level.f k a1_0 a1_1 a1_2 a1_3 a1_4 a1_5).bind fun bt321 => ((height_Order.f k a2_0 a2_1 a2_2 bt321.1 bt321.2.1 bt321.2.2).bind fun t324 => ((thalwegref02_Level.f k a1_0 a1_1 a1_2 a1_3 a1_4 a1_5).bind fun bt325 => ((thalwegref02_Order.f k a2_0 a2_1 a2_2 bt325.1 bt325.2.1 bt325.2.2).bind fun t328 => (thalweglaw02_HeightDoes.j0 k a4 t293 t301 t303 t306 t307 t310 (t324 == t328) t287 t288 t289 t290 t291 t292 t295 t296 t297 t298 t299 t300))))) else (thalweglaw02_HeightDoes.j0 k a4 t293 t301 t303 t306 t307 t310 false t287 t288 t289 t290 t291 t292 t295 t296 t297 t298 t299 t300)))) else (thalweglaw02_HeightDoes.j0 k a4 t293 t301 t303 t306 t307 t310 false t287 t288 t289 t290 t291 t292 t295 t296 t297 t298 t299 t300)))) else (thalweglaw02_HeightDoes.j0 k a4 t293 t301 t303 t306 t307 t310 false t287 t288 t289 t290 t291 t292 t295 t296 t297 t298 t299 t300))) = some r := H
    have A36 := Aside0.mk A360
    clear A360
    replace H := Option.bind_eq_some_iff.mp H
    obtain ⟨t312, A370, H⟩ := H
    replace H : (if ((t311 == 0) == t312) = true then ((height_Less.f k a0_0 a0_1 a0_2 a0_3 a0_4 a0_5 a1_0 a1_1 a1_2 a1_3 a1_4 a1_5).bind fun t313 => ((thalwegref02_Less.f k a0_0 a0_1 a0_2 a0_3 a0_4 a0_5 a1_0 a1_1 a1_2 a1_3 a1_4 a1_5).bind fun t314 => (if (t313 == t314) = true then ((height_Level.f k a0_0 a0_1 a0_2 a0_3 a0_4 a0_5).bind fun bt315 => ((thalwegref02_Level.f k a0_0 a0_1 a0_2 a0_3 a0_4 a0_5).bind fun bt318 => (if (bt315.1 == bt318.1 && (bt315.2.1 == bt318.2.1 && (bt315.2.2 == bt318.2.2))) = true then ((height_Level.f k a1_0 a1_1 a1_2 a1_3 a1_4 a1_5).bind fun bt321 => ((height_Order.f k a2_0 a2_1 a2_2 bt321.1 bt321.2.1 bt321.2.2).bind fun t324 => ((thalwegref02_Level.f k a1_0 a1_1 a1_2 a1_3 a1_4 a1_5).bind fun bt325 => ((thalwegref02_Order.f k a2_0 a2_1 a2_2 bt325.1 bt325.2.1 bt325.2.2).bind fun t328 => (thalweglaw02_HeightDoes.j0 k a4 t293 t301 t303 t306 t307 t310 (t324 == t328) t287 t288 t289 t290 t291 t292 t295 t296 t297 t298 t299 t300))))) else (thalweglaw02_HeightDoes.j0 k a4 t293 t301 t303 t306 t307 t310 false t287 t288 t289 t290 t291 t292 t295 t296 t297 t298 t299 t300)))) else (thalweglaw02_HeightDoes.j0 k a4 t293 t301 t303 t306 t307 t310 false t287 t288 t289 t290 t291 t292 t295 t296 t297 t298 t299 t300)))) else (thalweglaw02_HeightDoes.j0 k a4 t293 t301 t303 t306 t307 t310 false t287 t288 t289 t290 t291 t292 t295 t296 t297 t298 t299 t300)) = some r := H
    have A37 := Aside0.mk A370
    clear A370
    by_cases c38 : ((t311 == 0) == t312) = true
    · rw [if_pos c38] at H
      have c38b0 : ((t311 == 0) == t312) = true := c38
      (try (have c38b1 : decide ((t311 == 0) = t312) = true := by simpa using c38))
      (try (have c38b2 : ((t311 == 0) == t312) = true := by simpa using c38))
      clear c38
      (first | rw [c38b0] | (simp only [i64_w, i32_w]; rw [c38b0]) | skip)
      replace H := Option.bind_eq_some_iff.mp H
      obtain ⟨t313, A390, H⟩ := H
      replace H : ((thalwegref02_Less.f k a0_0 a0_1 a0_2 a0_3 a0_4 a0_5 a1_0 a1_1 a1_2 a1_3 a1_4 a1_5).bind fun t314 => (if (t313 == t314) = true then ((height_Level.f k a0_0 a0_1 a0_2 a0_3 a0_4 a0_5).bind fun bt315 => ((thalwegref02_Level.f k a0_0 a0_1 a0_2 a0_3 a0_4 a0_5).bind fun bt318 => (if (bt315.1 == bt318.1 && (bt315.2.1 == bt318.2.1 && (bt315.2.2 == bt318.2.2))) = true then ((height_Level.f k a1_0 a1_1 a1_2 a1_3 a1_4 a1_5).bind fun bt321 => ((height_Order.f k a2_0 a2_1 a2_2 bt321.1 bt321.2.1 bt321.2.2).bind fun t324 => ((thalwegref02_Level.f k a1_0 a1_1 a1_2 a1_3 a1_4 a1_5).bind fun bt325 => ((thalwegref02_Order.f k a2_0 a2_1 a2_2 bt325.1 bt325.2.1 bt325.2.2).bind fun t328 => (thalweglaw02_HeightDoes.j0 k a4 t293 t301 t303 t306 t307 t310 (t324 == t328) t287 t288 t289 t290 t291 t292 t295 t296 t297 t298 t299 t300))))) else (thalweglaw02_HeightDoes.j0 k a4 t293 t301 t303 t306 t307 t310 false t287 t288 t289 t290 t291 t292 t295 t296 t297 t298 t299 t300)))) else (thalweglaw02_HeightDoes.j0 k a4 t293 t301 t303 t306 t307 t310 false t287 t288 t289 t290 t291 t292 t295 t296 t297 t298 t299 t300))) = some r := H
      have A39 := Aside0.mk A390
      clear A390
      replace H := Option.bind_eq_some_iff.mp H
      obtain ⟨t314, A400, H⟩ := H
      replace H : (if (t313 == t314) = true then ((height_Level.f k a0_0 a0_1 a0_2 a0_3 a0_4 a0_5).bind fun bt315 => ((thalwegref02_Level.f k a0_0 a0_1 a0_2 a0_3 a0_4 a0_5).bind fun bt318 => (if (bt315.1 == bt318.1 && (bt315.2.1 == bt318.2.1 && (bt315.2.2 == bt318.2.2))) = true then ((height_Level.f k a1_0 a1_1 a1_2 a1_3 a1_4 a1_5).bind fun bt321 => ((height_Order.f k a2_0 a2_1 a2_2 bt321.1 bt321.2.1 bt321.2.2).bind fun t324 => ((thalwegref02_Level.f k a1_0 a1_1 a1_2 a1_3 a1_4 a1_5).bind fun bt325 => ((thalwegref02_Order.f k a2_0 a2_1 a2_2 bt325.1 bt325.2.1 bt325.2.2).bind fun t328 => (thalweglaw02_HeightDoes.j0 k a4 t293 t301 t303 t306 t307 t310 (t324 == t328) t287 t288 t289 t290 t291 t292 t295 t296 t297 t298 t299 t300))))) else (thalweglaw02_HeightDoes.j0 k a4 t293 t301 t303 t306 t307 t310 false t287 t288 t289 t290 t291 t292 t295 t296 t297 t298 t299 t300)))) else (thalweglaw02_HeightDoes.j0 k a4 t293 t301 t303 t306 t307 t310 false t287 t288 t289 t290 t291 t292 t295 t296 t297 t298 t299 t300)) = some r := H
      have A40 := Aside0.mk A400
      clear A400
      by_cases c41 : (t313 == t314) = true
      · rw [if_pos c41] at H
        have c41b0 : (t313 == t314) = true := c41
        (try (have c41b1 : decide (t313 = t314) = true := by simpa using c41))
        (try (have c41b2 : (t313 == t314) = true := by simpa using c41))
        clear c41
        replace H := Option.bind_eq_some_iff.mp H
        obtain ⟨⟨t315, t316, t317⟩, A420, H⟩ := H
        replace H : ((thalwegref02_Level.f k a0_0 a0_1 a0_2 a0_3 a0_4 a0_5).bind fun bt318 => (if (t315 == bt318.1 && (t316 == bt318.2.1 && (t317 == bt318.2.2))) = true then ((height_Level.f k a1_0 a1_1 a1_2 a1_3 a1_4 a1_5).bind fun bt321 => ((height_Order.f k a2_0 a2_1 a2_2 bt321.1 bt321.2.1 bt321.2.2).bind fun t324 => ((thalwegref02_Level.f k a1_0 a1_1 a1_2 a1_3 a1_4 a1_5).bind fun bt325 => ((thalwegref02_Order.f k a2_0 a2_1 a2_2 bt325.1 bt325.2.1 bt325.2.2).bind fun t328 => (thalweglaw02_HeightDoes.j0 k a4 t293 t301 t303 t306 t307 t310 (t324 == t328) t287 t288 t289 t290 t291 t292 t295 t296 t297 t298 t299 t300))))) else (thalweglaw02_HeightDoes.j0 k a4 t293 t301 t303 t306 t307 t310 false t287 t288 t289 t290 t291 t292 t295 t296 t297 t298 t299 t300))) = some r := H
        have A42 := Aside0.mk A420
        clear A420
        replace H := Option.bind_eq_some_iff.mp H
        obtain ⟨⟨t318, t319, t320⟩, A430, H⟩ := H
        replace H : (if (t315 == t318 && (t316 == t319 && (t317 == t320))) = true then ((height_Level.f k a1_0 a1_1 a1_2 a1_3 a1_4 a1_5).bind fun bt321 => ((height_Order.f k a2_0 a2_1 a2_2 bt321.1 bt321.2.1 bt321.2.2).bind fun t324 => ((thalwegref02_Level.f k a1_0 a1_1 a1_2 a1_3 a1_4 a1_5).bind fun bt325 => ((thalwegref02_Order.f k a2_0 a2_1 a2_2 bt325.1 bt325.2.1 bt325.2.2).bind fun t328 => (thalweglaw02_HeightDoes.j0 k a4 t293 t301 t303 t306 t307 t310 (t324 == t328) t287 t288 t289 t290 t291 t292 t295 t296 t297 t298 t299 t300))))) else (thalweglaw02_HeightDoes.j0 k a4 t293 t301 t303 t306 t307 t310 false t287 t288 t289 t290 t291 t292 t295 t296 t297 t298 t299 t300)) = some r := H
        have A43 := Aside0.mk A430
        clear A430
        by_cases c44 : (t315 == t318 && (t316 == t319 && (t317 == t320))) = true
        · rw [if_pos c44] at H
          have c44b0 : (t315 == t318 && (t316 == t319 && (t317 == t320))) = true := c44
          (try (have c44b1 : decide (t315 = t318 && (t316 == t319 && (t317 == t320))) = true := by simpa using c44))
          (try (have c44b2 : (t315 == t318 && (t316 == t319 && (t317 == t320))) = true := by simpa using c44))
          clear c44
          replace H := Option.bind_eq_some_iff.mp H
          obtain ⟨⟨t321, t322, t323⟩, A450, H⟩ := H
          replace H : ((height_Order.f k a2_0 a2_1 a2_2 t321 t322 t323).bind fun t324 => ((thalwegref02_Level.f k a1_0 a1_1 a1_2 a1_3 a1_4 a1_5).bind fun bt325 => ((thalwegref02_Order.f k a2_0 a2_1 a2_2 bt325.1 bt325.2.1 bt325.2.2).bind fun t328 => (thalweglaw02_HeightDoes.j0 k a4 t293 t301 t303 t306 t307 t310 (t324 == t328) t287 t288 t289 t290 t291 t292 t295 t296 t297 t298 t299 t300)))) = some r := H
          have A45 := Aside0.mk A450
          clear A450
          replace H := Option.bind_eq_some_iff.mp H
          obtain ⟨t324, A460, H⟩ := H
          replace H : ((thalwegref02_Level.f k a1_0 a1_1 a1_2 a1_3 a1_4 a1_5).bind fun bt325 => ((thalwegref02_Order.f k a2_0 a2_1 a2_2 bt325.1 bt325.2.1 bt325.2.2).bind fun t328 => (thalweglaw02_HeightDoes.j0 k a4 t293 t301 t303 t306 t307 t310 (t324 == t328) t287 t288 t289 t290 t291 t292 t295 t296 t297 t298 t299 t300))) = some r := H
          have A46 := Aside0.mk A460
          clear A460
          replace H := Option.bind_eq_some_iff.mp H
          obtain ⟨⟨t325, t326, t327⟩, A470, H⟩ := H
          replace H : ((thalwegref02_Order.f k a2_0 a2_1 a2_2 t325 t326 t327).bind fun t328 => (thalweglaw02_HeightDoes.j0 k a4 t293 t301 t303 t306 t307 t310 (t324 == t328) t287 t288 t289 t290 t291 t292 t295 t296 t297 t298 t299 t300)) = some r := H
          have A47 := Aside0.mk A470
          clear A470
          replace H := Option.bind_eq_some_iff.mp H
          obtain ⟨t328, A480, H⟩ := H
          replace H : (thalweglaw02_HeightDoes.j0 k a4 t293 t301 t303 t306 t307 t310 (t324 == t328) t287 t288 t289 t290 t291 t292 t295 t296 t297 t298 t299 t300) = some r := H
          have A48 := Aside0.mk A480
          clear A480
          have H' := Aside0.mk H
          clear H
          try go_wp2
          have n0_ := Aside0.mk (YT HO305.out)
          have n1_ := Aside0.mk (YT HO309.out)
          have n2_ := Aside0.mk (YG BK284.out)
          have n3_ := Aside0.mk (YG BK285.out)
          have n4_ := Aside0.mk (YG BK286.out)
          have n5_ := Aside0.mk (YG BK294.out)
          have n6_ := Aside0.mk (YG BK302.out)
          have n7_ := Aside0.mk (YC HB.out)
          clear HO305
          clear HO309
          clear BK284
          clear BK285
          clear BK286
          clear BK294
          clear BK302
          clear HB
          have HO305 := n0_
          have HO309 := n1_
          have BK284 := n2_
          have BK285 := n3_
          have BK286 := n4_
          have BK294 := n5_
          have BK302 := n6_
          have HB := n7_
          clear n0_ n1_ n2_ n3_ n4_ n5_ n6_ n7_
          refine start_ (n := 34) (S := fun w' => w'.cell? ⟨gb284, 0, none⟩ = some (.bool a0_0) ∧ w'.cell? ⟨gb284, 1, none⟩ = some (.int .i64 a0_1) ∧ w'.cell? ⟨gb284, 2, none⟩ = some (.int .i64 a0_2) ∧ w'.cell? ⟨gb284, 3, none⟩ = some (.int .i64 a0_3) ∧ w'.cell? ⟨gb284, 4, none⟩ = some (.int .i64 a0_4) ∧ w'.cell? ⟨gb284, 5, none⟩ = some (.int .i64 a0_5) ∧ w'.cell? ⟨gb285, 0, none⟩ = some (.bool a1_0) ∧ w'.cell? ⟨gb285, 1, none⟩ = some (.int .i64 a1_1) ∧ w'.cell? ⟨gb285, 2, none⟩ = some (.int .i64 a1_2) ∧ w'.cell? ⟨gb285, 3, none⟩ = some (.int .i64 a1_3) ∧ w'.cell? ⟨gb285, 4, none⟩ = some (.int .i64 a1_4) ∧ w'.cell? ⟨gb285, 5, none⟩ = some (.int .i64 a1_5) ∧ w'.cell? ⟨gb286, 0, none⟩ = some (.int .i64 a2_0) ∧ w'.cell? ⟨gb286, 1, none⟩ = some (.int .i64 a2_1) ∧ w'.cell? ⟨gb286, 2, none⟩ = some (.int .i64 a2_2)) (ds := []) #[false, false, false, false, false, false, false, false, false, false, false, false, false, false, false, false, false, false, false, false, false, false, false, false, false, false, false, false, false, false, false, false, false, false] (by kernel_rfl) rfl rfl ⟨(YI BK284.out 0).trans rfl, (YI BK284.out 1).trans rfl, (YI BK284.out 2).trans rfl, (YI BK284.out 3).trans rfl, (YI BK284.out 4).trans rfl, (YI BK284.out 5).trans rfl, (YI BK285.out 0).trans rfl, (YI BK285.out 1).trans rfl, (YI BK285.out 2).trans rfl, (YI BK285.out 3).trans rfl, (YI BK285.out 4).trans rfl, (YI BK285.out 5).trans rfl, (YI BK286.out 0).trans rfl, (YI BK286.out 1).trans rfl, (YI BK286.out 2).trans rfl⟩ (fun hHeld => ?_); refine with_tabW thalweglaw02_HeightDoes.tab5 thalweglaw02_HeightDoes.bits5 (fun HT_ HW_ => ?_)
          generalize w35.drew = w49 at HO305 HO309 BK284 BK285 BK286 BK294 BK302 HB hHeld ⊢
          refine take_ (i := 0) (N := some 44) (v := ?_) (a' := ?_) #[true, false, false, false, false, false, false, false, false, false, false, false, false, false, false, false, false, false, false, false, false, false, false, false, false, false, false, false, false, false, false, false, false, false] rfl rfl (take_ofW HT_.out HW_.out (by kernel_rfl)) (fun _ _ _ h => h) (Or.inl ⟨by rfl, ?_⟩) hHeld ?_ ?_
          rotate_left
          · rintro w' ⟨s0, s1, s2, s3, s4, s5, s6, s7, s8, s9, s10, s11, s12, s13, s14⟩
            go_simp
            with_reducible rfl
          rotate_left
          · simp only [Act.put, YL, YM, YN, i64_w, i32_w]
            rfl
          refine take_ (i := 3) (N := some 47) (v := ?_) (a' := ?_) #[true, false, false, true, false, false, false, false, false, false, false, false, false, false, false, false, false, false, false, false, false, false, false, false, false, false, false, false, false, false, false, false, false, false] rfl rfl (take_ofW HT_.out HW_.out (by kernel_rfl)) (fun _ _ _ h => h) (Or.inl ⟨by rfl, ?_⟩) hHeld ?_ ?_
          rotate_left
          · rintro w' ⟨s0, s1, s2, s3, s4, s5, s6, s7, s8, s9, s10, s11, s12, s13, s14⟩
            go_simp
            with_reducible rfl
          rotate_left
          · simp only [Act.put, YL, YM, YN, i64_w, i32_w]
            rfl
          refine one_ (i := 1) (N := some 45) #[true, true, false, true, false, false, false, false, false, false, false, false, false, false, false, false, false, false, false, false, false, false, false, false, false, false, false, false, false, false, false, false, false, false] rfl rfl (one_of HT_.out (by kernel_rfl)) (by decide) (fun K hK => ?_)
          refine goes_ Try.func12 (by kernel_rfl) rfl #[.agg #[.bool a0_0, .int .i64 a0_1, .int .i64 a0_2, .int .i64 a0_3, .int .i64 a0_4, .int .i64 a0_5]] (by rfl) rfl rfl (by (try simp only [YO, List.map_cons, List.map_nil]); first | done | rfl | (simp only [YQ, YP]; rfl)) ?_
          with_reducible refine (height_Check.calls k a0_0 a0_1 a0_2 a0_3 a0_4 a0_5 t311 _ A36.out).mono ?_
          rintro e w50 ⟨rfl, hb⟩
          refine ⟨_, rfl, ?_⟩
          have n0_ := Aside0.mk (YU (by (with_reducible repeat (first | apply YR | apply YS | apply YT)); exact HO305.out) hb)
          have n1_ := Aside0.mk (YU (by (with_reducible repeat (first | apply YR | apply YS | apply YT)); exact HO309.out) hb)
          have n2_ := Aside0.mk (YK (g := gb284) (o := .cells #[.bool a0_0, .int .i64 a0_1, .int .i64 a0_2, .int .i64 a0_3, .int .i64 a0_4, .int .i64 a0_5] 23 (0, 0)) (by (with_reducible repeat (first | refine YF ?_ _ | refine YG ?_ | refine YH ?_ _)); exact BK284.out) hb)
          have n3_ := Aside0.mk (YK (g := gb285) (o := .cells #[.bool a1_0, .int .i64 a1_1, .int .i64 a1_2, .int .i64 a1_3, .int .i64 a1_4, .int .i64 a1_5] 23 (0, 0)) (by (with_reducible repeat (first | refine YF ?_ _ | refine YG ?_ | refine YH ?_ _)); exact BK285.out) hb)
          have n4_ := Aside0.mk (YK (g := gb286) (o := .cells #[.int .i64 a2_0, .int .i64 a2_1, .int .i64 a2_2] 25 (0, 0)) (by (with_reducible repeat (first | refine YF ?_ _ | refine YG ?_ | refine YH ?_ _)); exact BK286.out) hb)
          have n5_ := Aside0.mk (YK (g := gb294) (o := .cells #[.bool t287, .int .i64 t288, .int .i64 t289, .int .i64 t290, .int .i64 t291, .int .i64 t292] 23 (0, 0)) (by (with_reducible repeat (first | refine YF ?_ _ | refine YG ?_ | refine YH ?_ _)); exact BK294.out) hb)
          have n6_ := Aside0.mk (YK (g := gb302) (o := .cells #[.bool t295, .int .i64 t296, .int .i64 t297, .int .i64 t298, .int .i64 t299, .int .i64 t300] 23 (0, 0)) (by (with_reducible repeat (first | refine YF ?_ _ | refine YG ?_ | refine YH ?_ _)); exact BK302.out) hb)
          have n7_ := Aside0.mk (YD (by repeat (first | (with_reducible first | exact HB.out | apply YA | apply YB | apply YC | refine below_set ?_ GE284.out | refine below_set ?_ GE285.out | refine below_set ?_ GE286.out | refine below_set ?_ GE294.out | refine below_set ?_ GE302.out) | exact HB.out)) hb)
          clear HO305
          clear HO309
          clear BK284
          clear BK285
          clear BK286
          clear BK294
          clear BK302
          clear HB
          have HO305 := n0_
          have HO309 := n1_
          have BK284 := n2_
          have BK285 := n3_
          have BK286 := n4_
          have BK294 := n5_
          have BK302 := n6_
          have HB := n7_
          clear n0_ n1_ n2_ n3_ n4_ n5_ n6_ n7_
          (try clear hb)
          (try clear hb2)
          (try clear hk)
          (try clear hi)
          refine hK.out _ _ ⟨(YI BK284.out 0).trans rfl, (YI BK284.out 1).trans rfl, (YI BK284.out 2).trans rfl, (YI BK284.out 3).trans rfl, (YI BK284.out 4).trans rfl, (YI BK284.out 5).trans rfl, (YI BK285.out 0).trans rfl, (YI BK285.out 1).trans rfl, (YI BK285.out 2).trans rfl, (YI BK285.out 3).trans rfl, (YI BK285.out 4).trans rfl, (YI BK285.out 5).trans rfl, (YI BK286.out 0).trans rfl, (YI BK286.out 1).trans rfl, (YI BK286.out 2).trans rfl⟩ (fun hHeld => ?_)
          clear hK K
          refine norm_ (a' := ?_) ?_ ?_
          rotate_left
          · show Act.put _ (some 45) _ = _
            simp only [Act.put, YL, YM, YN, i64_w, i32_w]
            rfl
          refine pure_ (i := 2) (N := some 46) (v := ?_) (a' := ?_) #[true, true, true, true, false, false, false, false, false, false, false, false, false, false, false, false, false, false, false, false, false, false, false, false, false, false, false, false, false, false, false, false, false, false] rfl rfl (any_of HT_.out (by kernel_rfl)) (fun _ _ _ h => h) (Or.inl ⟨by rfl, ?_⟩) ?_ ?_
          rotate_left
          · intro w'
            go_simp
            with_reducible rfl
          rotate_left
          · simp only [Act.put, YL, YM, YN, i64_w, i32_w]
            rfl
          refine one_ (i := 4) (N := some 48) #[true, true, true, true, true, false, false, false, false, false, false, false, false, false, false, false, false, false, false, false, false, false, false, false, false, false, false, false, false, false, false, false, false, false] rfl rfl (one_of HT_.out (by kernel_rfl)) (by decide) (fun K hK => ?_)
          refine goes_ Try.func13 (by kernel_rfl) rfl #[.agg #[.bool a0_0, .int .i64 a0_1, .int .i64 a0_2, .int .i64 a0_3, .int .i64 a0_4, .int .i64 a0_5]] (by rfl) rfl rfl (by (try simp only [YO, List.map_cons, List.map_nil]); first | done | rfl | (simp only [YQ, YP]; rfl)) ?_
          with_reducible refine (thalwegref02_Right.calls k a0_0 a0_1 a0_2 a0_3 a0_4 a0_5 t312 _ A37.out).mono ?_
          rintro e w51 ⟨rfl, hb⟩
          refine ⟨_, rfl, ?_⟩
          have n0_ := Aside0.mk (YU (by (with_reducible repeat (first | apply YR | apply YS | apply YT)); exact HO305.out) hb)
          have n1_ := Aside0.mk (YU (by (with_reducible repeat (first | apply YR | apply YS | apply YT)); exact HO309.out) hb)
          have n2_ := Aside0.mk (YK (g := gb284) (o := .cells #[.bool a0_0, .int .i64 a0_1, .int .i64 a0_2, .int .i64 a0_3, .int .i64 a0_4, .int .i64 a0_5] 23 (0, 0)) (by (with_reducible repeat (first | refine YF ?_ _ | refine YG ?_ | refine YH ?_ _)); exact BK284.out) hb)
          have n3_ := Aside0.mk (YK (g := gb285) (o := .cells #[.bool a1_0, .int .i64 a1_1, .int .i64 a1_2, .int .i64 a1_3, .int .i64 a1_4, .int .i64 a1_5] 23 (0, 0)) (by (with_reducible repeat (first | refine YF ?_ _ | refine YG ?_ | refine YH ?_ _)); exact BK285.out) hb)
          have n4_ := Aside0.mk (YK (g := gb286) (o := .cells #[.int .i64 a2_0, .int .i64 a2_1, .int .i64 a2_2] 25 (0, 0)) (by (with_reducible repeat (first | refine YF ?_ _ | refine YG ?_ | refine YH ?_ _)); exact BK286.out) hb)
          have n5_ := Aside0.mk (YK (g := gb294) (o := .cells #[.bool t287, .int .i64 t288, .int .i64 t289, .int .i64 t290, .int .i64 t291, .int .i64 t292] 23 (0, 0)) (by (with_reducible repeat (first | refine YF ?_ _ | refine YG ?_ | refine YH ?_ _)); exact BK294.out) hb)
          have n6_ := Aside0.mk (YK (g := gb302) (o := .cells #[.bool t295, .int .i64 t296, .int .i64 t297, .int .i64 t298, .int .i64 t299, .int .i64 t300] 23 (0, 0)) (by (with_reducible repeat (first | refine YF ?_ _ | refine YG ?_ | refine YH ?_ _)); exact BK302.out) hb)
          have n7_ := Aside0.mk (YD (by repeat (first | (with_reducible first | exact HB.out | apply YA | apply YB | apply YC | refine below_set ?_ GE284.out | refine below_set ?_ GE285.out | refine below_set ?_ GE286.out | refine below_set ?_ GE294.out | refine below_set ?_ GE302.out) | exact HB.out)) hb)
          clear HO305
          clear HO309
          clear BK284
          clear BK285
          clear BK286
          clear BK294
          clear BK302
          clear HB
          have HO305 := n0_
          have HO309 := n1_
          have BK284 := n2_
          have BK285 := n3_
          have BK286 := n4_
          have BK294 := n5_
          have BK302 := n6_
          have HB := n7_
          clear n0_ n1_ n2_ n3_ n4_ n5_ n6_ n7_
          (try clear hb)
          (try clear hb2)
          (try clear hk)
          (try clear hi)
          refine hK.out _ _ ⟨(YI BK284.out 0).trans rfl, (YI BK284.out 1).trans rfl, (YI BK284.out 2).trans rfl, (YI BK284.out 3).trans rfl, (YI BK284.out 4).trans rfl, (YI BK284.out 5).trans rfl, (YI BK285.out 0).trans rfl, (YI BK285.out 1).trans rfl, (YI BK285.out 2).trans rfl, (YI BK285.out 3).trans rfl, (YI BK285.out 4).trans rfl, (YI BK285.out 5).trans rfl, (YI BK286.out 0).trans rfl, (YI BK286.out 1).trans rfl, (YI BK286.out 2).trans rfl⟩ (fun hHeld => ?_)
          clear hK K
          refine norm_ (a' := ?_) ?_ ?_
          rotate_left
          · show Act.put _ (some 48) _ = _
            simp only [Act.put, YL, YM, YN, i64_w, i32_w]
            rfl
          refine pure_ (i := 5) (N := some 49) (v := ?_) (a' := ?_) #[true, true, true, true, true, true, false, false, false, false, false, false, false, false, false, false, false, false, false, false, false, false, false, false, false, false, false, false, false, false, false, false, false, false] rfl rfl (any_of HT_.out (by kernel_rfl)) (fun _ _ _ h => h) (Or.inl ⟨by rfl, ?_⟩) ?_ ?_
          rotate_left
          · intro w'
            go_simp
            with_reducible rfl
          rotate_left
          · simp only [Act.put, YL, YM, YN, i64_w, i32_w]
            rfl
          refine pure_ (i := 6) (N := some 50) (v := ?_) (a' := ?_) #[true, true, true, true, true, true, true, false, false, false, false, false, false, false, false, false, false, false, false, false, false, false, false, false, false, false, false, false, false, false, false, false, false, false] rfl rfl (any_of HT_.out (by kernel_rfl)) (fun _ _ _ h => h) (Or.inl ⟨by rfl, ?_⟩) ?_ ?_
          rotate_left
          · intro w'
            go_simp
            with_reducible rfl
          rotate_left
          · simp only [Act.put, YL, YM, YN, i64_w, i32_w]
            rfl
          refine take_ (i := 7) (N := some 51) (v := ?_) (a' := ?_) #[true, true, true, true, true, true, true, true, false, false, false, false, false, false, false, false, false, false, false, false, false, false, false, false, false, false, false, false, false, false, false, false, false, false] rfl rfl (take_ofW HT_.out HW_.out (by kernel_rfl)) (fun _ _ _ h => h) (Or.inl ⟨by rfl, ?_⟩) hHeld ?_ ?_
          rotate_left
          · rintro w' ⟨s0, s1, s2, s3, s4, s5, s6, s7, s8, s9, s10, s11, s12, s13, s14⟩
            go_simp
            with_reducible rfl
          rotate_left
          · simp only [Act.put, YL, YM, YN, i64_w, i32_w]
            rfl
          refine take_ (i := 8) (N := some 52) (v := ?_) (a' := ?_) #[true, true, true, true, true, true, true, true, true, false, false, false, false, false, false, false, false, false, false, false, false, false, false, false, false, false, false, false, false, false, false, false, false, false] rfl rfl (take_ofW HT_.out HW_.out (by kernel_rfl)) (fun _ _ _ h => h) (Or.inl ⟨by rfl, ?_⟩) hHeld ?_ ?_
          rotate_left
          · rintro w' ⟨s0, s1, s2, s3, s4, s5, s6, s7, s8, s9, s10, s11, s12, s13, s14⟩
            go_simp
            with_reducible rfl
          rotate_left
          · simp only [Act.put, YL, YM, YN, i64_w, i32_w]
            rfl
          refine take_ (i := 10) (N := some 54) (v := ?_) (a' := ?_) #[true, true, true, true, true, true, true, true, true, false, true, false, false, false, false, false, false, false, false, false, false, false, false, false, false, false, false, false, false, false, false, false, false, false] rfl rfl (take_ofW HT_.out HW_.out (by kernel_rfl)) (fun _ _ _ h => h) (Or.inl ⟨by rfl, ?_⟩) hHeld ?_ ?_
          rotate_left
          · rintro w' ⟨s0, s1, s2, s3, s4, s5, s6, s7, s8, s9, s10, s11, s12, s13, s14⟩
            go_simp
            with_reducible rfl
          rotate_left
          · simp only [Act.put, YL, YM, YN, i64_w, i32_w]
            rfl
          refine take_ (i := 11) (N := some 55) (v := ?_) (a' := ?_) #[true, true, true, true, true, true, true, true, true, false, true, true, false, false, false, false, false, false, false, false, false, false, false, false, false, false, false, false, false, false, false, false, false, false] rfl rfl (take_ofW HT_.out HW_.out (by kernel_rfl)) (fun _ _ _ h => h) (Or.inl ⟨by rfl, ?_⟩) hHeld ?_ ?_
          rotate_left
          · rintro w' ⟨s0, s1, s2, s3, s4, s5, s6, s7, s8, s9, s10, s11, s12, s13, s14⟩
            go_simp
            with_reducible rfl
          rotate_left
          · simp only [Act.put, YL, YM, YN, i64_w, i32_w]
            rfl
          refine one_ (i := 9) (N := some 53) #[true, true, true, true, true, true, true, true, true, true, true, true, false, false, false, false, false, false, false, false, false, false, false, false, false, false, false, false, false, false, false, false, false, false] rfl rfl (one_of HT_.out (by kernel_rfl)) (by decide) (fun K hK => ?_)
          refine goes_ Try.func14 (by kernel_rfl) rfl #[.agg #[.bool a0_0, .int .i64 a0_1, .int .i64 a0_2, .int .i64 a0_3, .int .i64 a0_4, .int .i64 a0_5], .agg #[.bool a1_0, .int .i64 a1_1, .int .i64 a1_2, .int .i64 a1_3, .int .i64 a1_4, .int .i64 a1_5]] (by rfl) rfl rfl (by (try simp only [YO, List.map_cons, List.map_nil]); first | done | rfl | (simp only [YQ, YP]; rfl)) ?_
          with_reducible refine (height_Less.calls k a0_0 a0_1 a0_2 a0_3 a0_4 a0_5 a1_0 a1_1 a1_2 a1_3 a1_4 a1_5 t313 _ A39.out).mono ?_
          rintro e w52 ⟨rfl, hb⟩
          refine ⟨_, rfl, ?_⟩
          have n0_ := Aside0.mk (YU (by (with_reducible repeat (first | apply YR | apply YS | apply YT)); exact HO305.out) hb)
          have n1_ := Aside0.mk (YU (by (with_reducible repeat (first | apply YR | apply YS | apply YT)); exact HO309.out) hb)
          have n2_ := Aside0.mk (YK (g := gb284) (o := .cells #[.bool a0_0, .int .i64 a0_1, .int .i64 a0_2, .int .i64 a0_3, .int .i64 a0_4, .int .i64 a0_5] 23 (0, 0)) (by (with_reducible repeat (first | refine YF ?_ _ | refine YG ?_ | refine YH ?_ _)); exact BK284.out) hb)
          have n3_ := Aside0.mk (YK (g := gb285) (o := .cells #[.bool a1_0, .int .i64 a1_1, .int .i64 a1_2, .int .i64 a1_3, .int .i64 a1_4, .int .i64 a1_5] 23 (0, 0)) (by (with_reducible repeat (first | refine YF ?_ _ | refine YG ?_ | refine YH ?_ _)); exact BK285.out) hb)
          have n4_ := Aside0.mk (YK (g := gb286) (o := .cells #[.int .i64 a2_0, .int .i64 a2_1, .int .i64 a2_2] 25 (0, 0)) (by (with_reducible repeat (first | refine YF ?_ _ | refine YG ?_ | refine YH ?_ _)); exact BK286.out) hb)
          have n5_ := Aside0.mk (YK (g := gb294) (o := .cells #[.bool t287, .int .i64 t288, .int .i64 t289, .int .i64 t290, .int .i64 t291, .int .i64 t292] 23 (0, 0)) (by (with_reducible repeat (first | refine YF ?_ _ | refine YG ?_ | refine YH ?_ _)); exact BK294.out) hb)
          have n6_ := Aside0.mk (YK (g := gb302) (o := .cells #[.bool t295, .int .i64 t296, .int .i64 t297, .int .i64 t298, .int .i64 t299, .int .i64 t300] 23 (0, 0)) (by (with_reducible repeat (first | refine YF ?_ _ | refine YG ?_ | refine YH ?_ _)); exact BK302.out) hb)
          have n7_ := Aside0.mk (YD (by repeat (first | (with_reducible first | exact HB.out | apply YA | apply YB | apply YC | refine below_set ?_ GE284.out | refine below_set ?_ GE285.out | refine below_set ?_ GE286.out | refine below_set ?_ GE294.out | refine below_set ?_ GE302.out) | exact HB.out)) hb)
          clear HO305
          clear HO309
          clear BK284
          clear BK285
          clear BK286
          clear BK294
          clear BK302
          clear HB
          have HO305 := n0_
          have HO309 := n1_
          have BK284 := n2_
          have BK285 := n3_
          have BK286 := n4_
          have BK294 := n5_
          have BK302 := n6_
          have HB := n7_
          clear n0_ n1_ n2_ n3_ n4_ n5_ n6_ n7_
          (try clear hb)
          (try clear hb2)
          (try clear hk)
          (try clear hi)
          refine hK.out _ _ ⟨(YI BK284.out 0).trans rfl, (YI BK284.out 1).trans rfl, (YI BK284.out 2).trans rfl, (YI BK284.out 3).trans rfl, (YI BK284.out 4).trans rfl, (YI BK284.out 5).trans rfl, (YI BK285.out 0).trans rfl, (YI BK285.out 1).trans rfl, (YI BK285.out 2).trans rfl, (YI BK285.out 3).trans rfl, (YI BK285.out 4).trans rfl, (YI BK285.out 5).trans rfl, (YI BK286.out 0).trans rfl, (YI BK286.out 1).trans rfl, (YI BK286.out 2).trans rfl⟩ (fun hHeld => ?_)
          clear hK K
          refine norm_ (a' := ?_) ?_ ?_
          rotate_left
          · show Act.put _ (some 53) _ = _
            simp only [Act.put, YL, YM, YN, i64_w, i32_w]
            rfl
          refine one_ (i := 12) (N := some 56) #[true, true, true, true, true, true, true, true, true, true, true, true, true, false, false, false, false, false, false, false, false, false, false, false, false, false, false, false, false, false, false, false, false, false] rfl rfl (one_of HT_.out (by kernel_rfl)) (by decide) (fun K hK => ?_)
          refine goes_ Try.func15 (by kernel_rfl) rfl #[.agg #[.bool a0_0, .int .i64 a0_1, .int .i64 a0_2, .int .i64 a0_3, .int .i64 a0_4, .int .i64 a0_5], .agg #[.bool a1_0, .int .i64 a1_1, .int .i64 a1_2, .int .i64 a1_3, .int .i64 a1_4, .int .i64 a1_5]] (by rfl) rfl rfl (by (try simp only [YO, List.map_cons, List.map_nil]); first | done | rfl | (simp only [YQ, YP]; rfl)) ?_
          with_reducible refine (thalwegref02_Less.calls k a0_0 a0_1 a0_2 a0_3 a0_4 a0_5 a1_0 a1_1 a1_2 a1_3 a1_4 a1_5 t314 _ A40.out).mono ?_
          rintro e w53 ⟨rfl, hb⟩
          refine ⟨_, rfl, ?_⟩
          have n0_ := Aside0.mk (YU (by (with_reducible repeat (first | apply YR | apply YS | apply YT)); exact HO305.out) hb)
          have n1_ := Aside0.mk (YU (by (with_reducible repeat (first | apply YR | apply YS | apply YT)); exact HO309.out) hb)
          have n2_ := Aside0.mk (YK (g := gb284) (o := .cells #[.bool a0_0, .int .i64 a0_1, .int .i64 a0_2, .int .i64 a0_3, .int .i64 a0_4, .int .i64 a0_5] 23 (0, 0)) (by (with_reducible repeat (first | refine YF ?_ _ | refine YG ?_ | refine YH ?_ _)); exact BK284.out) hb)
          have n3_ := Aside0.mk (YK (g := gb285) (o := .cells #[.bool a1_0, .int .i64 a1_1, .int .i64 a1_2, .int .i64 a1_3, .int .i64 a1_4, .int .i64 a1_5] 23 (0, 0)) (by (with_reducible repeat (first | refine YF ?_ _ | refine YG ?_ | refine YH ?_ _)); exact BK285.out) hb)
          have n4_ := Aside0.mk (YK (g := gb286) (o := .cells #[.int .i64 a2_0, .int .i64 a2_1, .int .i64 a2_2] 25 (0, 0)) (by (with_reducible repeat (first | refine YF ?_ _ | refine YG ?_ | refine YH ?_ _)); exact BK286.out) hb)
          have n5_ := Aside0.mk (YK (g := gb294) (o := .cells #[.bool t287, .int .i64 t288, .int .i64 t289, .int .i64 t290, .int .i64 t291, .int .i64 t292] 23 (0, 0)) (by (with_reducible repeat (first | refine YF ?_ _ | refine YG ?_ | refine YH ?_ _)); exact BK294.out) hb)
          have n6_ := Aside0.mk (YK (g := gb302) (o := .cells #[.bool t295, .int .i64 t296, .int .i64 t297, .int .i64 t298, .int .i64 t299, .int .i64 t300] 23 (0, 0)) (by (with_reducible repeat (first | refine YF ?_ _ | refine YG ?_ | refine YH ?_ _)); exact BK302.out) hb)
          have n7_ := Aside0.mk (YD (by repeat (first | (with_reducible first | exact HB.out | apply YA | apply YB | apply YC | refine below_set ?_ GE284.out | refine below_set ?_ GE285.out | refine below_set ?_ GE286.out | refine below_set ?_ GE294.out | refine below_set ?_ GE302.out) | exact HB.out)) hb)
          clear HO305
          clear HO309
          clear BK284
          clear BK285
          clear BK286
          clear BK294
          clear BK302
          clear HB
          have HO305 := n0_
          have HO309 := n1_
          have BK284 := n2_
          have BK285 := n3_
          have BK286 := n4_
          have BK294 := n5_
          have BK302 := n6_
          have HB := n7_
          clear n0_ n1_ n2_ n3_ n4_ n5_ n6_ n7_
          (try clear hb)
          (try clear hb2)
          (try clear hk)
          (try clear hi)
          refine hK.out _ _ ⟨(YI BK284.out 0).trans rfl, (YI BK284.out 1).trans rfl, (YI BK284.out 2).trans rfl, (YI BK284.out 3).trans rfl, (YI BK284.out 4).trans rfl, (YI BK284.out 5).trans rfl, (YI BK285.out 0).trans rfl, (YI BK285.out 1).trans rfl, (YI BK285.out 2).trans rfl, (YI BK285.out 3).trans rfl, (YI BK285.out 4).trans rfl, (YI BK285.out 5).trans rfl, (YI BK286.out 0).trans rfl, (YI BK286.out 1).trans rfl, (YI BK286.out 2).trans rfl⟩ (fun hHeld => ?_)
          clear hK K
          refine norm_ (a' := ?_) ?_ ?_
          rotate_left
          · show Act.put _ (some 56) _ = _
            simp only [Act.put, YL, YM, YN, i64_w, i32_w]
            rfl
          refine pure_ (i := 13) (N := some 57) (v := ?_) (a' := ?_) #[true, true, true, true, true, true, true, true, true, true, true, true, true, true, false, false, false, false, false, false, false, false, false, false, false, false, false, false, false, false, false, false, false, false] rfl rfl (any_of HT_.out (by kernel_rfl)) (fun _ _ _ h => h) (Or.inl ⟨by rfl, ?_⟩) ?_ ?_
          rotate_left
          · intro w'
            go_simp
            with_reducible rfl
          rotate_left
          · simp only [Act.put, YL, YM, YN, i64_w, i32_w]
            rfl
          refine pure_ (i := 14) (N := some 58) (v := ?_) (a' := ?_) #[true, true, true, true, true, true, true, true, true, true, true, true, true, true, true, false, false, false, false, false, false, false, false, false, false, false, false, false, false, false, false, false, false, false] rfl rfl (any_of HT_.out (by kernel_rfl)) (fun _ _ _ h => h) (Or.inl ⟨by rfl, ?_⟩) ?_ ?_
          rotate_left
          · intro w'
            go_simp
            with_reducible rfl
          rotate_left
          · simp only [Act.put, YL, YM, YN, i64_w, i32_w]
            rfl
          refine pure_ (i := 15) (N := some 59) (v := ?_) (a' := ?_) #[true, true, true, true, true, true, true, true, true, true, true, true, true, true, true, true, false, false, false, false, false, false, false, false, false, false, false, false, false, false, false, false, false, false] rfl rfl (any_of HT_.out (by kernel_rfl)) (fun _ _ _ h => h) (Or.inl ⟨by rfl, ?_⟩) ?_ ?_
          rotate_left
          · intro w'
            go_simp
            with_reducible rfl
          rotate_left
          · simp only [Act.put, YL, YM, YN, i64_w, i32_w]
            rfl
          refine take_ (i := 16) (N := some 60) (v := ?_) (a' := ?_) #[true, true, true, true, true, true, true, true, true, true, true, true, true, true, true, true, true, false, false, false, false, false, false, false, false, false, false, false, false, false, false, false, false, false] rfl rfl (take_ofW HT_.out HW_.out (by kernel_rfl)) (fun _ _ _ h => h) (Or.inl ⟨by rfl, ?_⟩) hHeld ?_ ?_
          rotate_left
          · rintro w' ⟨s0, s1, s2, s3, s4, s5, s6, s7, s8, s9, s10, s11, s12, s13, s14⟩
            go_simp
            with_reducible rfl
          rotate_left
          · simp only [Act.put, YL, YM, YN, i64_w, i32_w]
            rfl
          refine take_ (i := 18) (N := some 62) (v := ?_) (a' := ?_) #[true, true, true, true, true, true, true, true, true, true, true, true, true, true, true, true, true, false, true, false, false, false, false, false, false, false, false, false, false, false, false, false, false, false] rfl rfl (take_ofW HT_.out HW_.out (by kernel_rfl)) (fun _ _ _ h => h) (Or.inl ⟨by rfl, ?_⟩) hHeld ?_ ?_
          rotate_left
          · rintro w' ⟨s0, s1, s2, s3, s4, s5, s6, s7, s8, s9, s10, s11, s12, s13, s14⟩
            go_simp
            with_reducible rfl
          rotate_left
          · simp only [Act.put, YL, YM, YN, i64_w, i32_w]
            rfl
          refine one_ (i := 17) (N := some 61) #[true, true, true, true, true, true, true, true, true, true, true, true, true, true, true, true, true, true, true, false, false, false, false, false, false, false, false, false, false, false, false, false, false, false] rfl rfl (one_of HT_.out (by kernel_rfl)) (by decide) (fun K hK => ?_)
          refine goes_ Try.func16 (by kernel_rfl) rfl #[.agg #[.bool a0_0, .int .i64 a0_1, .int .i64 a0_2, .int .i64 a0_3, .int .i64 a0_4, .int .i64 a0_5]] (by rfl) rfl rfl (by (try simp only [YO, List.map_cons, List.map_nil]); first | done | rfl | (simp only [YQ, YP]; rfl)) ?_
          with_reducible refine (height_Level.calls k a0_0 a0_1 a0_2 a0_3 a0_4 a0_5 t315 t316 t317 _ A42.out).mono ?_
          rintro e w54 ⟨rfl, hb⟩
          refine ⟨_, rfl, ?_⟩
          have n0_ := Aside0.mk (YU (by (with_reducible repeat (first | apply YR | apply YS | apply YT)); exact HO305.out) hb)
          have n1_ := Aside0.mk (YU (by (with_reducible repeat (first | apply YR | apply YS | apply YT)); exact HO309.out) hb)
          have n2_ := Aside0.mk (YK (g := gb284) (o := .cells #[.bool a0_0, .int .i64 a0_1, .int .i64 a0_2, .int .i64 a0_3, .int .i64 a0_4, .int .i64 a0_5] 23 (0, 0)) (by (with_reducible repeat (first | refine YF ?_ _ | refine YG ?_ | refine YH ?_ _)); exact BK284.out) hb)
          have n3_ := Aside0.mk (YK (g := gb285) (o := .cells #[.bool a1_0, .int .i64 a1_1, .int .i64 a1_2, .int .i64 a1_3, .int .i64 a1_4, .int .i64 a1_5] 23 (0, 0)) (by (with_reducible repeat (first | refine YF ?_ _ | refine YG ?_ | refine YH ?_ _)); exact BK285.out) hb)
          have n4_ := Aside0.mk (YK (g := gb286) (o := .cells #[.int .i64 a2_0, .int .i64 a2_1, .int .i64 a2_2] 25 (0, 0)) (by (with_reducible repeat (first | refine YF ?_ _ | refine YG ?_ | refine YH ?_ _)); exact BK286.out) hb)
          have n5_ := Aside0.mk (YK (g := gb294) (o := .cells #[.bool t287, .int .i64 t288, .int .i64 t289, .int .i64 t290, .int .i64 t291, .int .i64 t292] 23 (0, 0)) (by (with_reducible repeat (first | refine YF ?_ _ | refine YG ?_ | refine YH ?_ _)); exact BK294.out) hb)
          have n6_ := Aside0.mk (YK (g := gb302) (o := .cells #[.bool t295, .int .i64 t296, .int .i64 t297, .int .i64 t298, .int .i64 t299, .int .i64 t300] 23 (0, 0)) (by (with_reducible repeat (first | refine YF ?_ _ | refine YG ?_ | refine YH ?_ _)); exact BK302.out) hb)
          have n7_ := Aside0.mk (YD (by repeat (first | (with_reducible first | exact HB.out | apply YA | apply YB | apply YC | refine below_set ?_ GE284.out | refine below_set ?_ GE285.out | refine below_set ?_ GE286.out | refine below_set ?_ GE294.out | refine below_set ?_ GE302.out) | exact HB.out)) hb)
          clear HO305
          clear HO309
          clear BK284
          clear BK285
          clear BK286
          clear BK294
          clear BK302
          clear HB
          have HO305 := n0_
          have HO309 := n1_
          have BK284 := n2_
          have BK285 := n3_
          have BK286 := n4_
          have BK294 := n5_
          have BK302 := n6_
          have HB := n7_
          clear n0_ n1_ n2_ n3_ n4_ n5_ n6_ n7_
          (try clear hb)
          (try clear hb2)
          (try clear hk)
          (try clear hi)
          refine hK.out _ _ ⟨(YI BK284.out 0).trans rfl, (YI BK284.out 1).trans rfl, (YI BK284.out 2).trans rfl, (YI BK284.out 3).trans rfl, (YI BK284.out 4).trans rfl, (YI BK284.out 5).trans rfl, (YI BK285.out 0).trans rfl, (YI BK285.out 1).trans rfl, (YI BK285.out 2).trans rfl, (YI BK285.out 3).trans rfl, (YI BK285.out 4).trans rfl, (YI BK285.out 5).trans rfl, (YI BK286.out 0).trans rfl, (YI BK286.out 1).trans rfl, (YI BK286.out 2).trans rfl⟩ (fun hHeld => ?_)
          clear hK K
          refine norm_ (a' := ?_) ?_ ?_
          rotate_left
          · show Act.put _ (some 61) _ = _
            simp only [Act.put, YL, YM, YN, i64_w, i32_w]
            rfl
          refine one_ (i := 19) (N := some 63) #[true, true, true, true, true, true, true, true, true, true, true, true, true, true, true, true, true, true, true, true, false, false, false, false, false, false, false, false, false, false, false, false, false, false] rfl rfl (one_of HT_.out (by kernel_rfl)) (by decide) (fun K hK => ?_)
          refine goes_ Try.func17 (by kernel_rfl) rfl #[.agg #[.bool a0_0, .int .i64 a0_1, .int .i64 a0_2, .int .i64 a0_3, .int .i64 a0_4, .int .i64 a0_5]] (by rfl) rfl rfl (by (try simp only [YO, List.map_cons, List.map_nil]); first | done | rfl | (simp only [YQ, YP]; rfl)) ?_
          with_reducible refine (thalwegref02_Level.calls k a0_0 a0_1 a0_2 a0_3 a0_4 a0_5 t318 t319 t320 _ A43.out).mono ?_
          rintro e w55 ⟨rfl, hb⟩
          refine ⟨_, rfl, ?_⟩
          have n0_ := Aside0.mk (YU (by (with_reducible repeat (first | apply YR | apply YS | apply YT)); exact HO305.out) hb)
          have n1_ := Aside0.mk (YU (by (with_reducible repeat (first | apply YR | apply YS | apply YT)); exact HO309.out) hb)
          have n2_ := Aside0.mk (YK (g := gb284) (o := .cells #[.bool a0_0, .int .i64 a0_1, .int .i64 a0_2, .int .i64 a0_3, .int .i64 a0_4, .int .i64 a0_5] 23 (0, 0)) (by (with_reducible repeat (first | refine YF ?_ _ | refine YG ?_ | refine YH ?_ _)); exact BK284.out) hb)
          have n3_ := Aside0.mk (YK (g := gb285) (o := .cells #[.bool a1_0, .int .i64 a1_1, .int .i64 a1_2, .int .i64 a1_3, .int .i64 a1_4, .int .i64 a1_5] 23 (0, 0)) (by (with_reducible repeat (first | refine YF ?_ _ | refine YG ?_ | refine YH ?_ _)); exact BK285.out) hb)
          have n4_ := Aside0.mk (YK (g := gb286) (o := .cells #[.int .i64 a2_0, .int .i64 a2_1, .int .i64 a2_2] 25 (0, 0)) (by (with_reducible repeat (first | refine YF ?_ _ | refine YG ?_ | refine YH ?_ _)); exact BK286.out) hb)
          have n5_ := Aside0.mk (YK (g := gb294) (o := .cells #[.bool t287, .int .i64 t288, .int .i64 t289, .int .i64 t290, .int .i64 t291, .int .i64 t292] 23 (0, 0)) (by (with_reducible repeat (first | refine YF ?_ _ | refine YG ?_ | refine YH ?_ _)); exact BK294.out) hb)
          have n6_ := Aside0.mk (YK (g := gb302) (o := .cells #[.bool t295, .int .i64 t296, .int .i64 t297, .int .i64 t298, .int .i64 t299, .int .i64 t300] 23 (0, 0)) (by (with_reducible repeat (first | refine YF ?_ _ | refine YG ?_ | refine YH ?_ _)); exact BK302.out) hb)
          have n7_ := Aside0.mk (YD (by repeat (first | (with_reducible first | exact HB.out | apply YA | apply YB | apply YC | refine below_set ?_ GE284.out | refine below_set ?_ GE285.out | refine below_set ?_ GE286.out | refine below_set ?_ GE294.out | refine below_set ?_ GE302.out) | exact HB.out)) hb)
          clear HO305
          clear HO309
          clear BK284
          clear BK285
          clear BK286
          clear BK294
          clear BK302
          clear HB
          have HO305 := n0_
          have HO309 := n1_
          have BK284 := n2_
          have BK285 := n3_
          have BK286 := n4_
          have BK294 := n5_
          have BK302 := n6_
          have HB := n7_
          clear n0_ n1_ n2_ n3_ n4_ n5_ n6_ n7_
          (try clear hb)
          (try clear hb2)
          (try clear hk)
          (try clear hi)
          refine hK.out _ _ ⟨(YI BK284.out 0).trans rfl, (YI BK284.out 1).trans rfl, (YI BK284.out 2).trans rfl, (YI BK284.out 3).trans rfl, (YI BK284.out 4).trans rfl, (YI BK284.out 5).trans rfl, (YI BK285.out 0).trans rfl, (YI BK285.out 1).trans rfl, (YI BK285.out 2).trans rfl, (YI BK285.out 3).trans rfl, (YI BK285.out 4).trans rfl, (YI BK285.out 5).trans rfl, (YI BK286.out 0).trans rfl, (YI BK286.out 1).trans rfl, (YI BK286.out 2).trans rfl⟩ (fun hHeld => ?_)
          clear hK K
          refine norm_ (a' := ?_) ?_ ?_
          rotate_left
          · show Act.put _ (some 63) _ = _
            simp only [Act.put, YL, YM, YN, i64_w, i32_w]
            rfl
          refine pure_ (i := 20) (N := some 64) (v := ?_) (a' := ?_) #[true, true, true, true, true, true, true, true, true, true, true, true, true, true, true, true, true, true, true, true, true, false, false, false, false, false, false, false, false, false, false, false, false, false] rfl rfl (any_of HT_.out (by kernel_rfl)) (fun _ _ _ h => h) (Or.inl ⟨by rfl, ?_⟩) ?_ ?_
          rotate_left
          · intro w'
            go_simp
            with_reducible rfl
          rotate_left
          · simp only [Act.put, YL, YM, YN, i64_w, i32_w]
            rfl
          refine pure_ (i := 21) (N := some 65) (v := ?_) (a' := ?_) #[true, true, true, true, true, true, true, true, true, true, true, true, true, true, true, true, true, true, true, true, true, true, false, false, false, false, false, false, false, false, false, false, false, false] rfl rfl (any_of HT_.out (by kernel_rfl)) (fun _ _ _ h => h) (Or.inl ⟨by rfl, ?_⟩) ?_ ?_
          rotate_left
          · intro w'
            go_simp
            with_reducible rfl
          rotate_left
          · simp only [Act.put, YL, YM, YN, i64_w, i32_w]
            rfl
          refine pure_ (i := 22) (N := some 66) (v := ?_) (a' := ?_) #[true, true, true, true, true, true, true, true, true, true, true, true, true, true, true, true, true, true, true, true, true, true, true, false, false, false, false, false, false, false, false, false, false, false] rfl rfl (any_of HT_.out (by kernel_rfl)) (fun _ _ _ h => h) (Or.inl ⟨by rfl, ?_⟩) ?_ ?_
          rotate_left
          · intro w'
            go_simp
            with_reducible rfl
          rotate_left
          · simp only [Act.put, YL, YM, YN, i64_w, i32_w]
            rfl
          refine take_ (i := 23) (N := some 67) (v := ?_) (a' := ?_) #[true, true, true, true, true, true, true, true, true, true, true, true, true, true, true, true, true, true, true, true, true, true, true, true, false, false, false, false, false, false, false, false, false, false] rfl rfl (take_ofW HT_.out HW_.out (by kernel_rfl)) (fun _ _ _ h => h) (Or.inl ⟨by rfl, ?_⟩) hHeld ?_ ?_
          rotate_left
          · rintro w' ⟨s0, s1, s2, s3, s4, s5, s6, s7, s8, s9, s10, s11, s12, s13, s14⟩
            go_simp
            with_reducible rfl
          rotate_left
          · simp only [Act.put, YL, YM, YN, i64_w, i32_w]
            rfl
          refine take_ (i := 24) (N := some 68) (v := ?_) (a' := ?_) #[true, true, true, true, true, true, true, true, true, true, true, true, true, true, true, true, true, true, true, true, true, true, true, true, true, false, false, false, false, false, false, false, false, false] rfl rfl (take_ofW HT_.out HW_.out (by kernel_rfl)) (fun _ _ _ h => h) (Or.inl ⟨by rfl, ?_⟩) hHeld ?_ ?_
          rotate_left
          · rintro w' ⟨s0, s1, s2, s3, s4, s5, s6, s7, s8, s9, s10, s11, s12, s13, s14⟩
            go_simp
            with_reducible rfl
          rotate_left
          · simp only [Act.put, YL, YM, YN, i64_w, i32_w]
            rfl
          refine take_ (i := 27) (N := some 71) (v := ?_) (a' := ?_) #[true, true, true, true, true, true, true, true, true, true, true, true, true, true, true, true, true, true, true, true, true, true, true, true, true, false, false, true, false, false, false, false, false, false] rfl rfl (take_ofW HT_.out HW_.out (by kernel_rfl)) (fun _ _ _ h => h) (Or.inl ⟨by rfl, ?_⟩) hHeld ?_ ?_
          rotate_left
          · rintro w' ⟨s0, s1, s2, s3, s4, s5, s6, s7, s8, s9, s10, s11, s12, s13, s14⟩
            go_simp
            with_reducible rfl
          rotate_left
          · simp only [Act.put, YL, YM, YN, i64_w, i32_w]
            rfl
          refine take_ (i := 28) (N := some 72) (v := ?_) (a' := ?_) #[true, true, true, true, true, true, true, true, true, true, true, true, true, true, true, true, true, true, true, true, true, true, true, true, true, false, false, true, true, false, false, false, false, false] rfl rfl (take_ofW HT_.out HW_.out (by kernel_rfl)) (fun _ _ _ h => h) (Or.inl ⟨by rfl, ?_⟩) hHeld ?_ ?_
          rotate_left
          · rintro w' ⟨s0, s1, s2, s3, s4, s5, s6, s7, s8, s9, s10, s11, s12, s13, s14⟩
            go_simp
            with_reducible rfl
          rotate_left
          · simp only [Act.put, YL, YM, YN, i64_w, i32_w]
            rfl
          refine one_ (i := 25) (N := some 69) #[true, true, true, true, true, true, true, true, true, true, true, true, true, true, true, true, true, true, true, true, true, true, true, true, true, true, false, true, true, false, false, false, false, false] rfl rfl (one_of HT_.out (by kernel_rfl)) (by decide) (fun K hK => ?_)
          refine goes_ Try.func16 (by kernel_rfl) rfl #[.agg #[.bool a1_0, .int .i64 a1_1, .int .i64 a1_2, .int .i64 a1_3, .int .i64 a1_4, .int .i64 a1_5]] (by rfl) rfl rfl (by (try simp only [YO, List.map_cons, List.map_nil]); first | done | rfl | (simp only [YQ, YP]; rfl)) ?_
          with_reducible refine (height_Level.calls k a1_0 a1_1 a1_2 a1_3 a1_4 a1_5 t321 t322 t323 _ A45.out).mono ?_
          rintro e w56 ⟨rfl, hb⟩
          refine ⟨_, rfl, ?_⟩
          have n0_ := Aside0.mk (YU (by (with_reducible repeat (first | apply YR | apply YS | apply YT)); exact HO305.out) hb)
          have n1_ := Aside0.mk (YU (by (with_reducible repeat (first | apply YR | apply YS | apply YT)); exact HO309.out) hb)
          have n2_ := Aside0.mk (YK (g := gb284) (o := .cells #[.bool a0_0, .int .i64 a0_1, .int .i64 a0_2, .int .i64 a0_3, .int .i64 a0_4, .int .i64 a0_5] 23 (0, 0)) (by (with_reducible repeat (first | refine YF ?_ _ | refine YG ?_ | refine YH ?_ _)); exact BK284.out) hb)
          have n3_ := Aside0.mk (YK (g := gb285) (o := .cells #[.bool a1_0, .int .i64 a1_1, .int .i64 a1_2, .int .i64 a1_3, .int .i64 a1_4, .int .i64 a1_5] 23 (0, 0)) (by (with_reducible repeat (first | refine YF ?_ _ | refine YG ?_ | refine YH ?_ _)); exact BK285.out) hb)
          have n4_ := Aside0.mk (YK (g := gb286) (o := .cells #[.int .i64 a2_0, .int .i64 a2_1, .int .i64 a2_2] 25 (0, 0)) (by (with_reducible repeat (first | refine YF ?_ _ | refine YG ?_ | refine YH ?_ _)); exact BK286.out) hb)
          have n5_ := Aside0.mk (YK (g := gb294) (o := .cells #[.bool t287, .int .i64 t288, .int .i64 t289, .int .i64 t290, .int .i64 t291, .int .i64 t292] 23 (0, 0)) (by (with_reducible repeat (first | refine YF ?_ _ | refine YG ?_ | refine YH ?_ _)); exact BK294.out) hb)
          have n6_ := Aside0.mk (YK (g := gb302) (o := .cells #[.bool t295, .int .i64 t296, .int .i64 t297, .int .i64 t298, .int .i64 t299, .int .i64 t300] 23 (0, 0)) (by (with_reducible repeat (first | refine YF ?_ _ | refine YG ?_ | refine YH ?_ _)); exact BK302.out) hb)
          have n7_ := Aside0.mk (YD (by repeat (first | (with_reducible first | exact HB.out | apply YA | apply YB | apply YC | refine below_set ?_ GE284.out | refine below_set ?_ GE285.out | refine below_set ?_ GE286.out | refine below_set ?_ GE294.out | refine below_set ?_ GE302.out) | exact HB.out)) hb)
          clear HO305
          clear HO309
          clear BK284
          clear BK285
          clear BK286
          clear BK294
          clear BK302
          clear HB
          have HO305 := n0_
          have HO309 := n1_
          have BK284 := n2_
          have BK285 := n3_
          have BK286 := n4_
          have BK294 := n5_
          have BK302 := n6_
          have HB := n7_
          clear n0_ n1_ n2_ n3_ n4_ n5_ n6_ n7_
          (try clear hb)
          (try clear hb2)
          (try clear hk)
          (try clear hi)
          refine hK.out _ _ ⟨(YI BK284.out 0).trans rfl, (YI BK284.out 1).trans rfl, (YI BK284.out 2).trans rfl, (YI BK284.out 3).trans rfl, (YI BK284.out 4).trans rfl, (YI BK284.out 5).trans rfl, (YI BK285.out 0).trans rfl, (YI BK285.out 1).trans rfl, (YI BK285.out 2).trans rfl, (YI BK285.out 3).trans rfl, (YI BK285.out 4).trans rfl, (YI BK285.out 5).trans rfl, (YI BK286.out 0).trans rfl, (YI BK286.out 1).trans rfl, (YI BK286.out 2).trans rfl⟩ (fun hHeld => ?_)
          clear hK K
          refine norm_ (a' := ?_) ?_ ?_
          rotate_left
          · show Act.put _ (some 69) _ = _
            simp only [Act.put, YL, YM, YN, i64_w, i32_w]
            rfl
          refine one_ (i := 26) (N := some 70) #[true, true, true, true, true, true, true, true, true, true, true, true, true, true, true, true, true, true, true, true, true, true, true, true, true, true, true, true, true, false, false, false, false, false] rfl rfl (one_of HT_.out (by kernel_rfl)) (by decide) (fun K hK => ?_)
          refine goes_ Try.func18 (by kernel_rfl) rfl #[.agg #[.int .i64 a2_0, .int .i64 a2_1, .int .i64 a2_2], .agg #[.int .i64 t321, .int .i64 t322, .int .i64 t323]] (by rfl) rfl rfl (by (try simp only [YO, List.map_cons, List.map_nil]); first | done | rfl | (simp only [YQ, YP]; rfl)) ?_
          with_reducible refine (height_Order.calls k a2_0 a2_1 a2_2 t321 t322 t323 t324 _ A46.out).mono ?_
          rintro e w57 ⟨rfl, hb⟩
          refine ⟨_, rfl, ?_⟩
          have n0_ := Aside0.mk (YU (by (with_reducible repeat (first | apply YR | apply YS | apply YT)); exact HO305.out) hb)
          have n1_ := Aside0.mk (YU (by (with_reducible repeat (first | apply YR | apply YS | apply YT)); exact HO309.out) hb)
          have n2_ := Aside0.mk (YK (g := gb284) (o := .cells #[.bool a0_0, .int .i64 a0_1, .int .i64 a0_2, .int .i64 a0_3, .int .i64 a0_4, .int .i64 a0_5] 23 (0, 0)) (by (with_reducible repeat (first | refine YF ?_ _ | refine YG ?_ | refine YH ?_ _)); exact BK284.out) hb)
          have n3_ := Aside0.mk (YK (g := gb285) (o := .cells #[.bool a1_0, .int .i64 a1_1, .int .i64 a1_2, .int .i64 a1_3, .int .i64 a1_4, .int .i64 a1_5] 23 (0, 0)) (by (with_reducible repeat (first | refine YF ?_ _ | refine YG ?_ | refine YH ?_ _)); exact BK285.out) hb)
          have n4_ := Aside0.mk (YK (g := gb286) (o := .cells #[.int .i64 a2_0, .int .i64 a2_1, .int .i64 a2_2] 25 (0, 0)) (by (with_reducible repeat (first | refine YF ?_ _ | refine YG ?_ | refine YH ?_ _)); exact BK286.out) hb)
          have n5_ := Aside0.mk (YK (g := gb294) (o := .cells #[.bool t287, .int .i64 t288, .int .i64 t289, .int .i64 t290, .int .i64 t291, .int .i64 t292] 23 (0, 0)) (by (with_reducible repeat (first | refine YF ?_ _ | refine YG ?_ | refine YH ?_ _)); exact BK294.out) hb)
          have n6_ := Aside0.mk (YK (g := gb302) (o := .cells #[.bool t295, .int .i64 t296, .int .i64 t297, .int .i64 t298, .int .i64 t299, .int .i64 t300] 23 (0, 0)) (by (with_reducible repeat (first | refine YF ?_ _ | refine YG ?_ | refine YH ?_ _)); exact BK302.out) hb)
          have n7_ := Aside0.mk (YD (by repeat (first | (with_reducible first | exact HB.out | apply YA | apply YB | apply YC | refine below_set ?_ GE284.out | refine below_set ?_ GE285.out | refine below_set ?_ GE286.out | refine below_set ?_ GE294.out | refine below_set ?_ GE302.out) | exact HB.out)) hb)
          clear HO305
          clear HO309
          clear BK284
          clear BK285
          clear BK286
          clear BK294
          clear BK302
          clear HB
          have HO305 := n0_
          have HO309 := n1_
          have BK284 := n2_
          have BK285 := n3_
          have BK286 := n4_
          have BK294 := n5_
          have BK302 := n6_
          have HB := n7_
          clear n0_ n1_ n2_ n3_ n4_ n5_ n6_ n7_
          (try clear hb)
          (try clear hb2)
          (try clear hk)
          (try clear hi)
          refine hK.out _ _ ⟨(YI BK284.out 0).trans rfl, (YI BK284.out 1).trans rfl, (YI BK284.out 2).trans rfl, (YI BK284.out 3).trans rfl, (YI BK284.out 4).trans rfl, (YI BK284.out 5).trans rfl, (YI BK285.out 0).trans rfl, (YI BK285.out 1).trans rfl, (YI BK285.out 2).trans rfl, (YI BK285.out 3).trans rfl, (YI BK285.out 4).trans rfl, (YI BK285.out 5).trans rfl, (YI BK286.out 0).trans rfl, (YI BK286.out 1).trans rfl, (YI BK286.out 2).trans rfl⟩ (fun hHeld => ?_)
          clear hK K
          refine norm_ (a' := ?_) ?_ ?_
          rotate_left
          · show Act.put _ (some 70) _ = _
            simp only [Act.put, YL, YM, YN, i64_w, i32_w]
            rfl
          refine one_ (i := 29) (N := some 73) #[true, true, true, true, true, true, true, true, true, true, true, true, true, true, true, true, true, true, true, true, true, true, true, true, true, true, true, true, true, true, false, false, false, false] rfl rfl (one_of HT_.out (by kernel_rfl)) (by decide) (fun K hK => ?_)
          refine goes_ Try.func17 (by kernel_rfl) rfl #[.agg #[.bool a1_0, .int .i64 a1_1, .int .i64 a1_2, .int .i64 a1_3, .int .i64 a1_4, .int .i64 a1_5]] (by rfl) rfl rfl (by (try simp only [YO, List.map_cons, List.map_nil]); first | done | rfl | (simp only [YQ, YP]; rfl)) ?_
          with_reducible refine (thalwegref02_Level.calls k a1_0 a1_1 a1_2 a1_3 a1_4 a1_5 t325 t326 t327 _ A47.out).mono ?_
          rintro e w58 ⟨rfl, hb⟩
          refine ⟨_, rfl, ?_⟩
          have n0_ := Aside0.mk (YU (by (with_reducible repeat (first | apply YR | apply YS | apply YT)); exact HO305.out) hb)
          have n1_ := Aside0.mk (YU (by (with_reducible repeat (first | apply YR | apply YS | apply YT)); exact HO309.out) hb)
          have n2_ := Aside0.mk (YK (g := gb284) (o := .cells #[.bool a0_0, .int .i64 a0_1, .int .i64 a0_2, .int .i64 a0_3, .int .i64 a0_4, .int .i64 a0_5] 23 (0, 0)) (by (with_reducible repeat (first | refine YF ?_ _ | refine YG ?_ | refine YH ?_ _)); exact BK284.out) hb)
          have n3_ := Aside0.mk (YK (g := gb285) (o := .cells #[.bool a1_0, .int .i64 a1_1, .int .i64 a1_2, .int .i64 a1_3, .int .i64 a1_4, .int .i64 a1_5] 23 (0, 0)) (by (with_reducible repeat (first | refine YF ?_ _ | refine YG ?_ | refine YH ?_ _)); exact BK285.out) hb)
          have n4_ := Aside0.mk (YK (g := gb286) (o := .cells #[.int .i64 a2_0, .int .i64 a2_1, .int .i64 a2_2] 25 (0, 0)) (by (with_reducible repeat (first | refine YF ?_ _ | refine YG ?_ | refine YH ?_ _)); exact BK286.out) hb)
          have n5_ := Aside0.mk (YK (g := gb294) (o := .cells #[.bool t287, .int .i64 t288, .int .i64 t289, .int .i64 t290, .int .i64 t291, .int .i64 t292] 23 (0, 0)) (by (with_reducible repeat (first | refine YF ?_ _ | refine YG ?_ | refine YH ?_ _)); exact BK294.out) hb)
          have n6_ := Aside0.mk (YK (g := gb302) (o := .cells #[.bool t295, .int .i64 t296, .int .i64 t297, .int .i64 t298, .int .i64 t299, .int .i64 t300] 23 (0, 0)) (by (with_reducible repeat (first | refine YF ?_ _ | refine YG ?_ | refine YH ?_ _)); exact BK302.out) hb)
          have n7_ := Aside0.mk (YD (by repeat (first | (with_reducible first | exact HB.out | apply YA | apply YB | apply YC | refine below_set ?_ GE284.out | refine below_set ?_ GE285.out | refine below_set ?_ GE286.out | refine below_set ?_ GE294.out | refine below_set ?_ GE302.out) | exact HB.out)) hb)
          clear HO305
          clear HO309
          clear BK284
          clear BK285
          clear BK286
          clear BK294
          clear BK302
          clear HB
          have HO305 := n0_
          have HO309 := n1_
          have BK284 := n2_
          have BK285 := n3_
          have BK286 := n4_
          have BK294 := n5_
          have BK302 := n6_
          have HB := n7_
          clear n0_ n1_ n2_ n3_ n4_ n5_ n6_ n7_
          (try clear hb)
          (try clear hb2)
          (try clear hk)
          (try clear hi)
          refine hK.out _ _ ⟨(YI BK284.out 0).trans rfl, (YI BK284.out 1).trans rfl, (YI BK284.out 2).trans rfl, (YI BK284.out 3).trans rfl, (YI BK284.out 4).trans rfl, (YI BK284.out 5).trans rfl, (YI BK285.out 0).trans rfl, (YI BK285.out 1).trans rfl, (YI BK285.out 2).trans rfl, (YI BK285.out 3).trans rfl, (YI BK285.out 4).trans rfl, (YI BK285.out 5).trans rfl, (YI BK286.out 0).trans rfl, (YI BK286.out 1).trans rfl, (YI BK286.out 2).trans rfl⟩ (fun hHeld => ?_)
          clear hK K
          refine norm_ (a' := ?_) ?_ ?_
          rotate_left
          · show Act.put _ (some 73) _ = _
            simp only [Act.put, YL, YM, YN, i64_w, i32_w]
            rfl
          refine one_ (i := 30) (N := some 74) #[true, true, true, true, true, true, true, true, true, true, true, true, true, true, true, true, true, true, true, true, true, true, true, true, true, true, true, true, true, true, true, false, false, false] rfl rfl (one_of HT_.out (by kernel_rfl)) (by decide) (fun K hK => ?_)
          refine goes_ Try.func19 (by kernel_rfl) rfl #[.agg #[.int .i64 a2_0, .int .i64 a2_1, .int .i64 a2_2], .agg #[.int .i64 t325, .int .i64 t326, .int .i64 t327]] (by rfl) rfl rfl (by (try simp only [YO, List.map_cons, List.map_nil]); first | done | rfl | (simp only [YQ, YP]; rfl)) ?_
          with_reducible refine (thalwegref02_Order.calls k a2_0 a2_1 a2_2 t325 t326 t327 t328 _ A48.out).mono ?_
          rintro e w59 ⟨rfl, hb⟩
          refine ⟨_, rfl, ?_⟩
          have n0_ := Aside0.mk (YU (by (with_reducible repeat (first | apply YR | apply YS | apply YT)); exact HO305.out) hb)
          have n1_ := Aside0.mk (YU (by (with_reducible repeat (first | apply YR | apply YS | apply YT)); exact HO309.out) hb)
          have n2_ := Aside0.mk (YK (g := gb284) (o := .cells #[.bool a0_0, .int .i64 a0_1, .int .i64 a0_2, .int .i64 a0_3, .int .i64 a0_4, .int .i64 a0_5] 23 (0, 0)) (by (with_reducible repeat (first | refine YF ?_ _ | refine YG ?_ | refine YH ?_ _)); exact BK284.out) hb)
          have n3_ := Aside0.mk (YK (g := gb285) (o := .cells #[.bool a1_0, .int .i64 a1_1, .int .i64 a1_2, .int .i64 a1_3, .int .i64 a1_4, .int .i64 a1_5] 23 (0, 0)) (by (with_reducible repeat (first | refine YF ?_ _ | refine YG ?_ | refine YH ?_ _)); exact BK285.out) hb)
          have n4_ := Aside0.mk (YK (g := gb286) (o := .cells #[.int .i64 a2_0, .int .i64 a2_1, .int .i64 a2_2] 25 (0, 0)) (by (with_reducible repeat (first | refine YF ?_ _ | refine YG ?_ | refine YH ?_ _)); exact BK286.out) hb)
          have n5_ := Aside0.mk (YK (g := gb294) (o := .cells #[.bool t287, .int .i64 t288, .int .i64 t289, .int .i64 t290, .int .i64 t291, .int .i64 t292] 23 (0, 0)) (by (with_reducible repeat (first | refine YF ?_ _ | refine YG ?_ | refine YH ?_ _)); exact BK294.out) hb)
          have n6_ := Aside0.mk (YK (g := gb302) (o := .cells #[.bool t295, .int .i64 t296, .int .i64 t297, .int .i64 t298, .int .i64 t299, .int .i64 t300] 23 (0, 0)) (by (with_reducible repeat (first | refine YF ?_ _ | refine YG ?_ | refine YH ?_ _)); exact BK302.out) hb)
          have n7_ := Aside0.mk (YD (by repeat (first | (with_reducible first | exact HB.out | apply YA | apply YB | apply YC | refine below_set ?_ GE284.out | refine below_set ?_ GE285.out | refine below_set ?_ GE286.out | refine below_set ?_ GE294.out | refine below_set ?_ GE302.out) | exact HB.out)) hb)
          clear HO305
          clear HO309
          clear BK284
          clear BK285
          clear BK286
          clear BK294
          clear BK302
          clear HB
          have HO305 := n0_
          have HO309 := n1_
          have BK284 := n2_
          have BK285 := n3_
          have BK286 := n4_
          have BK294 := n5_
          have BK302 := n6_
          have HB := n7_
          clear n0_ n1_ n2_ n3_ n4_ n5_ n6_ n7_
          (try clear hb)
          (try clear hb2)
          (try clear hk)
          (try clear hi)
          refine hK.out _ _ ⟨(YI BK284.out 0).trans rfl, (YI BK284.out 1).trans rfl, (YI BK284.out 2).trans rfl, (YI BK284.out 3).trans rfl, (YI BK284.out 4).trans rfl, (YI BK284.out 5).trans rfl, (YI BK285.out 0).trans rfl, (YI BK285.out 1).trans rfl, (YI BK285.out 2).trans rfl, (YI BK285.out 3).trans rfl, (YI BK285.out 4).trans rfl, (YI BK285.out 5).trans rfl, (YI BK286.out 0).trans rfl, (YI BK286.out 1).trans rfl, (YI BK286.out 2).trans rfl⟩ (fun hHeld => ?_)
          clear hK K
          refine norm_ (a' := ?_) ?_ ?_
          rotate_left
          · show Act.put _ (some 74) _ = _
            simp only [Act.put, YL, YM, YN, i64_w, i32_w]
            rfl
          refine pure_ (i := 31) (N := some 75) (v := ?_) (a' := ?_) #[true, true, true, true, true, true, true, true, true, true, true, true, true, true, true, true, true, true, true, true, true, true, true, true, true, true, true, true, true, true, true, true, false, false] rfl rfl (any_of HT_.out (by kernel_rfl)) (fun _ _ _ h => h) (Or.inl ⟨by rfl, ?_⟩) ?_ ?_
          rotate_left
          · intro w'
            go_simp
            with_reducible rfl
          rotate_left
          · simp only [Act.put, YL, YM, YN, i64_w, i32_w]
            rfl
          refine pure_ (i := 32) (N := some 76) (v := ?_) (a' := ?_) #[true, true, true, true, true, true, true, true, true, true, true, true, true, true, true, true, true, true, true, true, true, true, true, true, true, true, true, true, true, true, true, true, true, false] rfl rfl (any_of HT_.out (by kernel_rfl)) (fun _ _ _ h => h) (Or.inl ⟨by rfl, ?_⟩) ?_ ?_
          rotate_left
          · intro w'
            go_simp
            with_reducible rfl
          rotate_left
          · simp only [Act.put, YL, YM, YN, i64_w, i32_w]
            rfl
          refine pure_ (i := 33) (N := some 19) (v := ?_) (a' := ?_) #[true, true, true, true, true, true, true, true, true, true, true, true, true, true, true, true, true, true, true, true, true, true, true, true, true, true, true, true, true, true, true, true, true, true] rfl rfl (any_of HT_.out (by kernel_rfl)) (fun _ _ _ h => h) (Or.inl ⟨by rfl, ?_⟩) ?_ ?_
          rotate_left
          · intro w'
            go_simp
            with_reducible rfl
          rotate_left
          · simp only [Act.put, YL, YM, YN, i64_w, i32_w]
            rfl
          refine done_ (done_of HT_.out (by kernel_rfl)) ?_
          try go_wp2
          go_meet
          case rel => exact ⟨_, ((t324 == t328)), (by first | rfl | (simp; done) | (simp [*]; done)), H', ⟨by first | omega | exact Nat.le_refl _⟩, ⟨by (with_reducible repeat (first | apply YR | apply YS | apply YT)); exact Kd.R_mono HO305.out (fun _ hk => by first | exact hk.2 | exact trivial | simp_all)⟩, ⟨by (with_reducible repeat (first | apply YR | apply YS | apply YT)); exact Kd.R_mono HO309.out (fun _ hk => by first | exact hk.2 | exact trivial | simp_all)⟩, ⟨by (with_reducible repeat (first | refine YF ?_ _ | refine YG ?_ | refine YH ?_ _)); exact BK284.out⟩, ⟨by (with_reducible repeat (first | refine YF ?_ _ | refine YG ?_ | refine YH ?_ _)); exact BK285.out⟩, ⟨by (with_reducible repeat (first | refine YF ?_ _ | refine YG ?_ | refine YH ?_ _)); exact BK286.out⟩, ⟨by (with_reducible repeat (first | refine YF ?_ _ | refine YG ?_ | refine YH ?_ _)); exact BK294.out⟩, ⟨by (with_reducible repeat (first | refine YF ?_ _ | refine YG ?_ | refine YH ?_ _)); exact BK302.out⟩, ⟨by repeat (first | (with_reducible first | exact HB.out | apply YA | apply YB | apply YC | refine below_set ?_ GE284.out | refine below_set ?_ GE285.out | refine below_set ?_ GE286.out | refine below_set ?_ GE294.out | refine below_set ?_ GE302.out) | exact HB.out)⟩⟩
        · rw [if_neg c44] at H
          have c44b0 : (t315 == t318 && (t316 == t319 && (t317 == t320))) = false := by simpa using c44
          (try (have c44b1 : decide (t315 = t318 && (t316 == t319 && (t317 == t320))) = false := by simpa using c44))
          (try (have c44b2 : (t315 == t318 && (t316 == t319 && (t317 == t320))) = false := by simpa using c44))
          (try (have c44b3 : ¬ (t315 = t318 && (t316 == t319 && (t317 == t320))) := by simpa using c44))
          clear c44
          have H' := Aside0.mk H
          clear H
          try go_wp2
          have n0_ := Aside0.mk (YT HO305.out)
          have n1_ := Aside0.mk (YT HO309.out)
          have n2_ := Aside0.mk (YG BK284.out)
          have n3_ := Aside0.mk (YG BK285.out)
          have n4_ := Aside0.mk (YG BK286.out)
          have n5_ := Aside0.mk (YG BK294.out)
          have n6_ := Aside0.mk (YG BK302.out)
          have n7_ := Aside0.mk (YC HB.out)
          clear HO305
          clear HO309
          clear BK284
          clear BK285
          clear BK286
          clear BK294
          clear BK302
          clear HB
          have HO305 := n0_
          have HO309 := n1_
          have BK284 := n2_
          have BK285 := n3_
          have BK286 := n4_
          have BK294 := n5_
          have BK302 := n6_
          have HB := n7_
          clear n0_ n1_ n2_ n3_ n4_ n5_ n6_ n7_
          refine start_ (n := 34) (S := fun w' => w'.cell? ⟨gb284, 0, none⟩ = some (.bool a0_0) ∧ w'.cell? ⟨gb284, 1, none⟩ = some (.int .i64 a0_1) ∧ w'.cell? ⟨gb284, 2, none⟩ = some (.int .i64 a0_2) ∧ w'.cell? ⟨gb284, 3, none⟩ = some (.int .i64 a0_3) ∧ w'.cell? ⟨gb284, 4, none⟩ = some (.int .i64 a0_4) ∧ w'.cell? ⟨gb284, 5, none⟩ = some (.int .i64 a0_5) ∧ w'.cell? ⟨gb285, 0, none⟩ = some (.bool a1_0) ∧ w'.cell? ⟨gb285, 1, none⟩ = some (.int .i64 a1_1) ∧ w'.cell? ⟨gb285, 2, none⟩ = some (.int .i64 a1_2) ∧ w'.cell? ⟨gb285, 3, none⟩ = some (.int .i64 a1_3) ∧ w'.cell? ⟨gb285, 4, none⟩ = some (.int .i64 a1_4) ∧ w'.cell? ⟨gb285, 5, none⟩ = some (.int .i64 a1_5)) (ds := []) #[false, false, false, false, false, false, false, false, false, false, false, false, false, false, false, false, false, false, false, false, false, false, false, false, false, false, false, false, false, false, false, false, false, false] (by kernel_rfl) rfl rfl ⟨(YI BK284.out 0).trans rfl, (YI BK284.out 1).trans rfl, (YI BK284.out 2).trans rfl, (YI BK284.out 3).trans rfl, (YI BK284.out 4).trans rfl, (YI BK284.out 5).trans rfl, (YI BK285.out 0).trans rfl, (YI BK285.out 1).trans rfl, (YI BK285.out 2).trans rfl, (YI BK285.out 3).trans rfl, (YI BK285.out 4).trans rfl, (YI BK285.out 5).trans rfl⟩ (fun hHeld => ?_); refine with_tabW thalweglaw02_HeightDoes.tab5 thalweglaw02_HeightDoes.bits5 (fun HT_ HW_ => ?_)
          generalize w35.drew = w60 at HO305 HO309 BK284 BK285 BK286 BK294 BK302 HB hHeld ⊢
          refine take_ (i := 0) (N := some 44) (v := ?_) (a' := ?_) #[true, false, false, false, false, false, false, false, false, false, false, false, false, false, false, false, false, false, false, false, false, false, false, false, false, false, false, false, false, false, false, false, false, false] rfl rfl (take_ofW HT_.out HW_.out (by kernel_rfl)) (fun _ _ _ h => h) (Or.inl ⟨by rfl, ?_⟩) hHeld ?_ ?_
          rotate_left
          · rintro w' ⟨s0, s1, s2, s3, s4, s5, s6, s7, s8, s9, s10, s11⟩
            go_simp
            with_reducible rfl
          rotate_left
          · simp only [Act.put, YL, YM, YN, i64_w, i32_w]
            rfl
          refine take_ (i := 3) (N := some 47) (v := ?_) (a' := ?_) #[true, false, false, true, false, false, false, false, false, false, false, false, false, false, false, false, false, false, false, false, false, false, false, false, false, false, false, false, false, false, false, false, false, false] rfl rfl (take_ofW HT_.out HW_.out (by kernel_rfl)) (fun _ _ _ h => h) (Or.inl ⟨by rfl, ?_⟩) hHeld ?_ ?_
          rotate_left
          · rintro w' ⟨s0, s1, s2, s3, s4, s5, s6, s7, s8, s9, s10, s11⟩
            go_simp
            with_reducible rfl
          rotate_left
          · simp only [Act.put, YL, YM, YN, i64_w, i32_w]
            rfl
          refine one_ (i := 1) (N := some 45) #[true, true, false, true, false, false, false, false, false, false, false, false, false, false, false, false, false, false, false, false, false, false, false, false, false, false, false, false, false, false, false, false, false, false] rfl rfl (one_of HT_.out (by kernel_rfl)) (by decide) (fun K hK => ?_)
          refine goes_ Try.func12 (by kernel_rfl) rfl #[.agg #[.bool a0_0, .int .i64 a0_1, .int .i64 a0_2, .int .i64 a0_3, .int .i64 a0_4, .int .i64 a0_5]] (by rfl) rfl rfl (by (try simp only [YO, List.map_cons, List.map_nil]); first | done | rfl | (simp only [YQ, YP]; rfl)) ?_
          with_reducible refine (height_Check.calls k a0_0 a0_1 a0_2 a0_3 a0_4 a0_5 t311 _ A36.out).mono ?_
          rintro e w61 ⟨rfl, hb⟩
          refine ⟨_, rfl, ?_⟩
          have n0_ := Aside0.mk (YU (by (with_reducible repeat (first | apply YR | apply YS | apply YT)); exact HO305.out) hb)
          have n1_ := Aside0.mk (YU (by (with_reducible repeat (first | apply YR | apply YS | apply YT)); exact HO309.out) hb)
          have n2_ := Aside0.mk (YK (g := gb284) (o := .cells #[.bool a0_0, .int .i64 a0_1, .int .i64 a0_2, .int .i64 a0_3, .int .i64 a0_4, .int .i64 a0_5] 23 (0, 0)) (by (with_reducible repeat (first | refine YF ?_ _ | refine YG ?_ | refine YH ?_ _)); exact BK284.out) hb)
          have n3_ := Aside0.mk (YK (g := gb285) (o := .cells #[.bool a1_0, .int .i64 a1_1, .int .i64 a1_2, .int .i64 a1_3, .int .i64 a1_4, .int .i64 a1_5] 23 (0, 0)) (by (with_reducible repeat (first | refine YF ?_ _ | refine YG ?_ | refine YH ?_ _)); exact BK285.out) hb)
          have n4_ := Aside0.mk (YK (g := gb286) (o := .cells #[.int .i64 a2_0, .int .i64 a2_1, .int .i64 a2_2] 25 (0, 0)) (by (with_reducible repeat (first | refine YF ?_ _ | refine YG ?_ | refine YH ?_ _)); exact BK286.out) hb)
          have n5_ := Aside0.mk (YK (g := gb294) (o := .cells #[.bool t287, .int .i64 t288, .int .i64 t289, .int .i64 t290, .int .i64 t291, .int .i64 t292] 23 (0, 0)) (by (with_reducible repeat (first | refine YF ?_ _ | refine YG ?_ | refine YH ?_ _)); exact BK294.out) hb)
          have n6_ := Aside0.mk (YK (g := gb302) (o := .cells #[.bool t295, .int .i64 t296, .int .i64 t297, .int .i64 t298, .int .i64 t299, .int .i64 t300] 23 (0, 0)) (by (with_reducible repeat (first | refine YF ?_ _ | refine YG ?_ | refine YH ?_ _)); exact BK302.out) hb)
          have n7_ := Aside0.mk (YD (by repeat (first | (with_reducible first | exact HB.out | apply YA | apply YB | apply YC | refine below_set ?_ GE284.out | refine below_set ?_ GE285.out | refine below_set ?_ GE286.out | refine below_set ?_ GE294.out | refine below_set ?_ GE302.out) | exact HB.out)) hb)
          clear HO305
          clear HO309
          clear BK284
          clear BK285
          clear BK286
          clear BK294
          clear BK302
          clear HB
          have HO305 := n0_
          have HO309 := n1_
          have BK284 := n2_
          have BK285 := n3_
          have BK286 := n4_
          have BK294 := n5_
          have BK302 := n6_
          have HB := n7_
          clear n0_ n1_ n2_ n3_ n4_ n5_ n6_ n7_
          (try clear hb)
          (try clear hb2)
          (try clear hk)
          (try clear hi)
          refine hK.out _ _ ⟨(YI BK284.out 0).trans rfl, (YI BK284.out 1).trans rfl, (YI BK284.out 2).trans rfl, (YI BK284.out 3).trans rfl, (YI BK284.out 4).trans rfl, (YI BK284.out 5).trans rfl, (YI BK285.out 0).trans rfl, (YI BK285.out 1).trans rfl, (YI BK285.out 2).trans rfl, (YI BK285.out 3).trans rfl, (YI BK285.out 4).trans rfl, (YI BK285.out 5).trans rfl⟩ (fun hHeld => ?_)
          clear hK K
          refine norm_ (a' := ?_) ?_ ?_
          rotate_left
          · show Act.put _ (some 45) _ = _
            simp only [Act.put, YL, YM, YN, i64_w, i32_w]
            rfl
          refine pure_ (i := 2) (N := some 46) (v := ?_) (a' := ?_) #[true, true, true, true, false, false, false, false, false, false, false, false, false, false, false, false, false, false, false, false, false, false, false, false, false, false, false, false, false, false, false, false, false, false] rfl rfl (any_of HT_.out (by kernel_rfl)) (fun _ _ _ h => h) (Or.inl ⟨by rfl, ?_⟩) ?_ ?_
          rotate_left
          · intro w'
            go_simp
            with_reducible rfl
          rotate_left
          · simp only [Act.put, YL, YM, YN, i64_w, i32_w]
            rfl
          refine one_ (i := 4) (N := some 48) #[true, true, true, true, true, false, false, false, false, false, false, false, false, false, false, false, false, false, false, false, false, false, false, false, false, false, false, false, false, false, false, false, false, false] rfl rfl (one_of HT_.out (by kernel_rfl)) (by decide) (fun K hK => ?_)
          refine goes_ Try.func13 (by kernel_rfl) rfl #[.agg #[.bool a0_0, .int .i64 a0_1, .int .i64 a0_2, .int .i64 a0_3, .int .i64 a0_4, .int .i64 a0_5]] (by rfl) rfl rfl (by (try simp only [YO, List.map_cons, List.map_nil]); first | done | rfl | (simp only [YQ, YP]; rfl)) ?_
          with_reducible refine (thalwegref02_Right.calls k a0_0 a0_1 a0_2 a0_3 a0_4 a0_5 t312 _ A37.out).mono ?_
          rintro e w62 ⟨rfl, hb⟩
          refine ⟨_, rfl, ?_⟩
          have n0_ := Aside0.mk (YU (by (with_reducible repeat (first | apply YR | apply YS | apply YT)); exact HO305.out) hb)
          have n1_ := Aside0.mk (YU (by (with_reducible repeat (first | apply YR | apply YS | apply YT)); exact HO309.out) hb)
          have n2_ := Aside0.mk (YK (g := gb284) (o := .cells #[.bool a0_0, .int .i64 a0_1, .int .i64 a0_2, .int .i64 a0_3, .int .i64 a0_4, .int .i64 a0_5] 23 (0, 0)) (by (with_reducible repeat (first | refine YF ?_ _ | refine YG ?_ | refine YH ?_ _)); exact BK284.out) hb)
          have n3_ := Aside0.mk (YK (g := gb285) (o := .cells #[.bool a1_0, .int .i64 a1_1, .int .i64 a1_2, .int .i64 a1_3, .int .i64 a1_4, .int .i64 a1_5] 23 (0, 0)) (by (with_reducible repeat (first | refine YF ?_ _ | refine YG ?_ | refine YH ?_ _)); exact BK285.out) hb)
          have n4_ := Aside0.mk (YK (g := gb286) (o := .cells #[.int .i64 a2_0, .int .i64 a2_1, .int .i64 a2_2] 25 (0, 0)) (by (with_reducible repeat (first | refine YF ?_ _ | refine YG ?_ | refine YH ?_ _)); exact BK286.out) hb)
          have n5_ := Aside0.mk (YK (g := gb294) (o := .cells #[.bool t287, .int .i64 t288, .int .i64 t289, .int .i64 t290, .int .i64 t291, .int .i64 t292] 23 (0, 0)) (by (with_reducible repeat (first | refine YF ?_ _ | refine YG ?_ | refine YH ?_ _)); exact BK294.out) hb)
          have n6_ := Aside0.mk (YK (g := gb302) (o := .cells #[.bool t295, .int .i64 t296, .int .i64 t297, .int .i64 t298, .int .i64 t299, .int .i64 t300] 23 (0, 0)) (by (with_reducible repeat (first | refine YF ?_ _ | refine YG ?_ | refine YH ?_ _)); exact BK302.out) hb)
          have n7_ := Aside0.mk (YD (by repeat (first | (with_reducible first | exact HB.out | apply YA | apply YB | apply YC | refine below_set ?_ GE284.out | refine below_set ?_ GE285.out | refine below_set ?_ GE286.out | refine below_set ?_ GE294.out | refine below_set ?_ GE302.out) | exact HB.out)) hb)
          clear HO305
          clear HO309
          clear BK284
          clear BK285
          clear BK286
          clear BK294
          clear BK302
          clear HB
          have HO305 := n0_
          have HO309 := n1_
          have BK284 := n2_
          have BK285 := n3_
          have BK286 := n4_
          have BK294 := n5_
          have BK302 := n6_
          have HB := n7_
          clear n0_ n1_ n2_ n3_ n4_ n5_ n6_ n7_
          (try clear hb)
          (try clear hb2)
          (try clear hk)
          (try clear hi)
          refine hK.out _ _ ⟨(YI BK284.out 0).trans rfl, (YI BK284.out 1).trans rfl, (YI BK284.out 2).trans rfl, (YI BK284.out 3).trans rfl, (YI BK284.out 4).trans rfl, (YI BK284.out 5).trans rfl, (YI BK285.out 0).trans rfl, (YI BK285.out 1).trans rfl, (YI BK285.out 2).trans rfl, (YI BK285.out 3).trans rfl, (YI BK285.out 4).trans rfl, (YI BK285.out 5).trans rfl⟩ (fun hHeld => ?_)
          clear hK K
          refine norm_ (a' := ?_) ?_ ?_
          rotate_left
          · show Act.put _ (some 48) _ = _
            simp only [Act.put, YL, YM, YN, i64_w, i32_w]
            rfl
          refine pure_ (i := 5) (N := some 49) (v := ?_) (a' := ?_) #[true, true, true, true, true, true, false, false, false, false, false, false, false, false, false, false, false, false, false, false, false, false, false, false, false, false, false, false, false, false, false, false, false, false] rfl rfl (any_of HT_.out (by kernel_rfl)) (fun _ _ _ h => h) (Or.inl ⟨by rfl, ?_⟩) ?_ ?_
          rotate_left
          · intro w'
            go_simp
            with_reducible rfl
          rotate_left
          · simp only [Act.put, YL, YM, YN, i64_w, i32_w]
            rfl
          refine pure_ (i := 6) (N := some 50) (v := ?_) (a' := ?_) #[true, true, true, true, true, true, true, false, false, false, false, false, false, false, false, false, false, false, false, false, false, false, false, false, false, false, false, false, false, false, false, false, false, false] rfl rfl (any_of HT_.out (by kernel_rfl)) (fun _ _ _ h => h) (Or.inl ⟨by rfl, ?_⟩) ?_ ?_
          rotate_left
          · intro w'
            go_simp
            with_reducible rfl
          rotate_left
          · simp only [Act.put, YL, YM, YN, i64_w, i32_w]
            rfl
          refine take_ (i := 7) (N := some 51) (v := ?_) (a' := ?_) #[true, true, true, true, true, true, true, true, false, false, false, false, false, false, false, false, false, false, false, false, false, false, false, false, false, false, false, false, false, false, false, false, false, false] rfl rfl (take_ofW HT_.out HW_.out (by kernel_rfl)) (fun _ _ _ h => h) (Or.inl ⟨by rfl, ?_⟩) hHeld ?_ ?_
          rotate_left
          · rintro w' ⟨s0, s1, s2, s3, s4, s5, s6, s7, s8, s9, s10, s11⟩
            go_simp
            with_reducible rfl
          rotate_left
          · simp only [Act.put, YL, YM, YN, i64_w, i32_w]
            rfl
          refine take_ (i := 8) (N := some 52) (v := ?_) (a' := ?_) #[true, true, true, true, true, true, true, true, true, false, false, false, false, false, false, false, false, false, false, false, false, false, false, false, false, false, false, false, false, false, false, false, false, false] rfl rfl (take_ofW HT_.out HW_.out (by kernel_rfl)) (fun _ _ _ h => h) (Or.inl ⟨by rfl, ?_⟩) hHeld ?_ ?_
          rotate_left
          · rintro w' ⟨s0, s1, s2, s3, s4, s5, s6, s7, s8, s9, s10, s11⟩
            go_simp
            with_reducible rfl
          rotate_left
          · simp only [Act.put, YL, YM, YN, i64_w, i32_w]
            rfl
          refine take_ (i := 10) (N := some 54) (v := ?_) (a' := ?_) #[true, true, true, true, true, true, true, true, true, false, true, false, false, false, false, false, false, false, false, false, false, false, false, false, false, false, false, false, false, false, false, false, false, false] rfl rfl (take_ofW HT_.out HW_.out (by kernel_rfl)) (fun _ _ _ h => h) (Or.inl ⟨by rfl, ?_⟩) hHeld ?_ ?_
          rotate_left
          · rintro w' ⟨s0, s1, s2, s3, s4, s5, s6, s7, s8, s9, s10, s11⟩
            go_simp
            with_reducible rfl
          rotate_left
          · simp only [Act.put, YL, YM, YN, i64_w, i32_w]
            rfl
          refine take_ (i := 11) (N := some 55) (v := ?_) (a' := ?_) #[true, true, true, true, true, true, true, true, true, false, true, true, false, false, false, false, false, false, false, false, false, false, false, false, false, false, false, false, false, false, false, false, false, false] rfl rfl (take_ofW HT_.out HW_.out (by kernel_rfl)) (fun _ _ _ h => h) (Or.inl ⟨by rfl, ?_⟩) hHeld ?_ ?_
          rotate_left
          · rintro w' ⟨s0, s1, s2, s3, s4, s5, s6, s7, s8, s9, s10, s11⟩
            go_simp
            with_reducible rfl
          rotate_left
          · simp only [Act.put, YL, YM, YN, i64_w, i32_w]
            rfl
          refine one_ (i := 9) (N := some 53) #[true, true, true, true, true, true, true, true, true, true, true, true, false, false, false, false, false, false, false, false, false, false, false, false, false, false, false, false, false, false, false, false, false, false] rfl rfl (one_of HT_.out (by kernel_rfl)) (by decide) (fun K hK => ?_)
          refine goes_ Try.func14 (by kernel_rfl) rfl #[.agg #[.bool a0_0, .int .i64 a0_1, .int .i64 a0_2, .int .i64 a0_3, .int .i64 a0_4, .int .i64 a0_5], .agg #[.bool a1_0, .int .i64 a1_1, .int .i64 a1_2, .int .i64 a1_3, .int .i64 a1_4, .int .i64 a1_5]] (by rfl) rfl rfl (by (try simp only [YO, List.map_cons, List.map_nil]); first | done | rfl | (simp only [YQ, YP]; rfl)) ?_
          with_reducible refine (height_Less.calls k a0_0 a0_1 a0_2 a0_3 a0_4 a0_5 a1_0 a1_1 a1_2 a1_3 a1_4 a1_5 t313 _ A39.out).mono ?_
          rintro e w63 ⟨rfl, hb⟩
          refine ⟨_, rfl, ?_⟩
          have n0_ := Aside0.mk (YU (by (with_reducible repeat (first | apply YR | apply YS | apply YT)); exact HO305.out) hb)
          have n1_ := Aside0.mk (YU (by (with_reducible repeat (first | apply YR | apply YS | apply YT)); exact HO309.out) hb)
          have n2_ := Aside0.mk (YK (g := gb284) (o := .cells #[.bool a0_0, .int .i64 a0_1, .int .i64 a0_2, .int .i64 a0_3, .int .i64 a0_4, .int .i64 a0_5] 23 (0, 0)) (by (with_reducible repeat (first | refine YF ?_ _ | refine YG ?_ | refine YH ?_ _)); exact BK284.out) hb)
          have n3_ := Aside0.mk (YK (g := gb285) (o := .cells #[.bool a1_0, .int .i64 a1_1, .int .i64 a1_2, .int .i64 a1_3, .int .i64 a1_4, .int .i64 a1_5] 23 (0, 0)) (by (with_reducible repeat (first | refine YF ?_ _ | refine YG ?_ | refine YH ?_ _)); exact BK285.out) hb)
          have n4_ := Aside0.mk (YK (g := gb286) (o := .cells #[.int .i64 a2_0, .int .i64 a2_1, .int .i64 a2_2] 25 (0, 0)) (by (with_reducible repeat (first | refine YF ?_ _ | refine YG ?_ | refine YH ?_ _)); exact BK286.out) hb)
          have n5_ := Aside0.mk (YK (g := gb294) (o := .cells #[.bool t287, .int .i64 t288, .int .i64 t289, .int .i64 t290, .int .i64 t291, .int .i64 t292] 23 (0, 0)) (by (with_reducible repeat (first | refine YF ?_ _ | refine YG ?_ | refine YH ?_ _)); exact BK294.out) hb)
          have n6_ := Aside0.mk (YK (g := gb302) (o := .cells #[.bool t295, .int .i64 t296, .int .i64 t297, .int .i64 t298, .int .i64 t299, .int .i64 t300] 23 (0, 0)) (by (with_reducible repeat (first | refine YF ?_ _ | refine YG ?_ | refine YH ?_ _)); exact BK302.out) hb)
          have n7_ := Aside0.mk (YD (by repeat (first | (with_reducible first | exact HB.out | apply YA | apply YB | apply YC | refine below_set ?_ GE284.out | refine below_set ?_ GE285.out | refine below_set ?_ GE286.out | refine below_set ?_ GE294.out | refine below_set ?_ GE302.out) | exact HB.out)) hb)
          clear HO305
          clear HO309
          clear BK284
          clear BK285
          clear BK286
          clear BK294
          clear BK302
          clear HB
          have HO305 := n0_
          have HO309 := n1_
          have BK284 := n2_
          have BK285 := n3_
          have BK286 := n4_
          have BK294 := n5_
          have BK302 := n6_
          have HB := n7_
          clear n0_ n1_ n2_ n3_ n4_ n5_ n6_ n7_
          (try clear hb)
          (try clear hb2)
          (try clear hk)
          (try clear hi)
          refine hK.out _ _ ⟨(YI BK284.out 0).trans rfl, (YI BK284.out 1).trans rfl, (YI BK284.out 2).trans rfl, (YI BK284.out 3).trans rfl, (YI BK284.out 4).trans rfl, (YI BK284.out 5).trans rfl, (YI BK285.out 0).trans rfl, (YI BK285.out 1).trans rfl, (YI BK285.out 2).trans rfl, (YI BK285.out 3).trans rfl, (YI BK285.out 4).trans rfl, (YI BK285.out 5).trans rfl⟩ (fun hHeld => ?_)
          clear hK K
          refine norm_ (a' := ?_) ?_ ?_
          rotate_left
          · show Act.put _ (some 53) _ = _
            simp only [Act.put, YL, YM, YN, i64_w, i32_w]
            rfl
          refine one_ (i := 12) (N := some 56) #[true, true, true, true, true, true, true, true, true, true, true, true, true, false, false, false, false, false, false, false, false, false, false, false, false, false, false, false, false, false, false, false, false, false] rfl rfl (one_of HT_.out (by kernel_rfl)) (by decide) (fun K hK => ?_)
          refine goes_ Try.func15 (by kernel_rfl) rfl #[.agg #[.bool a0_0, .int .i64 a0_1, .int .i64 a0_2, .int .i64 a0_3, .int .i64 a0_4, .int .i64 a0_5], .agg #[.bool a1_0, .int .i64 a1_1, .int .i64 a1_2, .int .i64 a1_3, .int .i64 a1_4, .int .i64 a1_5]] (by rfl) rfl rfl (by (try simp only [YO, List.map_cons, List.map_nil]); first | done | rfl | (simp only [YQ, YP]; rfl)) ?_
          with_reducible refine (thalwegref02_Less.calls k a0_0 a0_1 a0_2 a0_3 a0_4 a0_5 a1_0 a1_1 a1_2 a1_3 a1_4 a1_5 t314 _ A40.out).mono ?_
          rintro e w64 ⟨rfl, hb⟩
          refine ⟨_, rfl, ?_⟩
          have n0_ := Aside0.mk (YU (by (with_reducible repeat (first | apply YR | apply YS | apply YT)); exact HO305.out) hb)
          have n1_ := Aside0.mk (YU (by (with_reducible repeat (first | apply YR | apply YS | apply YT)); exact HO309.out) hb)
          have n2_ := Aside0.mk (YK (g := gb284) (o := .cells #[.bool a0_0, .int .i64 a0_1, .int .i64 a0_2, .int .i64 a0_3, .int .i64 a0_4, .int .i64 a0_5] 23 (0, 0)) (by (with_reducible repeat (first | refine YF ?_ _ | refine YG ?_ | refine YH ?_ _)); exact BK284.out) hb)
          have n3_ := Aside0.mk (YK (g := gb285) (o := .cells #[.bool a1_0, .int .i64 a1_1, .int .i64 a1_2, .int .i64 a1_3, .int .i64 a1_4, .int .i64 a1_5] 23 (0, 0)) (by (with_reducible repeat (first | refine YF ?_ _ | refine YG ?_ | refine YH ?_ _)); exact BK285.out) hb)
          have n4_ := Aside0.mk (YK (g := gb286) (o := .cells #[.int .i64 a2_0, .int .i64 a2_1, .int .i64 a2_2] 25 (0, 0)) (by (with_reducible repeat (first | refine YF ?_ _ | refine YG ?_ | refine YH ?_ _)); exact BK286.out) hb)
          have n5_ := Aside0.mk (YK (g := gb294) (o := .cells #[.bool t287, .int .i64 t288, .int .i64 t289, .int .i64 t290, .int .i64 t291, .int .i64 t292] 23 (0, 0)) (by (with_reducible repeat (first | refine YF ?_ _ | refine YG ?_ | refine YH ?_ _)); exact BK294.out) hb)
          have n6_ := Aside0.mk (YK (g := gb302) (o := .cells #[.bool t295, .int .i64 t296, .int .i64 t297, .int .i64 t298, .int .i64 t299, .int .i64 t300] 23 (0, 0)) (by (with_reducible repeat (first | refine YF ?_ _ | refine YG ?_ | refine YH ?_ _)); exact BK302.out) hb)
          have n7_ := Aside0.mk (YD (by repeat (first | (with_reducible first | exact HB.out | apply YA | apply YB | apply YC | refine below_set ?_ GE284.out | refine below_set ?_ GE285.out | refine below_set ?_ GE286.out | refine below_set ?_ GE294.out | refine below_set ?_ GE302.out) | exact HB.out)) hb)
          clear HO305
          clear HO309
          clear BK284
          clear BK285
          clear BK286
          clear BK294
          clear BK302
          clear HB
          have HO305 := n0_
          have HO309 := n1_
          have BK284 := n2_
          have BK285 := n3_
          have BK286 := n4_
          have BK294 := n5_
          have BK302 := n6_
          have HB := n7_
          clear n0_ n1_ n2_ n3_ n4_ n5_ n6_ n7_
          (try clear hb)
          (try clear hb2)
          (try clear hk)
          (try clear hi)
          refine hK.out _ _ ⟨(YI BK284.out 0).trans rfl, (YI BK284.out 1).trans rfl, (YI BK284.out 2).trans rfl, (YI BK284.out 3).trans rfl, (YI BK284.out 4).trans rfl, (YI BK284.out 5).trans rfl, (YI BK285.out 0).trans rfl, (YI BK285.out 1).trans rfl, (YI BK285.out 2).trans rfl, (YI BK285.out 3).trans rfl, (YI BK285.out 4).trans rfl, (YI BK285.out 5).trans rfl⟩ (fun hHeld => ?_)
          clear hK K
          refine norm_ (a' := ?_) ?_ ?_
          rotate_left
          · show Act.put _ (some 56) _ = _
            simp only [Act.put, YL, YM, YN, i64_w, i32_w]
            rfl
          refine pure_ (i := 13) (N := some 57) (v := ?_) (a' := ?_) #[true, true, true, true, true, true, true, true, true, true, true, true, true, true, false, false, false, false, false, false, false, false, false, false, false, false, false, false, false, false, false, false, false, false] rfl rfl (any_of HT_.out (by kernel_rfl)) (fun _ _ _ h => h) (Or.inl ⟨by rfl, ?_⟩) ?_ ?_
          rotate_left
          · intro w'
            go_simp
            with_reducible rfl
          rotate_left
          · simp only [Act.put, YL, YM, YN, i64_w, i32_w]
            rfl
          refine pure_ (i := 14) (N := some 58) (v := ?_) (a' := ?_) #[true, true, true, true, true, true, true, true, true, true, true, true, true, true, true, false, false, false, false, false, false, false, false, false, false, false, false, false, false, false, false, false, false, false] rfl rfl (any_of HT_.out (by kernel_rfl)) (fun _ _ _ h => h) (Or.inl ⟨by rfl, ?_⟩) ?_ ?_
          rotate_left
          · intro w'
            go_simp
            with_reducible rfl
          rotate_left
          · simp only [Act.put, YL, YM, YN, i64_w, i32_w]
            rfl
          refine pure_ (i := 15) (N := some 59) (v := ?_) (a' := ?_) #[true, true, true, true, true, true, true, true, true, true, true, true, true, true, true, true, false, false, false, false, false, false, false, false, false, false, false, false, false, false, false, false, false, false] rfl rfl (any_of HT_.out (by kernel_rfl)) (fun _ _ _ h => h) (Or.inl ⟨by rfl, ?_⟩) ?_ ?_
          rotate_left
          · intro w'
            go_simp
            with_reducible rfl
          rotate_left
          · simp only [Act.put, YL, YM, YN, i64_w, i32_w]
            rfl
          refine take_ (i := 16) (N := some 60) (v := ?_) (a' := ?_) #[true, true, true, true, true, true, true, true, true, true, true, true, true, true, true, true, true, false, false, false, false, false, false, false, false, false, false, false, false, false, false, false, false, false] rfl rfl (take_ofW HT_.out HW_.out (by kernel_rfl)) (fun _ _ _ h => h) (Or.inl ⟨by rfl, ?_⟩) hHeld ?_ ?_
          rotate_left
          · rintro w' ⟨s0, s1, s2, s3, s4, s5, s6, s7, s8, s9, s10, s11⟩
            go_simp
            with_reducible rfl
          rotate_left
          · simp only [Act.put, YL, YM, YN, i64_w, i32_w]
            rfl
          refine take_ (i := 18) (N := some 62) (v := ?_) (a' := ?_) #[true, true, true, true, true, true, true, true, true, true, true, true, true, true, true, true, true, false, true, false, false, false, false, false, false, false, false, false, false, false, false, false, false, false] rfl rfl (take_ofW HT_.out HW_.out (by kernel_rfl)) (fun _ _ _ h => h) (Or.inl ⟨by rfl, ?_⟩) hHeld ?_ ?_
          rotate_left
          · rintro w' ⟨s0, s1, s2, s3, s4, s5, s6, s7, s8, s9, s10, s11⟩
            go_simp
            with_reducible rfl
          rotate_left
          · simp only [Act.put, YL, YM, YN, i64_w, i32_w]
            rfl
          refine one_ (i := 17) (N := some 61) #[true, true, true, true, true, true, true, true, true, true, true, true, true, true, true, true, true, true, true, false, false, false, false, false, false, false, false, false, false, false, false, false, false, false] rfl rfl (one_of HT_.out (by kernel_rfl)) (by decide) (fun K hK => ?_)
          refine goes_ Try.func16 (by kernel_rfl) rfl #[.agg #[.bool a0_0, .int .i64 a0_1, .int .i64 a0_2, .int .i64 a0_3, .int .i64 a0_4, .int .i64 a0_5]] (by rfl) rfl rfl (by (try simp only [YO, List.map_cons, List.map_nil]); first | done | rfl | (simp only [YQ, YP]; rfl)) ?_
          with_reducible refine (height_Level.calls k a0_0 a0_1 a0_2 a0_3 a0_4 a0_5 t315 t316 t317 _ A42.out).mono ?_
          rintro e w65 ⟨rfl, hb⟩
          refine ⟨_, rfl, ?_⟩
          have n0_ := Aside0.mk (YU (by (with_reducible repeat (first | apply YR | apply YS | apply YT)); exact HO305.out) hb)
          have n1_ := Aside0.mk (YU (by (with_reducible repeat (first | apply YR | apply YS | apply YT)); exact HO309.out) hb)
          have n2_ := Aside0.mk (YK (g := gb284) (o := .cells #[.bool a0_0, .int .i64 a0_1, .int .i64 a0_2, .int .i64 a0_3, .int .i64 a0_4, .int .i64 a0_5] 23 (0, 0)) (by (with_reducible repeat (first | refine YF ?_ _ | refine YG ?_ | refine YH ?_ _)); exact BK284.out) hb)
          have n3_ := Aside0.mk (YK (g := gb285) (o := .cells #[.bool a1_0, .int .i64 a1_1, .int .i64 a1_2, .int .i64 a1_3, .int .i64 a1_4, .int .i64 a1_5] 23 (0, 0)) (by (with_reducible repeat (first | refine YF ?_ _ | refine YG ?_ | refine YH ?_ _)); exact BK285.out) hb)
          have n4_ := Aside0.mk (YK (g := gb286) (o := .cells #[.int .i64 a2_0, .int .i64 a2_1, .int .i64 a2_2] 25 (0, 0)) (by (with_reducible repeat (first | refine YF ?_ _ | refine YG ?_ | refine YH ?_ _)); exact BK286.out) hb)
          have n5_ := Aside0.mk (YK (g := gb294) (o := .cells #[.bool t287, .int .i64 t288, .int .i64 t289, .int .i64 t290, .int .i64 t291, .int .i64 t292] 23 (0, 0)) (by (with_reducible repeat (first | refine YF ?_ _ | refine YG ?_ | refine YH ?_ _)); exact BK294.out) hb)
          have n6_ := Aside0.mk (YK (g := gb302) (o := .cells #[.bool t295, .int .i64 t296, .int .i64 t297, .int .i64 t298, .int .i64 t299, .int .i64 t300] 23 (0, 0)) (by (with_reducible repeat (first | refine YF ?_ _ | refine YG ?_ | refine YH ?_ _)); exact BK302.out) hb)
          have n7_ := Aside0.mk (YD (by repeat (first | (with_reducible first | exact HB.out | apply YA | apply YB | apply YC | refine below_set ?_ GE284.out | refine below_set ?_ GE285.out | refine below_set ?_ GE286.out | refine below_set ?_ GE294.out | refine below_set ?_ GE302.out) | exact HB.out)) hb)
          clear HO305
          clear HO309
          clear BK284
          clear BK285
          clear BK286
          clear BK294
          clear BK302
          clear HB
          have HO305 := n0_
          have HO309 := n1_
          have BK284 := n2_
          have BK285 := n3_
          have BK286 := n4_
          have BK294 := n5_
          have BK302 := n6_
          have HB := n7_
          clear n0_ n1_ n2_ n3_ n4_ n5_ n6_ n7_
          (try clear hb)
          (try clear hb2)
          (try clear hk)
          (try clear hi)
          refine hK.out _ _ ⟨(YI BK284.out 0).trans rfl, (YI BK284.out 1).trans rfl, (YI BK284.out 2).trans rfl, (YI BK284.out 3).trans rfl, (YI BK284.out 4).trans rfl, (YI BK284.out 5).trans rfl, (YI BK285.out 0).trans rfl, (YI BK285.out 1).trans rfl, (YI BK285.out 2).trans rfl, (YI BK285.out 3).trans rfl, (YI BK285.out 4).trans rfl, (YI BK285.out 5).trans rfl⟩ (fun hHeld => ?_)
          clear hK K
          refine norm_ (a' := ?_) ?_ ?_
          rotate_left
          · show Act.put _ (some 61) _ = _
            simp only [Act.put, YL, YM, YN, i64_w, i32_w]
            rfl
          refine one_ (i := 19) (N := some 63) #[true, true, true, true, true, true, true, true, true, true, true, true, true, true, true, true, true, true, true, true, false, false, false, false, false, false, false, false, false, false, false, false, false, false] rfl rfl (one_of HT_.out (by kernel_rfl)) (by decide) (fun K hK => ?_)
          refine goes_ Try.func17 (by kernel_rfl) rfl #[.agg #[.bool a0_0, .int .i64 a0_1, .int .i64 a0_2, .int .i64 a0_3, .int .i64 a0_4, .int .i64 a0_5]] (by rfl) rfl rfl (by (try simp only [YO, List.map_cons, List.map_nil]); first | done | rfl | (simp only [YQ, YP]; rfl)) ?_
          with_reducible refine (thalwegref02_Level.calls k a0_0 a0_1 a0_2 a0_3 a0_4 a0_5 t318 t319 t320 _ A43.out).mono ?_
          rintro e w66 ⟨rfl, hb⟩
          refine ⟨_, rfl, ?_⟩
          have n0_ := Aside0.mk (YU (by (with_reducible repeat (first | apply YR | apply YS | apply YT)); exact HO305.out) hb)
          have n1_ := Aside0.mk (YU (by (with_reducible repeat (first | apply YR | apply YS | apply YT)); exact HO309.out) hb)
          have n2_ := Aside0.mk (YK (g := gb284) (o := .cells #[.bool a0_0, .int .i64 a0_1, .int .i64 a0_2, .int .i64 a0_3, .int .i64 a0_4, .int .i64 a0_5] 23 (0, 0)) (by (with_reducible repeat (first | refine YF ?_ _ | refine YG ?_ | refine YH ?_ _)); exact BK284.out) hb)
          have n3_ := Aside0.mk (YK (g := gb285) (o := .cells #[.bool a1_0, .int .i64 a1_1, .int .i64 a1_2, .int .i64 a1_3, .int .i64 a1_4, .int .i64 a1_5] 23 (0, 0)) (by (with_reducible repeat (first | refine YF ?_ _ | refine YG ?_ | refine YH ?_ _)); exact BK285.out) hb)
          have n4_ := Aside0.mk (YK (g := gb286) (o := .cells #[.int .i64 a2_0, .int .i64 a2_1, .int .i64 a2_2] 25 (0, 0)) (by (with_reducible repeat (first | refine YF ?_ _ | refine YG ?_ | refine YH ?_ _)); exact BK286.out) hb)
          have n5_ := Aside0.mk (YK (g := gb294) (o := .cells #[.bool t287, .int .i64 t288, .int .i64 t289, .int .i64 t290, .int .i64 t291, .int .i64 t292] 23 (0, 0)) (by (with_reducible repeat (first | refine YF ?_ _ | refine YG ?_ | refine YH ?_ _)); exact BK294.out) hb)
          have n6_ := Aside0.mk (YK (g := gb302) (o := .cells #[.bool t295, .int .i64 t296, .int .i64 t297, .int .i64 t298, .int .i64 t299, .int .i64 t300] 23 (0, 0)) (by (with_reducible repeat (first | refine YF ?_ _ | refine YG ?_ | refine YH ?_ _)); exact BK302.out) hb)
          have n7_ := Aside0.mk (YD (by repeat (first | (with_reducible first | exact HB.out | apply YA | apply YB | apply YC | refine below_set ?_ GE284.out | refine below_set ?_ GE285.out | refine below_set ?_ GE286.out | refine below_set ?_ GE294.out | refine below_set ?_ GE302.out) | exact HB.out)) hb)
          clear HO305
          clear HO309
          clear BK284
          clear BK285
          clear BK286
          clear BK294
          clear BK302
          clear HB
          have HO305 := n0_
          have HO309 := n1_
          have BK284 := n2_
          have BK285 := n3_
          have BK286 := n4_
          have BK294 := n5_
          have BK302 := n6_
          have HB := n7_
          clear n0_ n1_ n2_ n3_ n4_ n5_ n6_ n7_
          (try clear hb)
          (try clear hb2)
          (try clear hk)
          (try clear hi)
          refine hK.out _ _ ⟨(YI BK284.out 0).trans rfl, (YI BK284.out 1).trans rfl, (YI BK284.out 2).trans rfl, (YI BK284.out 3).trans rfl, (YI BK284.out 4).trans rfl, (YI BK284.out 5).trans rfl, (YI BK285.out 0).trans rfl, (YI BK285.out 1).trans rfl, (YI BK285.out 2).trans rfl, (YI BK285.out 3).trans rfl, (YI BK285.out 4).trans rfl, (YI BK285.out 5).trans rfl⟩ (fun hHeld => ?_)
          clear hK K
          refine norm_ (a' := ?_) ?_ ?_
          rotate_left
          · show Act.put _ (some 63) _ = _
            simp only [Act.put, YL, YM, YN, i64_w, i32_w]
            rfl
          refine pure_ (i := 20) (N := some 64) (v := ?_) (a' := ?_) #[true, true, true, true, true, true, true, true, true, true, true, true, true, true, true, true, true, true, true, true, true, false, false, false, false, false, false, false, false, false, false, false, false, false] rfl rfl (any_of HT_.out (by kernel_rfl)) (fun _ _ _ h => h) (Or.inl ⟨by rfl, ?_⟩) ?_ ?_
          rotate_left
          · intro w'
            go_simp
            with_reducible rfl
          rotate_left
          · simp only [Act.put, YL, YM, YN, i64_w, i32_w]
            rfl
          refine pure_ (i := 21) (N := some 65) (v := ?_) (a' := ?_) #[true, true, true, true, true, true, true, true, true, true, true, true, true, true, true, true, true, true, true, true, true, true, false, false, false, false, false, false, false, false, false, false, false, false] rfl rfl (any_of HT_.out (by kernel_rfl)) (fun _ _ _ h => h) (Or.inl ⟨by rfl, ?_⟩) ?_ ?_
          rotate_left
          · intro w'
            go_simp
            with_reducible rfl
          rotate_left
          · simp only [Act.put, YL, YM, YN, i64_w, i32_w]
            rfl
          refine pure_ (i := 22) (N := some 66) (v := ?_) (a' := ?_) #[true, true, true, true, true, true, true, true, true, true, true, true, true, true, true, true, true, true, true, true, true, true, true, false, false, false, false, false, false, false, false, false, false, false] rfl rfl (any_of HT_.out (by kernel_rfl)) (fun _ _ _ h => h) (Or.inl ⟨by rfl, ?_⟩) ?_ ?_
          rotate_left
          · intro w'
            go_simp
            with_reducible rfl
          rotate_left
          · simp only [Act.put, YL, YM, YN, i64_w, i32_w]
            rfl
          refine pure_ (i := 23) (N := some 67) (v := undef) (a' := ?_) #[true, true, true, true, true, true, true, true, true, true, true, true, true, true, true, true, true, true, true, true, true, true, true, true, false, false, false, false, false, false, false, false, false, false] rfl rfl (any_of HT_.out (by kernel_rfl)) (fun _ _ _ h => h) (Or.inr ⟨by rfl, rfl⟩) ?_ ?_
          rotate_left
          · simp only [Act.put, YL, YM, YN, i64_w, i32_w]
            rfl
          refine pure_ (i := 24) (N := some 68) (v := undef) (a' := ?_) #[true, true, true, true, true, true, true, true, true, true, true, true, true, true, true, true, true, true, true, true, true, true, true, true, true, false, false, false, false, false, false, false, false, false] rfl rfl (any_of HT_.out (by kernel_rfl)) (fun _ _ _ h => h) (Or.inr ⟨by rfl, rfl⟩) ?_ ?_
          rotate_left
          · simp only [Act.put, YL, YM, YN, i64_w, i32_w]
            rfl
          refine pure_ (i := 25) (N := some 69) (v := undef) (a' := ?_) #[true, true, true, true, true, true, true, true, true, true, true, true, true, true, true, true, true, true, true, true, true, true, true, true, true, true, false, false, false, false, false, false, false, false] rfl rfl (any_of HT_.out (by kernel_rfl)) (fun _ _ _ h => h) (Or.inr ⟨by rfl, rfl⟩) ?_ ?_
          rotate_left
          · simp only [Act.put, YL, YM, YN, i64_w, i32_w]
            rfl
          refine pure_ (i := 26) (N := some 70) (v := undef) (a' := ?_) #[true, true, true, true, true, true, true, true, true, true, true, true, true, true, true, true, true, true, true, true, true, true, true, true, true, true, true, false, false, false, false, false, false, false] rfl rfl (any_of HT_.out (by kernel_rfl)) (fun _ _ _ h => h) (Or.inr ⟨by rfl, rfl⟩) ?_ ?_
          rotate_left
          · simp only [Act.put, YL, YM, YN, i64_w, i32_w]
            rfl
          refine pure_ (i := 27) (N := some 71) (v := undef) (a' := ?_) #[true, true, true, true, true, true, true, true, true, true, true, true, true, true, true, true, true, true, true, true, true, true, true, true, true, true, true, true, false, false, false, false, false, false] rfl rfl (any_of HT_.out (by kernel_rfl)) (fun _ _ _ h => h) (Or.inr ⟨by rfl, rfl⟩) ?_ ?_
          rotate_left
          · simp only [Act.put, YL, YM, YN, i64_w, i32_w]
            rfl
          refine pure_ (i := 28) (N := some 72) (v := undef) (a' := ?_) #[true, true, true, true, true, true, true, true, true, true, true, true, true, true, true, true, true, true, true, true, true, true, true, true, true, true, true, true, true, false, false, false, false, false] rfl rfl (any_of HT_.out (by kernel_rfl)) (fun _ _ _ h => h) (Or.inr ⟨by rfl, rfl⟩) ?_ ?_
          rotate_left
          · simp only [Act.put, YL, YM, YN, i64_w, i32_w]
            rfl
          refine pure_ (i := 29) (N := some 73) (v := undef) (a' := ?_) #[true, true, true, true, true, true, true, true, true, true, true, true, true, true, true, true, true, true, true, true, true, true, true, true, true, true, true, true, true, true, false, false, false, false] rfl rfl (any_of HT_.out (by kernel_rfl)) (fun _ _ _ h => h) (Or.inr ⟨by rfl, rfl⟩) ?_ ?_
          rotate_left
          · simp only [Act.put, YL, YM, YN, i64_w, i32_w]
            rfl
          refine pure_ (i := 30) (N := some 74) (v := undef) (a' := ?_) #[true, true, true, true, true, true, true, true, true, true, true, true, true, true, true, true, true, true, true, true, true, true, true, true, true, true, true, true, true, true, true, false, false, false] rfl rfl (any_of HT_.out (by kernel_rfl)) (fun _ _ _ h => h) (Or.inr ⟨by rfl, rfl⟩) ?_ ?_
          rotate_left
          · simp only [Act.put, YL, YM, YN, i64_w, i32_w]
            rfl
          refine pure_ (i := 31) (N := some 75) (v := undef) (a' := ?_) #[true, true, true, true, true, true, true, true, true, true, true, true, true, true, true, true, true, true, true, true, true, true, true, true, true, true, true, true, true, true, true, true, false, false] rfl rfl (any_of HT_.out (by kernel_rfl)) (fun _ _ _ h => h) (Or.inr ⟨by rfl, rfl⟩) ?_ ?_
          rotate_left
          · simp only [Act.put, YL, YM, YN, i64_w, i32_w]
            rfl
          refine pure_ (i := 32) (N := some 76) (v := ?_) (a' := ?_) #[true, true, true, true, true, true, true, true, true, true, true, true, true, true, true, true, true, true, true, true, true, true, true, true, true, true, true, true, true, true, true, true, true, false] rfl rfl (any_of HT_.out (by kernel_rfl)) (fun _ _ _ h => h) (Or.inl ⟨by rfl, ?_⟩) ?_ ?_
          rotate_left
          · intro w'
            go_simp
            with_reducible rfl
          rotate_left
          · simp only [Act.put, YL, YM, YN, i64_w, i32_w]
            rfl
          refine pure_ (i := 33) (N := some 19) (v := ?_) (a' := ?_) #[true, true, true, true, true, true, true, true, true, true, true, true, true, true, true, true, true, true, true, true, true, true, true, true, true, true, true, true, true, true, true, true, true, true] rfl rfl (any_of HT_.out (by kernel_rfl)) (fun _ _ _ h => h) (Or.inl ⟨by rfl, ?_⟩) ?_ ?_
          rotate_left
          · intro w'
            go_simp
            with_reducible rfl
          rotate_left
          · simp only [Act.put, YL, YM, YN, i64_w, i32_w]
            rfl
          refine done_ (done_of HT_.out (by kernel_rfl)) ?_
          try go_wp2
          go_meet
          case rel => exact ⟨_, (false), (by first | rfl | (simp; done) | (simp [*]; done)), H', ⟨by first | omega | exact Nat.le_refl _⟩, ⟨by (with_reducible repeat (first | apply YR | apply YS | apply YT)); exact Kd.R_mono HO305.out (fun _ hk => by first | exact hk.2 | exact trivial | simp_all)⟩, ⟨by (with_reducible repeat (first | apply YR | apply YS | apply YT)); exact Kd.R_mono HO309.out (fun _ hk => by first | exact hk.2 | exact trivial | simp_all)⟩, ⟨by (with_reducible repeat (first | refine YF ?_ _ | refine YG ?_ | refine YH ?_ _)); exact BK284.out⟩, ⟨by (with_reducible repeat (first | refine YF ?_ _ | refine YG ?_ | refine YH ?_ _)); exact BK285.out⟩, ⟨by (with_reducible repeat (first | refine YF ?_ _ | refine YG ?_ | refine YH ?_ _)); exact BK286.out⟩, ⟨by (with_reducible repeat (first | refine YF ?_ _ | refine YG ?_ | refine YH ?_ _)); exact BK294.out⟩, ⟨by (with_reducible repeat (first | refine YF ?_ _ | refine YG ?_ | refine YH ?_ _)); exact BK302.out⟩, ⟨by repeat (first | (with_reducible first | exact HB.out | apply YA | apply YB | apply YC | refine below_set ?_ GE284.out | refine below_set ?_ GE285.out | refine below_set ?_ GE286.out | refine below_set ?_ GE294.out | refine below_set ?_ GE302.out) | exact HB.out)⟩⟩
      · rw [if_neg c41] at H
        have c41b0 : (t313 == t314) = false := by simpa using c41
        (try (have c41b1 : decide (t313 = t314) = false := by simpa using c41))
        (try (have c41b2 : (t313 == t314) = false := by simpa using c41))
        (try (have c41b3 : ¬ (t313 = t314) := by simpa using c41))
        clear c41
        have H' := Aside0.mk H
        clear H
        try go_wp2
        have n0_ := Aside0.mk (YT HO305.out)
        have n1_ := Aside0.mk (YT HO309.out)
        have n2_ := Aside0.mk (YG BK284.out)
        have n3_ := Aside0.mk (YG BK285.out)
        have n4_ := Aside0.mk (YG BK286.out)
        have n5_ := Aside0.mk (YG BK294.out)
        have n6_ := Aside0.mk (YG BK302.out)
        have n7_ := Aside0.mk (YC HB.out)
        clear HO305
        clear HO309
        clear BK284
        clear BK285
        clear BK286
        clear BK294
        clear BK302
        clear HB
        have HO305 := n0_
        have HO309 := n1_
        have BK284 := n2_
        have BK285 := n3_
        have BK286 := n4_
        have BK294 := n5_
        have BK302 := n6_
        have HB := n7_
        clear n0_ n1_ n2_ n3_ n4_ n5_ n6_ n7_
        refine start_ (n := 34) (S := fun w' => w'.cell? ⟨gb284, 0, none⟩ = some (.bool a0_0) ∧ w'.cell? ⟨gb284, 1, none⟩ = some (.int .i64 a0_1) ∧ w'.cell? ⟨gb284, 2, none⟩ = some (.int .i64 a0_2) ∧ w'.cell? ⟨gb284, 3, none⟩ = some (.int .i64 a0_3) ∧ w'.cell? ⟨gb284, 4, none⟩ = some (.int .i64 a0_4) ∧ w'.cell? ⟨gb284, 5, none⟩ = some (.int .i64 a0_5) ∧ w'.cell? ⟨gb285, 0, none⟩ = some (.bool a1_0) ∧ w'.cell? ⟨gb285, 1, none⟩ = some (.int .i64 a1_1) ∧ w'.cell? ⟨gb285, 2, none⟩ = some (.int .i64 a1_2) ∧ w'.cell? ⟨gb285, 3, none⟩ = some (.int .i64 a1_3) ∧ w'.cell? ⟨gb285, 4, none⟩ = some (.int .i64 a1_4) ∧ w'.cell? ⟨gb285, 5, none⟩ = some (.int .i64 a1_5)) (ds := []) #[false, false, false, false, false, false, false, false, false, false, false, false, false, false, false, false, false, false, false, false, false, false, false, false, false, false, false, false, false, false, false, false, false, false] (by kernel_rfl) rfl rfl ⟨(YI BK284.out 0).trans rfl, (YI BK284.out 1).trans rfl, (YI BK284.out 2).trans rfl, (YI BK284.out 3).trans rfl, (YI BK284.out 4).trans rfl, (YI BK284.out 5).trans rfl, (YI BK285.out 0).trans rfl, (YI BK285.out 1).trans rfl, (YI BK285.out 2).trans rfl, (YI BK285.out 3).trans rfl, (YI BK285.out 4).trans rfl, (YI BK285.out 5).trans rfl⟩ (fun hHeld => ?_); refine with_tabW thalweglaw02_HeightDoes.tab5 thalweglaw02_HeightDoes.bits5 (fun HT_ HW_ => ?_)
        generalize w35.drew = w67 at HO305 HO309 BK284 BK285 BK286 BK294 BK302 HB hHeld ⊢
        refine take_ (i := 0) (N := some 44) (v := ?_) (a' := ?_) #[true, false, false, false, false, false, false, false, false, false, false, false, false, false, false, false, false, false, false, false, false, false, false, false, false, false, false, false, false, false, false, false, false, false] rfl rfl (take_ofW HT_.out HW_.out (by kernel_rfl)) (fun _ _ _ h => h) (Or.inl ⟨by rfl, ?_⟩) hHeld ?_ ?_
        rotate_left
        · rintro w' ⟨s0, s1, s2, s3, s4, s5, s6, s7, s8, s9, s10, s11⟩
          go_simp
          with_reducible rfl
        rotate_left
        · simp only [Act.put, YL, YM, YN, i64_w, i32_w]
          rfl
        refine take_ (i := 3) (N := some 47) (v := ?_) (a' := ?_) #[true, false, false, true, false, false, false, false, false, false, false, false, false, false, false, false, false, false, false, false, false, false, false, false, false, false, false, false, false, false, false, false, false, false] rfl rfl (take_ofW HT_.out HW_.out (by kernel_rfl)) (fun _ _ _ h => h) (Or.inl ⟨by rfl, ?_⟩) hHeld ?_ ?_
        rotate_left
        · rintro w' ⟨s0, s1, s2, s3, s4, s5, s6, s7, s8, s9, s10, s11⟩
          go_simp
          with_reducible rfl
        rotate_left
        · simp only [Act.put, YL, YM, YN, i64_w, i32_w]
          rfl
        refine one_ (i := 1) (N := some 45) #[true, true, false, true, false, false, false, false, false, false, false, false, false, false, false, false, false, false, false, false, false, false, false, false, false, false, false, false, false, false, false, false, false, false] rfl rfl (one_of HT_.out (by kernel_rfl)) (by decide) (fun K hK => ?_)
        refine goes_ Try.func12 (by kernel_rfl) rfl #[.agg #[.bool a0_0, .int .i64 a0_1, .int .i64 a0_2, .int .i64 a0_3, .int .i64 a0_4, .int .i64 a0_5]] (by rfl) rfl rfl (by (try simp only [YO, List.map_cons, List.map_nil]); first | done | rfl | (simp only [YQ, YP]; rfl)) ?_
        with_reducible refine (height_Check.calls k a0_0 a0_1 a0_2 a0_3 a0_4 a0_5 t311 _ A36.out).mono ?_
        rintro e w68 ⟨rfl, hb⟩
        refine ⟨_, rfl, ?_⟩
        have n0_ := Aside0.mk (YU (by (with_reducible repeat (first | apply YR | apply YS | apply YT)); exact HO305.out) hb)
        have n1_ := Aside0.mk (YU (by (with_reducible repeat (first | apply YR | apply YS | apply YT)); exact HO309.out) hb)
        have n2_ := Aside0.mk (YK (g := gb284) (o := .cells #[.bool a0_0, .int .i64 a0_1, .int .i64 a0_2, .int .i64 a0_3, .int .i64 a0_4, .int .i64 a0_5] 23 (0, 0)) (by (with_reducible repeat (first | refine YF ?_ _ | refine YG ?_ | refine YH ?_ _)); exact BK284.out) hb)
        have n3_ := Aside0.mk (YK (g := gb285) (o := .cells #[.bool a1_0, .int .i64 a1_1, .int .i64 a1_2, .int .i64 a1_3, .int .i64 a1_4, .int .i64 a1_5] 23 (0, 0)) (by (with_reducible repeat (first | refine YF ?_ _ | refine YG ?_ | refine YH ?_ _)); exact BK285.out) hb)
        have n4_ := Aside0.mk (YK (g := gb286) (o := .cells #[.int .i64 a2_0, .int .i64 a2_1, .int .i64 a2_2] 25 (0, 0)) (by (with_reducible repeat (first | refine YF ?_ _ | refine YG ?_ | refine YH ?_ _)); exact BK286.out) hb)
        have n5_ := Aside0.mk (YK (g := gb294) (o := .cells #[.bool t287, .int .i64 t288, .int .i64 t289, .int .i64 t290, .int .i64 t291, .int .i64 t292] 23 (0, 0)) (by (with_reducible repeat (first | refine YF ?_ _ | refine YG ?_ | refine YH ?_ _)); exact BK294.out) hb)
        have n6_ := Aside0.mk (YK (g := gb302) (o := .cells #[.bool t295, .int .i64 t296, .int .i64 t297, .int .i64 t298, .int .i64 t299, .int .i64 t300] 23 (0, 0)) (by (with_reducible repeat (first | refine YF ?_ _ | refine YG ?_ | refine YH ?_ _)); exact BK302.out) hb)
        have n7_ := Aside0.mk (YD (by repeat (first | (with_reducible first | exact HB.out | apply YA | apply YB | apply YC | refine below_set ?_ GE284.out | refine below_set ?_ GE285.out | refine below_set ?_ GE286.out | refine below_set ?_ GE294.out | refine below_set ?_ GE302.out) | exact HB.out)) hb)
        clear HO305
        clear HO309
        clear BK284
        clear BK285
        clear BK286
        clear BK294
        clear BK302
        clear HB
        have HO305 := n0_
        have HO309 := n1_
        have BK284 := n2_
        have BK285 := n3_
        have BK286 := n4_
        have BK294 := n5_
        have BK302 := n6_
        have HB := n7_
        clear n0_ n1_ n2_ n3_ n4_ n5_ n6_ n7_
        (try clear hb)
        (try clear hb2)
        (try clear hk)
        (try clear hi)
        refine hK.out _ _ ⟨(YI BK284.out 0).trans rfl, (YI BK284.out 1).trans rfl, (YI BK284.out 2).trans rfl, (YI BK284.out 3).trans rfl, (YI BK284.out 4).trans rfl, (YI BK284.out 5).trans rfl, (YI BK285.out 0).trans rfl, (YI BK285.out 1).trans rfl, (YI BK285.out 2).trans rfl, (YI BK285.out 3).trans rfl, (YI BK285.out 4).trans rfl, (YI BK285.out 5).trans rfl⟩ (fun hHeld => ?_)
        clear hK K
        refine norm_ (a' := ?_) ?_ ?_
        rotate_left
        · show Act.put _ (some 45) _ = _
          simp only [Act.put, YL, YM, YN, i64_w, i32_w]
          rfl
        refine pure_ (i := 2) (N := some 46) (v := ?_) (a' := ?_) #[true, true, true, true, false, false, false, false, false, false, false, false, false, false, false, false, false, false, false, false, false, false, false, false, false, false, false, false, false, false, false, false, false, false] rfl rfl (any_of HT_.out (by kernel_rfl)) (fun _ _ _ h => h) (Or.inl ⟨by rfl, ?_⟩) ?_ ?_
        rotate_left
        · intro w'
          go_simp
          with_reducible rfl
        rotate_left
        · simp only [Act.put, YL, YM, YN, i64_w, i32_w]
          rfl
        refine one_ (i := 4) (N := some 48) #[true, true, true, true, true, false, false, false, false, false, false, false, false, false, false, false, false, false, false, false, false, false, false, false, false, false, false, false, false, false, false, false, false, false] rfl rfl (one_of HT_.out (by kernel_rfl)) (by decide) (fun K hK => ?_)
        refine goes_ Try.func13 (by kernel_rfl) rfl #[.agg #[.bool a0_0, .int .i64 a0_1, .int .i64 a0_2, .int .i64 a0_3, .int .i64 a0_4, .int .i64 a0_5]] (by rfl) rfl rfl (by (try simp only [YO, List.map_cons, List.map_nil]); first | done | rfl | (simp only [YQ, YP]; rfl)) ?_
        with_reducible refine (thalwegref02_Right.calls k a0_0 a0_1 a0_2 a0_3 a0_4 a0_5 t312 _ A37.out).mono ?_
        rintro e w69 ⟨rfl, hb⟩
        refine ⟨_, rfl, ?_⟩
        have n0_ := Aside0.mk (YU (by (with_reducible repeat (first | apply YR | apply YS | apply YT)); exact HO305.out) hb)
        have n1_ := Aside0.mk (YU (by (with_reducible repeat (first | apply YR | apply YS | apply YT)); exact HO309.out) hb)
        have n2_ := Aside0.mk (YK (g := gb284) (o := .cells #[.bool a0_0, .int .i64 a0_1, .int .i64 a0_2, .int .i64 a0_3, .int .i64 a0_4, .int .i64 a0_5] 23 (0, 0)) (by (with_reducible repeat (first | refine YF ?_ _ | refine YG ?_ | refine YH ?_ _)); exact BK284.out) hb)
        have n3_ := Aside0.mk (YK (g := gb285) (o := .cells #[.bool a1_0, .int .i64 a1_1, .int .i64 a1_2, .int .i64 a1_3, .int .i64 a1_4, .int .i64 a1_5] 23 (0, 0)) (by (with_reducible repeat (first | refine YF ?_ _ | refine YG ?_ | refine YH ?_ _)); exact BK285.out) hb)
        have n4_ := Aside0.mk (YK (g := gb286) (o := .cells #[.int .i64 a2_0, .int .i64 a2_1, .int .i64 a2_2] 25 (0, 0)) (by (with_reducible repeat (first | refine YF ?_ _ | refine YG ?_ | refine YH ?_ _)); exact BK286.out) hb)
        have n5_ := Aside0.mk (YK (g := gb294) (o := .cells #[.bool t287, .int .i64 t288, .int .i64 t289, .int .i64 t290, .int .i64 t291, .int .i64 t292] 23 (0, 0)) (by (with_reducible repeat (first | refine YF ?_ _ | refine YG ?_ | refine YH ?_ _)); exact BK294.out) hb)
        have n6_ := Aside0.mk (YK (g := gb302) (o := .cells #[.bool t295, .int .i64 t296, .int .i64 t297, .int .i64 t298, .int .i64 t299, .int .i64 t300] 23 (0, 0)) (by (with_reducible repeat (first | refine YF ?_ _ | refine YG ?_ | refine YH ?_ _)); exact BK302.out) hb)
        have n7_ := Aside0.mk (YD (by repeat (first | (with_reducible first | exact HB.out | apply YA | apply YB | apply YC | refine below_set ?_ GE284.out | refine below_set ?_ GE285.out | refine below_set ?_ GE286.out | refine below_set ?_ GE294.out | refine below_set ?_ GE302.out) | exact HB.out)) hb)
        clear HO305
        clear HO309
        clear BK284
        clear BK285
        clear BK286
        clear BK294
        clear BK302
        clear HB
        have HO305 := n0_
        have HO309 := n1_
        have BK284 := n2_
        have BK285 := n3_
        have BK286 := n4_
        have BK294 := n5_
        have BK302 := n6_
        have HB := n7_
        clear n0_ n1_ n2_ n3_ n4_ n5_ n6_ n7_
        (try clear hb)
        (try clear hb2)
        (try clear hk)
        (try clear hi)
        refine hK.out _ _ ⟨(YI BK284.out 0).trans rfl, (YI BK284.out 1).trans rfl, (YI BK284.out 2).trans rfl, (YI BK284.out 3).trans rfl, (YI BK284.out 4).trans rfl, (YI BK284.out 5).trans rfl, (YI BK285.out 0).trans rfl, (YI BK285.out 1).trans rfl, (YI BK285.out 2).trans rfl, (YI BK285.out 3).trans rfl, (YI BK285.out 4).trans rfl, (YI BK285.out 5).trans rfl⟩ (fun hHeld => ?_)
        clear hK K
        refine norm_ (a' := ?_) ?_ ?_
        rotate_left
        · show Act.put _ (some 48) _ = _
          simp only [Act.put, YL, YM, YN, i64_w, i32_w]
          rfl
        refine pure_ (i := 5) (N := some 49) (v := ?_) (a' := ?_) #[true, true, true, true, true, true, false, false, false, false, false, false, false, false, false, false, false, false, false, false, false, false, false, false, false, false, false, false, false, false, false, false, false, false] rfl rfl (any_of HT_.out (by kernel_rfl)) (fun _ _ _ h => h) (Or.inl ⟨by rfl, ?_⟩) ?_ ?_
        rotate_left
        · intro w'
          go_simp
          with_reducible rfl
        rotate_left
        · simp only [Act.put, YL, YM, YN, i64_w, i32_w]
          rfl
        refine pure_ (i := 6) (N := some 50) (v := ?_) (a' := ?_) #[true, true, true, true, true, true, true, false, false, false, false, false, false, false, false, false, false, false, false, false, false, false, false, false, false, false, false, false, false, false, false, false, false, false] rfl rfl (any_of HT_.out (by kernel_rfl)) (fun _ _ _ h => h) (Or.inl ⟨by rfl, ?_⟩) ?_ ?_
        rotate_left
        · intro w'
          go_simp
          with_reducible rfl
        rotate_left
        · simp only [Act.put, YL, YM, YN, i64_w, i32_w]
          rfl
        refine take_ (i := 7) (N := some 51) (v := ?_) (a' := ?_) #[true, true, true, true, true, true, true, true, false, false, false, false, false, false, false, false, false, false, false, false, false, false, false, false, false, false, false, false, false, false, false, false, false, false] rfl rfl (take_ofW HT_.out HW_.out (by kernel_rfl)) (fun _ _ _ h => h) (Or.inl ⟨by rfl, ?_⟩) hHeld ?_ ?_
        rotate_left
        · rintro w' ⟨s0, s1, s2, s3, s4, s5, s6, s7, s8, s9, s10, s11⟩
          go_simp
          with_reducible rfl
        rotate_left
        · simp only [Act.put, YL, YM, YN, i64_w, i32_w]
          rfl
        refine take_ (i := 8) (N := some 52) (v := ?_) (a' := ?_) #[true, true, true, true, true, true, true, true, true, false, false, false, false, false, false, false, false, false, false, false, false, false, false, false, false, false, false, false, false, false, false, false, false, false] rfl rfl (take_ofW HT_.out HW_.out (by kernel_rfl)) (fun _ _ _ h => h) (Or.inl ⟨by rfl, ?_⟩) hHeld ?_ ?_
        rotate_left
        · rintro w' ⟨s0, s1, s2, s3, s4, s5, s6, s7, s8, s9, s10, s11⟩
          go_simp
          with_reducible rfl
        rotate_left
        · simp only [Act.put, YL, YM, YN, i64_w, i32_w]
          rfl
        refine take_ (i := 10) (N := some 54) (v := ?_) (a' := ?_) #[true, true, true, true, true, true, true, true, true, false, true, false, false, false, false, false, false, false, false, false, false, false, false, false, false, false, false, false, false, false, false, false, false, false] rfl rfl (take_ofW HT_.out HW_.out (by kernel_rfl)) (fun _ _ _ h => h) (Or.inl ⟨by rfl, ?_⟩) hHeld ?_ ?_
        rotate_left
        · rintro w' ⟨s0, s1, s2, s3, s4, s5, s6, s7, s8, s9, s10, s11⟩
          go_simp
          with_reducible rfl
        rotate_left
        · simp only [Act.put, YL, YM, YN, i64_w, i32_w]
          rfl
        refine take_ (i := 11) (N := some 55) (v := ?_) (a' := ?_) #[true, true, true, true, true, true, true, true, true, false, true, true, false, false, false, false, false, false, false, false, false, false, false, false, false, false, false, false, false, false, false, false, false, false] rfl rfl (take_ofW HT_.out HW_.out (by kernel_rfl)) (fun _ _ _ h => h) (Or.inl ⟨by rfl, ?_⟩) hHeld ?_ ?_
        rotate_left
        · rintro w' ⟨s0, s1, s2, s3, s4, s5, s6, s7, s8, s9, s10, s11⟩
          go_simp
          with_reducible rfl
        rotate_left
        · simp only [Act.put, YL, YM, YN, i64_w, i32_w]
          rfl
        refine one_ (i := 9) (N := some 53) #[true, true, true, true, true, true, true, true, true, true, true, true, false, false, false, false, false, false, false, false, false, false, false, false, false, false, false, false, false, false, false, false, false, false] rfl rfl (one_of HT_.out (by kernel_rfl)) (by decide) (fun K hK => ?_)
        refine goes_ Try.func14 (by kernel_rfl) rfl #[.agg #[.bool a0_0, .int .i64 a0_1, .int .i64 a0_2, .int .i64 a0_3, .int .i64 a0_4, .int .i64 a0_5], .agg #[.bool a1_0, .int .i64 a1_1, .int .i64 a1_2, .int .i64 a1_3, .int .i64 a1_4, .int .i64 a1_5]] (by rfl) rfl rfl (by (try simp only [YO, List.map_cons, List.map_nil]); first | done | rfl | (simp only [YQ, YP]; rfl)) ?_
        with_reducible refine (height_Less.calls k a0_0 a0_1 a0_2 a0_3 a0_4 a0_5 a1_0 a1_1 a1_2 a1_3 a1_4 a1_5 t313 _ A39.out).mono ?_
        rintro e w70 ⟨rfl, hb⟩
        refine ⟨_, rfl, ?_⟩
        have n0_ := Aside0.mk (YU (by (with_reducible repeat (first | apply YR | apply YS | apply YT)); exact HO305.out) hb)
        have n1_ := Aside0.mk (YU (by (with_reducible repeat (first | apply YR | apply YS | apply YT)); exact HO309.out) hb)
        have n2_ := Aside0.mk (YK (g := gb284) (o := .cells #[.bool a0_0, .int .i64 a0_1, .int .i64 a0_2, .int .i64 a0_3, .int .i64 a0_4, .int .i64 a0_5] 23 (0, 0)) (by (with_reducible repeat (first | refine YF ?_ _ | refine YG ?_ | refine YH ?_ _)); exact BK284.out) hb)
        have n3_ := Aside0.mk (YK (g := gb285) (o := .cells #[.bool a1_0, .int .i64 a1_1, .int .i64 a1_2, .int .i64 a1_3, .int .i64 a1_4, .int .i64 a1_5] 23 (0, 0)) (by (with_reducible repeat (first | refine YF ?_ _ | refine YG ?_ | refine YH ?_ _)); exact BK285.out) hb)
        have n4_ := Aside0.mk (YK (g := gb286) (o := .cells #[.int .i64 a2_0, .int .i64 a2_1, .int .i64 a2_2] 25 (0, 0)) (by (with_reducible repeat (first | refine YF ?_ _ | refine YG ?_ | refine YH ?_ _)); exact BK286.out) hb)
        have n5_ := Aside0.mk (YK (g := gb294) (o := .cells #[.bool t287, .int .i64 t288, .int .i64 t289, .int .i64 t290, .int .i64 t291, .int .i64 t292] 23 (0, 0)) (by (with_reducible repeat (first | refine YF ?_ _ | refine YG ?_ | refine YH ?_ _)); exact BK294.out) hb)
        have n6_ := Aside0.mk (YK (g := gb302) (o := .cells #[.bool t295, .int .i64 t296, .int .i64 t297, .int .i64 t298, .int .i64 t299, .int .i64 t300] 23 (0, 0)) (by (with_reducible repeat (first | refine YF ?_ _ | refine YG ?_ | refine YH ?_ _)); exact BK302.out) hb)
        have n7_ := Aside0.mk (YD (by repeat (first | (with_reducible first | exact HB.out | apply YA | apply YB | apply YC | refine below_set ?_ GE284.out | refine below_set ?_ GE285.out | refine below_set ?_ GE286.out | refine below_set ?_ GE294.out | refine below_set ?_ GE302.out) | exact HB.out)) hb)
        clear HO305
        clear HO309
        clear BK284
        clear BK285
        clear BK286
        clear BK294
        clear BK302
        clear HB
        have HO305 := n0_
        have HO309 := n1_
        have BK284 := n2_
        have BK285 := n3_
        have BK286 := n4_
        have BK294 := n5_
        have BK302 := n6_
        have HB := n7_
        clear n0_ n1_ n2_ n3_ n4_ n5_ n6_ n7_
        (try clear hb)
        (try clear hb2)
        (try clear hk)
        (try clear hi)
        refine hK.out _ _ ⟨(YI BK284.out 0).trans rfl, (YI BK284.out 1).trans rfl, (YI BK284.out 2).trans rfl, (YI BK284.out 3).trans rfl, (YI BK284.out 4).trans rfl, (YI BK284.out 5).trans rfl, (YI BK285.out 0).trans rfl, (YI BK285.out 1).trans rfl, (YI BK285.out 2).trans rfl, (YI BK285.out 3).trans rfl, (YI BK285.out 4).trans rfl, (YI BK285.out 5).trans rfl⟩ (fun hHeld => ?_)
        clear hK K
        refine norm_ (a' := ?_) ?_ ?_
        rotate_left
        · show Act.put _ (some 53) _ = _
          simp only [Act.put, YL, YM, YN, i64_w, i32_w]
          rfl
        refine one_ (i := 12) (N := some 56) #[true, true, true, true, true, true, true, true, true, true, true, true, true, false, false, false, false, false, false, false, false, false, false, false, false, false, false, false, false, false, false, false, false, false] rfl rfl (one_of HT_.out (by kernel_rfl)) (by decide) (fun K hK => ?_)
        refine goes_ Try.func15 (by kernel_rfl) rfl #[.agg #[.bool a0_0, .int .i64 a0_1, .int .i64 a0_2, .int .i64 a0_3, .int .i64 a0_4, .int .i64 a0_5], .agg #[.bool a1_0, .int .i64 a1_1, .int .i64 a1_2, .int .i64 a1_3, .int .i64 a1_4, .int .i64 a1_5]] (by rfl) rfl rfl (by (try simp only [YO, List.map_cons, List.map_nil]); first | done | rfl | (simp only [YQ, YP]; rfl)) ?_
        with_reducible refine (thalwegref02_Less.calls k a0_0 a0_1 a0_2 a0_3 a0_4 a0_5 a1_0 a1_1 a1_2 a1_3 a1_4 a1_5 t314 _ A40.out).mono ?_
        rintro e w71 ⟨rfl, hb⟩
        refine ⟨_, rfl, ?_⟩
        have n0_ := Aside0.mk (YU (by (with_reducible repeat (first | apply YR | apply YS | apply YT)); exact HO305.out) hb)
        have n1_ := Aside0.mk (YU (by (with_reducible repeat (first | apply YR | apply YS | apply YT)); exact HO309.out) hb)
        have n2_ := Aside0.mk (YK (g := gb284) (o := .cells #[.bool a0_0, .int .i64 a0_1, .int .i64 a0_2, .int .i64 a0_3, .int .i64 a0_4, .int .i64 a0_5] 23 (0, 0)) (by (with_reducible repeat (first | refine YF ?_ _ | refine YG ?_ | refine YH ?_ _)); exact BK284.out) hb)
        have n3_ := Aside0.mk (YK (g := gb285) (o := .cells #[.bool a1_0, .int .i64 a1_1, .int .i64 a1_2, .int .i64 a1_3, .int .i64 a1_4, .int .i64 a1_5] 23 (0, 0)) (by (with_reducible repeat (first | refine YF ?_ _ | refine YG ?_ | refine YH ?_ _)); exact BK285.out) hb)
        have n4_ := Aside0.mk (YK (g := gb286) (o := .cells #[.int .i64 a2_0, .int .i64 a2_1, .int .i64 a2_2] 25 (0, 0)) (by (with_reducible repeat (first | refine YF ?_ _ | refine YG ?_ | refine YH ?_ _)); exact BK286.out) hb)
        have n5_ := Aside0.mk (YK (g := gb294) (o := .cells #[.bool t287, .int .i64 t288, .int .i64 t289, .int .i64 t290, .int .i64 t291, .int .i64 t292] 23 (0, 0)) (by (with_reducible repeat (first | refine YF ?_ _ | refine YG ?_ | refine YH ?_ _)); exact BK294.out) hb)
        have n6_ := Aside0.mk (YK (g := gb302) (o := .cells #[.bool t295, .int .i64 t296, .int .i64 t297, .int .i64 t298, .int .i64 t299, .int .i64 t300] 23 (0, 0)) (by (with_reducible repeat (first | refine YF ?_ _ | refine YG ?_ | refine YH ?_ _)); exact BK302.out) hb)
        have n7_ := Aside0.mk (YD (by repeat (first | (with_reducible first | exact HB.out | apply YA | apply YB | apply YC | refine below_set ?_ GE284.out | refine below_set ?_ GE285.out | refine below_set ?_ GE286.out | refine below_set ?_ GE294.out | refine below_set ?_ GE302.out) | exact HB.out)) hb)
        clear HO305
        clear HO309
        clear BK284
        clear BK285
        clear BK286
        clear BK294
        clear BK302
        clear HB
        have HO305 := n0_
        have HO309 := n1_
        have BK284 := n2_
        have BK285 := n3_
        have BK286 := n4_
        have BK294 := n5_
        have BK302 := n6_
        have HB := n7_
        clear n0_ n1_ n2_ n3_ n4_ n5_ n6_ n7_
        (try clear hb)
        (try clear hb2)
        (try clear hk)
        (try clear hi)
        refine hK.out _ _ ⟨(YI BK284.out 0).trans rfl, (YI BK284.out 1).trans rfl, (YI BK284.out 2).trans rfl, (YI BK284.out 3).trans rfl, (YI BK284.out 4).trans rfl, (YI BK284.out 5).trans rfl, (YI BK285.out 0).trans rfl, (YI BK285.out 1).trans rfl, (YI BK285.out 2).trans rfl, (YI BK285.out 3).trans rfl, (YI BK285.out 4).trans rfl, (YI BK285.out 5).trans rfl⟩ (fun hHeld => ?_)
        clear hK K
        refine norm_ (a' := ?_) ?_ ?_
        rotate_left
        · show Act.put _ (some 56) _ = _
          simp only [Act.put, YL, YM, YN, i64_w, i32_w]
          rfl
        refine pure_ (i := 13) (N := some 57) (v := ?_) (a' := ?_) #[true, true, true, true, true, true, true, true, true, true, true, true, true, true, false, false, false, false, false, false, false, false, false, false, false, false, false, false, false, false, false, false, false, false] rfl rfl (any_of HT_.out (by kernel_rfl)) (fun _ _ _ h => h) (Or.inl ⟨by rfl, ?_⟩) ?_ ?_
        rotate_left
        · intro w'
          go_simp
          with_reducible rfl
        rotate_left
        · simp only [Act.put, YL, YM, YN, i64_w, i32_w]
          rfl
        refine pure_ (i := 14) (N := some 58) (v := ?_) (a' := ?_) #[true, true, true, true, true, true, true, true, true, true, true, true, true, true, true, false, false, false, false, false, false, false, false, false, false, false, false, false, false, false, false, false, false, false] rfl rfl (any_of HT_.out (by kernel_rfl)) (fun _ _ _ h => h) (Or.inl ⟨by rfl, ?_⟩) ?_ ?_
        rotate_left
        · intro w'
          go_simp
          with_reducible rfl
        rotate_left
        · simp only [Act.put, YL, YM, YN, i64_w, i32_w]
          rfl
        refine pure_ (i := 15) (N := some 59) (v := ?_) (a' := ?_) #[true, true, true, true, true, true, true, true, true, true, true, true, true, true, true, true, false, false, false, false, false, false, false, false, false, false, false, false, false, false, false, false, false, false] rfl rfl (any_of HT_.out (by kernel_rfl)) (fun _ _ _ h => h) (Or.inl ⟨by rfl, ?_⟩) ?_ ?_
        rotate_left
        · intro w'
          go_simp
          with_reducible rfl
        rotate_left
        · simp only [Act.put, YL, YM, YN, i64_w, i32_w]
          rfl
        refine pure_ (i := 16) (N := some 60) (v := undef) (a' := ?_) #[true, true, true, true, true, true, true, true, true, true, true, true, true, true, true, true, true, false, false, false, false, false, false, false, false, false, false, false, false, false, false, false, false, false] rfl rfl (any_of HT_.out (by kernel_rfl)) (fun _ _ _ h => h) (Or.inr ⟨by rfl, rfl⟩) ?_ ?_
        rotate_left
        · simp only [Act.put, YL, YM, YN, i64_w, i32_w]
          rfl
        refine pure_ (i := 17) (N := some 61) (v := undef) (a' := ?_) #[true, true, true, true, true, true, true, true, true, true, true, true, true, true, true, true, true, true, false, false, false, false, false, false, false, false, false, false, false, false, false, false, false, false] rfl rfl (any_of HT_.out (by kernel_rfl)) (fun _ _ _ h => h) (Or.inr ⟨by rfl, rfl⟩) ?_ ?_
        rotate_left
        · simp only [Act.put, YL, YM, YN, i64_w, i32_w]
          rfl
        refine pure_ (i := 18) (N := some 62) (v := undef) (a' := ?_) #[true, true, true, true, true, true, true, true, true, true, true, true, true, true, true, true, true, true, true, false, false, false, false, false, false, false, false, false, false, false, false, false, false, false] rfl rfl (any_of HT_.out (by kernel_rfl)) (fun _ _ _ h => h) (Or.inr ⟨by rfl, rfl⟩) ?_ ?_
        rotate_left
        · simp only [Act.put, YL, YM, YN, i64_w, i32_w]
          rfl
        refine pure_ (i := 19) (N := some 63) (v := undef) (a' := ?_) #[true, true, true, true, true, true, true, true, true, true, true, true, true, true, true, true, true, true, true, true, false, false, false, false, false, false, false, false, false, false, false, false, false, false] rfl rfl (any_of HT_.out (by kernel_rfl)) (fun _ _ _ h => h) (Or.inr ⟨by rfl, rfl⟩) ?_ ?_
        rotate_left
        · simp only [Act.put, YL, YM, YN, i64_w, i32_w]
          rfl
        refine pure_ (i := 20) (N := some 64) (v := undef) (a' := ?_) #[true, true, true, true, true, true, true, true, true, true, true, true, true, true, true, true, true, true, true, true, true, false, false, false, false, false, false, false, false, false, false, false, false, false] rfl rfl (any_of HT_.out (by kernel_rfl)) (fun _ _ _ h => h) (Or.inr ⟨by rfl, rfl⟩) ?_ ?_
        rotate_left
        · simp only [Act.put, YL, YM, YN, i64_w, i32_w]
          rfl
        refine pure_ (i := 21) (N := some 65) (v := ?_) (a' := ?_) #[true, true, true, true, true, true, true, true, true, true, true, true, true, true, true, true, true, true, true, true, true, true, false, false, false, false, false, false, false, false, false, false, false, false] rfl rfl (any_of HT_.out (by kernel_rfl)) (fun _ _ _ h => h) (Or.inl ⟨by rfl, ?_⟩) ?_ ?_
        rotate_left
        · intro w'
          go_simp
          with_reducible rfl
        rotate_left
        · simp only [Act.put, YL, YM, YN, i64_w, i32_w]
          rfl
        refine pure_ (i := 22) (N := some 66) (v := ?_) (a' := ?_) #[true, true, true, true, true, true, true, true, true, true, true, true, true, true, true, true, true, true, true, true, true, true, true, false, false, false, false, false, false, false, false, false, false, false] rfl rfl (any_of HT_.out (by kernel_rfl)) (fun _ _ _ h => h) (Or.inl ⟨by rfl, ?_⟩) ?_ ?_
        rotate_left
        · intro w'
          go_simp
          with_reducible rfl
        rotate_left
        · simp only [Act.put, YL, YM, YN, i64_w, i32_w]
          rfl
        refine pure_ (i := 23) (N := some 67) (v := undef) (a' := ?_) #[true, true, true, true, true, true, true, true, true, true, true, true, true, true, true, true, true, true, true, true, true, true, true, true, false, false, false, false, false, false, false, false, false, false] rfl rfl (any_of HT_.out (by kernel_rfl)) (fun _ _ _ h => h) (Or.inr ⟨by rfl, rfl⟩) ?_ ?_
        rotate_left
        · simp only [Act.put, YL, YM, YN, i64_w, i32_w]
          rfl
        refine pure_ (i := 24) (N := some 68) (v := undef) (a' := ?_) #[true, true, true, true, true, true, true, true, true, true, true, true, true, true, true, true, true, true, true, true, true, true, true, true, true, false, false, false, false, false, false, false, false, false] rfl rfl (any_of HT_.out (by kernel_rfl)) (fun _ _ _ h => h) (Or.inr ⟨by rfl, rfl⟩) ?_ ?_
        rotate_left
        · simp only [Act.put, YL, YM, YN, i64_w, i32_w]
          rfl
        refine pure_ (i := 25) (N := some 69) (v := undef) (a' := ?_) #[true, true, true, true, true, true, true, true, true, true, true, true, true, true, true, true, true, true, true, true, true, true, true, true, true, true, false, false, false, false, false, false, false, false] rfl rfl (any_of HT_.out (by kernel_rfl)) (fun _ _ _ h => h) (Or.inr ⟨by rfl, rfl⟩) ?_ ?_
        rotate_left
        · simp only [Act.put, YL, YM, YN, i64_w, i32_w]
          rfl
        refine pure_ (i := 26) (N := some 70) (v := undef) (a' := ?_) #[true, true, true, true, true, true, true, true, true, true, true, true, true, true, true, true, true, true, true, true, true, true, true, true, true, true, true, false, false, false, false, false, false, false] rfl rfl (any_of HT_.out (by kernel_rfl)) (fun _ _ _ h => h) (Or.inr ⟨by rfl, rfl⟩) ?_ ?_
        rotate_left
        · simp only [Act.put, YL, YM, YN, i64_w, i32_w]
          rfl
        refine pure_ (i := 27) (N := some 71) (v := undef) (a' := ?_) #[true, true, true, true, true, true, true, true, true, true, true, true, true, true, true, true, true, true, true, true, true, true, true, true, true, true, true, true, false, false, false, false, false, false] rfl rfl (any_of HT_.out (by kernel_rfl)) (fun _ _ _ h => h) (Or.inr ⟨by rfl, rfl⟩) ?_ ?_
        rotate_left
        · simp only [Act.put, YL, YM, YN, i64_w, i32_w]
          rfl
        refine pure_ (i := 28) (N := some 72) (v := undef) (a' := ?_) #[true, true, true, true, true, true, true, true, true, true, true, true, true, true, true, true, true, true, true, true, true, true, true, true, true, true, true, true, true, false, false, false, false, false] rfl rfl (any_of HT_.out (by kernel_rfl)) (fun _ _ _ h => h) (Or.inr ⟨by rfl, rfl⟩) ?_ ?_
        rotate_left
        · simp only [Act.put, YL, YM, YN, i64_w, i32_w]
          rfl
        refine pure_ (i := 29) (N := some 73) (v := undef) (a' := ?_) #[true, true, true, true, true, true, true, true, true, true, true, true, true, true, true, true, true, true, true, true, true, true, true, true, true, true, true, true, true, true, false, false, false, false] rfl rfl (any_of HT_.out (by kernel_rfl)) (fun _ _ _ h => h) (Or.inr ⟨by rfl, rfl⟩) ?_ ?_
        rotate_left
        · simp only [Act.put, YL, YM, YN, i64_w, i32_w]
          rfl
        refine pure_ (i := 30) (N := some 74) (v := undef) (a' := ?_) #[true, true, true, true, true, true, true, true, true, true, true, true, true, true, true, true, true, true, true, true, true, true, true, true, true, true, true, true, true, true, true, false, false, false] rfl rfl (any_of HT_.out (by kernel_rfl)) (fun _ _ _ h => h) (Or.inr ⟨by rfl, rfl⟩) ?_ ?_
        rotate_left
        · simp only [Act.put, YL, YM, YN, i64_w, i32_w]
          rfl
        refine pure_ (i := 31) (N := some 75) (v := undef) (a' := ?_) #[true, true, true, true, true, true, true, true, true, true, true, true, true, true, true, true, true, true, true, true, true, true, true, true, true, true, true, true, true, true, true, true, false, false] rfl rfl (any_of HT_.out (by kernel_rfl)) (fun _ _ _ h => h) (Or.inr ⟨by rfl, rfl⟩) ?_ ?_
        rotate_left
        · simp only [Act.put, YL, YM, YN, i64_w, i32_w]
          rfl
        refine pure_ (i := 32) (N := some 76) (v := ?_) (a' := ?_) #[true, true, true, true, true, true, true, true, true, true, true, true, true, true, true, true, true, true, true, true, true, true, true, true, true, true, true, true, true, true, true, true, true, false] rfl rfl (any_of HT_.out (by kernel_rfl)) (fun _ _ _ h => h) (Or.inl ⟨by rfl, ?_⟩) ?_ ?_
        rotate_left
        · intro w'
          go_simp
          with_reducible rfl
        rotate_left
        · simp only [Act.put, YL, YM, YN, i64_w, i32_w]
          rfl
        refine pure_ (i := 33) (N := some 19) (v := ?_) (a' := ?_) #[true, true, true, true, true, true, true, true, true, true, true, true, true, true, true, true, true, true, true, true, true, true, true, true, true, true, true, true, true, true, true, true, true, true] rfl rfl (any_of HT_.out (by kernel_rfl)) (fun _ _ _ h => h) (Or.inl ⟨by rfl, ?_⟩) ?_ ?_
        rotate_left
        · intro w'
          go_simp
          with_reducible rfl
        rotate_left
        · simp only [Act.put, YL, YM, YN, i64_w, i32_w]
          rfl
        refine done_ (done_of HT_.out (by kernel_rfl)) ?_
        try go_wp2
        go_meet
        case rel => exact ⟨_, (false), (by first | rfl | (simp; done) | (simp [*]; done)), H', ⟨by first | omega | exact Nat.le_refl _⟩, ⟨by (with_reducible repeat (first | apply YR | apply YS | apply YT)); exact Kd.R_mono HO305.out (fun _ hk => by first | exact hk.2 | exact trivial | simp_all)⟩, ⟨by (with_reducible repeat (first | apply YR | apply YS | apply YT)); exact Kd.R_mono HO309.out (fun _ hk => by first | exact hk.2 | exact trivial | simp_all)⟩, ⟨by (with_reducible repeat (first | refine YF ?_ _ | refine YG ?_ | refine YH ?_ _)); exact BK284.out⟩, ⟨by (with_reducible repeat (first | refine YF ?_ _ | refine YG ?_ | refine YH ?_ _)); exact BK285.out⟩, ⟨by (with_reducible repeat (first | refine YF ?_ _ | refine YG ?_ | refine YH ?_ _)); exact BK286.out⟩, ⟨by (with_reducible repeat (first | refine YF ?_ _ | refine YG ?_ | refine YH ?_ _)); exact BK294.out⟩, ⟨by (with_reducible repeat (first | refine YF ?_ _ | refine YG ?_ | refine YH ?_ _)); exact BK302.out⟩, ⟨by repeat (first | (with_reducible first | exact HB.out | apply YA | apply YB | apply YC | refine below_set ?_ GE284.out | refine below_set ?_ GE285.out | refine below_set ?_ GE286.out | refine below_set ?_ GE294.out | refine below_set ?_ GE302.out) | exact HB.out)⟩⟩
    · rw [if_neg c38] at H
      have c38b0 : ((t311 == 0) == t312) = false := by simpa using c38
      (try (have c38b1 : decide ((t311 == 0) = t312) = false := by simpa using c38))
      (try (have c38b2 : ((t311 == 0) == t312) = false := by simpa using c38))
      (try (have c38b3 : ¬ ((t311 == 0) = t312) := by simpa using c38))
      clear c38
      (first | rw [c38b0] | (simp only [i64_w, i32_w]; rw [c38b0]) | skip)
      have H' := Aside0.mk H
      clear H
      try go_wp2
      have n0_ := Aside0.mk (YT HO305.out)
      have n1_ := Aside0.mk (YT HO309.out)
      have n2_ := Aside0.mk (YG BK284.out)
      have n3_ := Aside0.mk (YG BK285.out)
      have n4_ := Aside0.mk (YG BK286.out)
      have n5_ := Aside0.mk (YG BK294.out)
      have n6_ := Aside0.mk (YG BK302.out)
      have n7_ := Aside0.mk (YC HB.out)
      clear HO305
      clear HO309
      clear BK284
      clear BK285
      clear BK286
      clear BK294
      clear BK302
      clear HB
      have HO305 := n0_
      have HO309 := n1_
      have BK284 := n2_
      have BK285 := n3_
      have BK286 := n4_
      have BK294 := n5_
      have BK302 := n6_
      have HB := n7_
      clear n0_ n1_ n2_ n3_ n4_ n5_ n6_ n7_
      refine start_ (n := 34) (S := fun w' => w'.cell? ⟨gb284, 0, none⟩ = some (.bool a0_0) ∧ w'.cell? ⟨gb284, 1, none⟩ = some (.int .i64 a0_1) ∧ w'.cell? ⟨gb284, 2, none⟩ = some (.int .i64 a0_2) ∧ w'.cell? ⟨gb284, 3, none⟩ = some (.int .i64 a0_3) ∧ w'.cell? ⟨gb284, 4, none⟩ = some (.int .i64 a0_4) ∧ w'.cell? ⟨gb284, 5, none⟩ = some (.int .i64 a0_5)) (ds := []) #[false, false, false, false, false, false, false, false, false, false, false, false, false, false, false, false, false, false, false, false, false, false, false, false, false, false, false, false, false, false, false, false, false, false] (by kernel_rfl) rfl rfl ⟨(YI BK284.out 0).trans rfl, (YI BK284.out 1).trans rfl, (YI BK284.out 2).trans rfl, (YI BK284.out 3).trans rfl, (YI BK284.out 4).trans rfl, (YI BK284.out 5).trans rfl⟩ (fun hHeld => ?_); refine with_tabW thalweglaw02_HeightDoes.tab5 thalweglaw02_HeightDoes.bits5 (fun HT_ HW_ => ?_)
      generalize w35.drew = w72 at HO305 HO309 BK284 BK285 BK286 BK294 BK302 HB hHeld ⊢
      refine take_ (i := 0) (N := some 44) (v := ?_) (a' := ?_) #[true, false, false, false, false, false, false, false, false, false, false, false, false, false, false, false, false, false, false, false, false, false, false, false, false, false, false, false, false, false, false, false, false, false] rfl rfl (take_ofW HT_.out HW_.out (by kernel_rfl)) (fun _ _ _ h => h) (Or.inl ⟨by rfl, ?_⟩) hHeld ?_ ?_
      rotate_left
      · rintro w' ⟨s0, s1, s2, s3, s4, s5⟩
        go_simp
        with_reducible rfl
      rotate_left
      · simp only [Act.put, YL, YM, YN, i64_w, i32_w]
        rfl
      refine take_ (i := 3) (N := some 47) (v := ?_) (a' := ?_) #[true, false, false, true, false, false, false, false, false, false, false, false, false, false, false, false, false, false, false, false, false, false, false, false, false, false, false, false, false, false, false, false, false, false] rfl rfl (take_ofW HT_.out HW_.out (by kernel_rfl)) (fun _ _ _ h => h) (Or.inl ⟨by rfl, ?_⟩) hHeld ?_ ?_
      rotate_left
      · rintro w' ⟨s0, s1, s2, s3, s4, s5⟩
        go_simp
        with_reducible rfl
      rotate_left
      · simp only [Act.put, YL, YM, YN, i64_w, i32_w]
        rfl
      refine one_ (i := 1) (N := some 45) #[true, true, false, true, false, false, false, false, false, false, false, false, false, false, false, false, false, false, false, false, false, false, false, false, false, false, false, false, false, false, false, false, false, false] rfl rfl (one_of HT_.out (by kernel_rfl)) (by decide) (fun K hK => ?_)
      refine goes_ Try.func12 (by kernel_rfl) rfl #[.agg #[.bool a0_0, .int .i64 a0_1, .int .i64 a0_2, .int .i64 a0_3, .int .i64 a0_4, .int .i64 a0_5]] (by rfl) rfl rfl (by (try simp only [YO, List.map_cons, List.map_nil]); first | done | rfl | (simp only [YQ, YP]; rfl)) ?_
      with_reducible refine (height_Check.calls k a0_0 a0_1 a0_2 a0_3 a0_4 a0_5 t311 _ A36.out).mono ?_
      rintro e w73 ⟨rfl, hb⟩
      refine ⟨_, rfl, ?_⟩
      have n0_ := Aside0.mk (YU (by (with_reducible repeat (first | apply YR | apply YS | apply YT)); exact HO305.out) hb)
      have n1_ := Aside0.mk (YU (by (with_reducible repeat (first | apply YR | apply YS | apply YT)); exact HO309.out) hb)
      have n2_ := Aside0.mk (YK (g := gb284) (o := .cells #[.bool a0_0, .int .i64 a0_1, .int .i64 a0_2, .int .i64 a0_3, .int .i64 a0_4, .int .i64 a0_5] 23 (0, 0)) (by (with_reducible repeat (first | refine YF ?_ _ | refine YG ?_ | refine YH ?_ _)); exact BK284.out) hb)
      have n3_ := Aside0.mk (YK (g := gb285) (o := .cells #[.bool a1_0, .int .i64 a1_1, .int .i64 a1_2, .int .i64 a1_3, .int .i64 a1_4, .int .i64 a1_5] 23 (0, 0)) (by (with_reducible repeat (first | refine YF ?_ _ | refine YG ?_ | refine YH ?_ _)); exact BK285.out) hb)
      have n4_ := Aside0.mk (YK (g := gb286) (o := .cells #[.int .i64 a2_0, .int .i64 a2_1, .int .i64 a2_2] 25 (0, 0)) (by (with_reducible repeat (first | refine YF ?_ _ | refine YG ?_ | refine YH ?_ _)); exact BK286.out) hb)
      have n5_ := Aside0.mk (YK (g := gb294) (o := .cells #[.bool t287, .int .i64 t288, .int .i64 t289, .int .i64 t290, .int .i64 t291, .int .i64 t292] 23 (0, 0)) (by (with_reducible repeat (first | refine YF ?_ _ | refine YG ?_ | refine YH ?_ _)); exact BK294.out) hb)
      have n6_ := Aside0.mk (YK (g := gb302) (o := .cells #[.bool t295, .int .i64 t296, .int .i64 t297, .int .i64 t298, .int .i64 t299, .int .i64 t300] 23 (0, 0)) (by (with_reducible repeat (first | refine YF ?_ _ | refine YG ?_ | refine YH ?_ _)); exact BK302.out) hb)
      have n7_ := Aside0.mk (YD (by repeat (first | (with_reducible first | exact HB.out | apply YA | apply YB | apply YC | refine below_set ?_ GE284.out | refine below_set ?_ GE285.out | refine below_set ?_ GE286.out | refine below_set ?_ GE294.out | refine below_set ?_ GE302.out) | exact HB.out)) hb)
      clear HO305
      clear HO309
      clear BK284
      clear BK285
      clear BK286
      clear BK294
      clear BK302
      clear HB
      have HO305 := n0_
      have HO309 := n1_
      have BK284 := n2_
      have BK285 := n3_
      have BK286 := n4_
      have BK294 := n5_
      have BK302 := n6_
      have HB := n7_
      clear n0_ n1_ n2_ n3_ n4_ n5_ n6_ n7_
      (try clear hb)
      (try clear hb2)
      (try clear hk)
      (try clear hi)
      refine hK.out _ _ ⟨(YI BK284.out 0).trans rfl, (YI BK284.out 1).trans rfl, (YI BK284.out 2).trans rfl, (YI BK284.out 3).trans rfl, (YI BK284.out 4).trans rfl, (YI BK284.out 5).trans rfl⟩ (fun hHeld => ?_)
      clear hK K
      refine norm_ (a' := ?_) ?_ ?_
      rotate_left
      · show Act.put _ (some 45) _ = _
        simp only [Act.put, YL, YM, YN, i64_w, i32_w]
        rfl
      refine pure_ (i := 2) (N := some 46) (v := ?_) (a' := ?_) #[true, true, true, true, false, false, false, false, false, false, false, false, false, false, false, false, false, false, false, false, false, false, false, false, false, false, false, false, false, false, false, false, false, false] rfl rfl (any_of HT_.out (by kernel_rfl)) (fun _ _ _ h => h) (Or.inl ⟨by rfl, ?_⟩) ?_ ?_
      rotate_left
      · intro w'
        go_simp
        with_reducible rfl
      rotate_left
      · simp only [Act.put, YL, YM, YN, i64_w, i32_w]
        rfl
      refine one_ (i := 4) (N := some 48) #[true, true, true, true, true, false, false, false, false, false, false, false, false, false, false, false, false, false, false, false, false, false, false, false, false, false, false, false, false, false, false, false, false, false] rfl rfl (one_of HT_.out (by kernel_rfl)) (by decide) (fun K hK => ?_)
      refine goes_ Try.func13 (by kernel_rfl) rfl #[.agg #[.bool a0_0, .int .i64 a0_1, .int .i64 a0_2, .int .i64 a0_3, .int .i64 a0_4, .int .i64 a0_5]] (by rfl) rfl rfl (by (try simp only [YO, List.map_cons, List.map_nil]); first | done | rfl | (simp only [YQ, YP]; rfl)) ?_
      with_reducible refine (thalwegref02_Right.calls k a0_0 a0_1 a0_2 a0_3 a0_4 a0_5 t312 _ A37.out).mono ?_
      rintro e w74 ⟨rfl, hb⟩
      refine ⟨_, rfl, ?_⟩
      have n0_ := Aside0.mk (YU (by (with_reducible repeat (first | apply YR | apply YS | apply YT)); exact HO305.out) hb)
      have n1_ := Aside0.mk (YU (by (with_reducible repeat (first | apply YR | apply YS | apply YT)); exact HO309.out) hb)
      have n2_ := Aside0.mk (YK (g := gb284) (o := .cells #[.bool a0_0, .int .i64 a0_1, .int .i64 a0_2, .int .i64 a0_3, .int .i64 a0_4, .int .i64 a0_5] 23 (0, 0)) (by (with_reducible repeat (first | refine YF ?_ _ | refine YG ?_ | refine YH ?_ _)); exact BK284.out) hb)
      have n3_ := Aside0.mk (YK (g := gb285) (o := .cells #[.bool a1_0, .int .i64 a1_1, .int .i64 a1_2, .int .i64 a1_3, .int .i64 a1_4, .int .i64 a1_5] 23 (0, 0)) (by (with_reducible repeat (first | refine YF ?_ _ | refine YG ?_ | refine YH ?_ _)); exact BK285.out) hb)
      have n4_ := Aside0.mk (YK (g := gb286) (o := .cells #[.int .i64 a2_0, .int .i64 a2_1, .int .i64 a2_2] 25 (0, 0)) (by (with_reducible repeat (first | refine YF ?_ _ | refine YG ?_ | refine YH ?_ _)); exact BK286.out) hb)
      have n5_ := Aside0.mk (YK (g := gb294) (o := .cells #[.bool t287, .int .i64 t288, .int .i64 t289, .int .i64 t290, .int .i64 t291, .int .i64 t292] 23 (0, 0)) (by (with_reducible repeat (first | refine YF ?_ _ | refine YG ?_ | refine YH ?_ _)); exact BK294.out) hb)
      have n6_ := Aside0.mk (YK (g := gb302) (o := .cells #[.bool t295, .int .i64 t296, .int .i64 t297, .int .i64 t298, .int .i64 t299, .int .i64 t300] 23 (0, 0)) (by (with_reducible repeat (first | refine YF ?_ _ | refine YG ?_ | refine YH ?_ _)); exact BK302.out) hb)
      have n7_ := Aside0.mk (YD (by repeat (first | (with_reducible first | exact HB.out | apply YA | apply YB | apply YC | refine below_set ?_ GE284.out | refine below_set ?_ GE285.out | refine below_set ?_ GE286.out | refine below_set ?_ GE294.out | refine below_set ?_ GE302.out) | exact HB.out)) hb)
      clear HO305
      clear HO309
      clear BK284
      clear BK285
      clear BK286
      clear BK294
      clear BK302
      clear HB
      have HO305 := n0_
      have HO309 := n1_
      have BK284 := n2_
      have BK285 := n3_
      have BK286 := n4_
      have BK294 := n5_
      have BK302 := n6_
      have HB := n7_
      clear n0_ n1_ n2_ n3_ n4_ n5_ n6_ n7_
      (try clear hb)
      (try clear hb2)
      (try clear hk)
      (try clear hi)
      refine hK.out _ _ ⟨(YI BK284.out 0).trans rfl, (YI BK284.out 1).trans rfl, (YI BK284.out 2).trans rfl, (YI BK284.out 3).trans rfl, (YI BK284.out 4).trans rfl, (YI BK284.out 5).trans rfl⟩ (fun hHeld => ?_)
      clear hK K
      refine norm_ (a' := ?_) ?_ ?_
      rotate_left
      · show Act.put _ (some 48) _ = _
        simp only [Act.put, YL, YM, YN, i64_w, i32_w]
        rfl
      refine pure_ (i := 5) (N := some 49) (v := ?_) (a' := ?_) #[true, true, true, true, true, true, false, false, false, false, false, false, false, false, false, false, false, false, false, false, false, false, false, false, false, false, false, false, false, false, false, false, false, false] rfl rfl (any_of HT_.out (by kernel_rfl)) (fun _ _ _ h => h) (Or.inl ⟨by rfl, ?_⟩) ?_ ?_
      rotate_left
      · intro w'
        go_simp
        with_reducible rfl
      rotate_left
      · simp only [Act.put, YL, YM, YN, i64_w, i32_w]
        rfl
      refine pure_ (i := 6) (N := some 50) (v := ?_) (a' := ?_) #[true, true, true, true, true, true, true, false, false, false, false, false, false, false, false, false, false, false, false, false, false, false, false, false, false, false, false, false, false, false, false, false, false, false] rfl rfl (any_of HT_.out (by kernel_rfl)) (fun _ _ _ h => h) (Or.inl ⟨by rfl, ?_⟩) ?_ ?_
      rotate_left
      · intro w'
        go_simp
        with_reducible rfl
      rotate_left
      · simp only [Act.put, YL, YM, YN, i64_w, i32_w]
        rfl
      refine pure_ (i := 7) (N := some 51) (v := undef) (a' := ?_) #[true, true, true, true, true, true, true, true, false, false, false, false, false, false, false, false, false, false, false, false, false, false, false, false, false, false, false, false, false, false, false, false, false, false] rfl rfl (any_of HT_.out (by kernel_rfl)) (fun _ _ _ h => h) (Or.inr ⟨by rfl, rfl⟩) ?_ ?_
      rotate_left
      · simp only [Act.put, YL, YM, YN, i64_w, i32_w]
        rfl
      refine pure_ (i := 8) (N := some 52) (v := undef) (a' := ?_) #[true, true, true, true, true, true, true, true, true, false, false, false, false, false, false, false, false, false, false, false, false, false, false, false, false, false, false, false, false, false, false, false, false, false] rfl rfl (any_of HT_.out (by kernel_rfl)) (fun _ _ _ h => h) (Or.inr ⟨by rfl, rfl⟩) ?_ ?_
      rotate_left
      · simp only [Act.put, YL, YM, YN, i64_w, i32_w]
        rfl
      refine pure_ (i := 9) (N := some 53) (v := undef) (a' := ?_) #[true, true, true, true, true, true, true, true, true, true, false, false, false, false, false, false, false, false, false, false, false, false, false, false, false, false, false, false, false, false, false, false, false, false] rfl rfl (any_of HT_.out (by kernel_rfl)) (fun _ _ _ h => h) (Or.inr ⟨by rfl, rfl⟩) ?_ ?_
      rotate_left
      · simp only [Act.put, YL, YM, YN, i64_w, i32_w]
        rfl
      refine pure_ (i := 10) (N := some 54) (v := undef) (a' := ?_) #[true, true, true, true, true, true, true, true, true, true, true, false, false, false, false, false, false, false, false, false, false, false, false, false, false, false, false, false, false, false, false, false, false, false] rfl rfl (any_of HT_.out (by kernel_rfl)) (fun _ _ _ h => h) (Or.inr ⟨by rfl, rfl⟩) ?_ ?_
      rotate_left
      · simp only [Act.put, YL, YM, YN, i64_w, i32_w]
        rfl
      refine pure_ (i := 11) (N := some 55) (v := undef) (a' := ?_) #[true, true, true, true, true, true, true, true, true, true, true, true, false, false, false, false, false, false, false, false, false, false, false, false, false, false, false, false, false, false, false, false, false, false] rfl rfl (any_of HT_.out (by kernel_rfl)) (fun _ _ _ h => h) (Or.inr ⟨by rfl, rfl⟩) ?_ ?_
      rotate_left
      · simp only [Act.put, YL, YM, YN, i64_w, i32_w]
        rfl
      refine pure_ (i := 12) (N := some 56) (v := undef) (a' := ?_) #[true, true, true, true, true, true, true, true, true, true, true, true, true, false, false, false, false, false, false, false, false, false, false, false, false, false, false, false, false, false, false, false, false, false] rfl rfl (any_of HT_.out (by kernel_rfl)) (fun _ _ _ h => h) (Or.inr ⟨by rfl, rfl⟩) ?_ ?_
      rotate_left
      · simp only [Act.put, YL, YM, YN, i64_w, i32_w]
        rfl
      refine pure_ (i := 13) (N := some 57) (v := undef) (a' := ?_) #[true, true, true, true, true, true, true, true, true, true, true, true, true, true, false, false, false, false, false, false, false, false, false, false, false, false, false, false, false, false, false, false, false, false] rfl rfl (any_of HT_.out (by kernel_rfl)) (fun _ _ _ h => h) (Or.inr ⟨by rfl, rfl⟩) ?_ ?_
      rotate_left
      · simp only [Act.put, YL, YM, YN, i64_w, i32_w]
        rfl
      refine pure_ (i := 14) (N := some 58) (v := ?_) (a' := ?_) #[true, true, true, true, true, true, true, true, true, true, true, true, true, true, true, false, false, false, false, false, false, false, false, false, false, false, false, false, false, false, false, false, false, false] rfl rfl (any_of HT_.out (by kernel_rfl)) (fun _ _ _ h => h) (Or.inl ⟨by rfl, ?_⟩) ?_ ?_
      rotate_left
      · intro w'
        go_simp
        with_reducible rfl
      rotate_left
      · simp only [Act.put, YL, YM, YN, i64_w, i32_w]
        rfl
      refine pure_ (i := 15) (N := some 59) (v := ?_) (a' := ?_) #[true, true, true, true, true, true, true, true, true, true, true, true, true, true, true, true, false, false, false, false, false, false, false, false, false, false, false, false, false, false, false, false, false, false] rfl rfl (any_of HT_.out (by kernel_rfl)) (fun _ _ _ h => h) (Or.inl ⟨by rfl, ?_⟩) ?_ ?_
      rotate_left
      · intro w'
        go_simp
        with_reducible rfl
      rotate_left
      · simp only [Act.put, YL, YM, YN, i64_w, i32_w]
        rfl
      refine pure_ (i := 16) (N := some 60) (v := undef) (a' := ?_) #[true, true, true, true, true, true, true, true, true, true, true, true, true, true, true, true, true, false, false, false, false, false, false, false, false, false, false, false, false, false, false, false, false, false] rfl rfl (any_of HT_.out (by kernel_rfl)) (fun _ _ _ h => h) (Or.inr ⟨by rfl, rfl⟩) ?_ ?_
      rotate_left
      · simp only [Act.put, YL, YM, YN, i64_w, i32_w]
        rfl
      refine pure_ (i := 17) (N := some 61) (v := undef) (a' := ?_) #[true, true, true, true, true, true, true, true, true, true, true, true, true, true, true, true, true, true, false, false, false, false, false, false, false, false, false, false, false, false, false, false, false, false] rfl rfl (any_of HT_.out (by kernel_rfl)) (fun _ _ _ h => h) (Or.inr ⟨by rfl, rfl⟩) ?_ ?_
      rotate_left
      · simp only [Act.put, YL, YM, YN, i64_w, i32_w]
        rfl
      refine pure_ (i := 18) (N := some 62) (v := undef) (a' := ?_) #[true, true, true, true, true, true, true, true, true, true, true, true, true, true, true, true, true, true, true, false, false, false, false, false, false, false, false, false, false, false, false, false, false, false] rfl rfl (any_of HT_.out (by kernel_rfl)) (fun _ _ _ h => h) (Or.inr ⟨by rfl, rfl⟩) ?_ ?_
      rotate_left
      · simp only [Act.put, YL, YM, YN, i64_w, i32_w]
        rfl
      refine pure_ (i := 19) (N := some 63) (v := undef) (a' := ?_) #[true, true, true, true, true, true, true, true, true, true, true, true, true, true, true, true, true, true, true, true, false, false, false, false, false, false, false, false, false, false, false, false, false, false] rfl rfl (any_of HT_.out (by kernel_rfl)) (fun _ _ _ h => h) (Or.inr ⟨by rfl, rfl⟩) ?_ ?_
      rotate_left
      · simp only [Act.put, YL, YM, YN, i64_w, i32_w]
        rfl
      refine pure_ (i := 20) (N := some 64) (v := undef) (a' := ?_) #[true, true, true, true, true, true, true, true, true, true, true, true, true, true, true, true, true, true, true, true, true, false, false, false, false, false, false, false, false, false, false, false, false, false] rfl rfl (any_of HT_.out (by kernel_rfl)) (fun _ _ _ h => h) (Or.inr ⟨by rfl, rfl⟩) ?_ ?_
      rotate_left
      · simp only [Act.put, YL, YM, YN, i64_w, i32_w]
        rfl
      refine pure_ (i := 21) (N := some 65) (v := ?_) (a' := ?_) #[true, true, true, true, true, true, true, true, true, true, true, true, true, true, true, true, true, true, true, true, true, true, false, false, false, false, false, false, false, false, false, false, false, false] rfl rfl (any_of HT_.out (by kernel_rfl)) (fun _ _ _ h => h) (Or.inl ⟨by rfl, ?_⟩) ?_ ?_
      rotate_left
      · intro w'
        go_simp
        with_reducible rfl
      rotate_left
      · simp only [Act.put, YL, YM, YN, i64_w, i32_w]
        rfl
      refine pure_ (i := 22) (N := some 66) (v := ?_) (a' := ?_) #[true, true, true, true, true, true, true, true, true, true, true, true, true, true, true, true, true, true, true, true, true, true, true, false, false, false, false, false, false, false, false, false, false, false] rfl rfl (any_of HT_.out (by kernel_rfl)) (fun _ _ _ h => h) (Or.inl ⟨by rfl, ?_⟩) ?_ ?_
      rotate_left
      · intro w'
        go_simp
        with_reducible rfl
      rotate_left
      · simp only [Act.put, YL, YM, YN, i64_w, i32_w]
        rfl
      refine pure_ (i := 23) (N := some 67) (v := undef) (a' := ?_) #[true, true, true, true, true, true, true, true, true, true, true, true, true, true, true, true, true, true, true, true, true, true, true, true, false, false, false, false, false, false, false, false, false, false] rfl rfl (any_of HT_.out (by kernel_rfl)) (fun _ _ _ h => h) (Or.inr ⟨by rfl, rfl⟩) ?_ ?_
      rotate_left
      · simp only [Act.put, YL, YM, YN, i64_w, i32_w]
        rfl
      refine pure_ (i := 24) (N := some 68) (v := undef) (a' := ?_) #[true, true, true, true, true, true, true, true, true, true, true, true, true, true, true, true, true, true, true, true, true, true, true, true, true, false, false, false, false, false, false, false, false, false] rfl rfl (any_of HT_.out (by kernel_rfl)) (fun _ _ _ h => h) (Or.inr ⟨by rfl, rfl⟩) ?_ ?_
      rotate_left
      · simp only [Act.put, YL, YM, YN, i64_w, i32_w]
        rfl
      refine pure_ (i := 25) (N := some 69) (v := undef) (a' := ?_) #[true, true, true, true, true, true, true, true, true, true, true, true, true, true, true, true, true, true, true, true, true, true, true, true, true, true, false, false, false, false, false, false, false, false] rfl rfl (any_of HT_.out (by kernel_rfl)) (fun _ _ _ h => h) (Or.inr ⟨by rfl, rfl⟩) ?_ ?_
      rotate_left
      · simp only [Act.put, YL, YM, YN, i64_w, i32_w]
        rfl
      refine pure_ (i := 26) (N := some 70) (v := undef) (a' := ?_) #[true, true, true, true, true, true, true, true, true, true, true, true, true, true, true, true, true, true, true, true, true, true, true, true, true, true, true, false, false, false, false, false, false, false] rfl rfl (any_of HT_.out (by kernel_rfl)) (fun _ _ _ h => h) (Or.inr ⟨by rfl, rfl⟩) ?_ ?_
      rotate_left
      · simp only [Act.put, YL, YM, YN, i64_w, i32_w]
        rfl
      refine pure_ (i := 27) (N := some 71) (v := undef) (a' := ?_) #[true, true, true, true, true, true, true, true, true, true, true, true, true, true, true, true, true, true, true, true, true, true, true, true, true, true, true, true, false, false, false, false, false, false] rfl rfl (any_of HT_.out (by kernel_rfl)) (fun _ _ _ h => h) (Or.inr ⟨by rfl, rfl⟩) ?_ ?_
      rotate_left
      · simp only [Act.put, YL, YM, YN, i64_w, i32_w]
        rfl
      refine pure_ (i := 28) (N := some 72) (v := undef) (a' := ?_) #[true, true, true, true, true, true, true, true, true, true, true, true, true, true, true, true, true, true, true, true, true, true, true, true, true, true, true, true, true, false, false, false, false, false] rfl rfl (any_of HT_.out (by kernel_rfl)) (fun _ _ _ h => h) (Or.inr ⟨by rfl, rfl⟩) ?_ ?_
      rotate_left
      · simp only [Act.put, YL, YM, YN, i64_w, i32_w]
        rfl
      refine pure_ (i := 29) (N := some 73) (v := undef) (a' := ?_) #[true, true, true, true, true, true, true, true, true, true, true, true, true, true, true, true, true, true, true, true, true, true, true, true, true, true, true, true, true, true, false, false, false, false] rfl rfl (any_of HT_.out (by kernel_rfl)) (fun _ _ _ h => h) (Or.inr ⟨by rfl, rfl⟩) ?_ ?_
      rotate_left
      · simp only [Act.put, YL, YM, YN, i64_w, i32_w]
        rfl
      refine pure_ (i := 30) (N := some 74) (v := undef) (a' := ?_) #[true, true, true, true, true, true, true, true, true, true, true, true, true, true, true, true, true, true, true, true, true, true, true, true, true, true, true, true, true, true, true, false, false, false] rfl rfl (any_of HT_.out (by kernel_rfl)) (fun _ _ _ h => h) (Or.inr ⟨by rfl, rfl⟩) ?_ ?_
      rotate_left
      · simp only [Act.put, YL, YM, YN, i64_w, i32_w]
        rfl
      refine pure_ (i := 31) (N := some 75) (v := undef) (a' := ?_) #[true, true, true, true, true, true, true, true, true, true, true, true, true, true, true, true, true, true, true, true, true, true, true, true, true, true, true, true, true, true, true, true, false, false] rfl rfl (any_of HT_.out (by kernel_rfl)) (fun _ _ _ h => h) (Or.inr ⟨by rfl, rfl⟩) ?_ ?_
      rotate_left
      · simp only [Act.put, YL, YM, YN, i64_w, i32_w]
        rfl
      refine pure_ (i := 32) (N := some 76) (v := ?_) (a' := ?_) #[true, true, true, true, true, true, true, true, true, true, true, true, true, true, true, true, true, true, true, true, true, true, true, true, true, true, true, true, true, true, true, true, true, false] rfl rfl (any_of HT_.out (by kernel_rfl)) (fun _ _ _ h => h) (Or.inl ⟨by rfl, ?_⟩) ?_ ?_
      rotate_left
      · intro w'
        go_simp
        with_reducible rfl
      rotate_left
      · simp only [Act.put, YL, YM, YN, i64_w, i32_w]
        rfl
      refine pure_ (i := 33) (N := some 19) (v := ?_) (a' := ?_) #[true, true, true, true, true, true, true, true, true, true, true, true, true, true, true, true, true, true, true, true, true, true, true, true, true, true, true, true, true, true, true, true, true, true] rfl rfl (any_of HT_.out (by kernel_rfl)) (fun _ _ _ h => h) (Or.inl ⟨by rfl, ?_⟩) ?_ ?_
      rotate_left
      · intro w'
        go_simp
        with_reducible rfl
      rotate_left
      · simp only [Act.put, YL, YM, YN, i64_w, i32_w]
        rfl
      refine done_ (done_of HT_.out (by kernel_rfl)) ?_
      try go_wp2
      go_meet
      case rel => exact ⟨_, (false), (by first | rfl | (simp; done) | (simp [*]; done)), H', ⟨by first | omega | exact Nat.le_refl _⟩, ⟨by (with_reducible repeat (first | apply YR | apply YS | apply YT)); exact Kd.R_mono HO305.out (fun _ hk => by first | exact hk.2 | exact trivial | simp_all)⟩, ⟨by (with_reducible repeat (first | apply YR | apply YS | apply YT)); exact Kd.R_mono HO309.out (fun _ hk => by first | exact hk.2 | exact trivial | simp_all)⟩, ⟨by (with_reducible repeat (first | refine YF ?_ _ | refine YG ?_ | refine YH ?_ _)); exact BK284.out⟩, ⟨by (with_reducible repeat (first | refine YF ?_ _ | refine YG ?_ | refine YH ?_ _)); exact BK285.out⟩, ⟨by (with_reducible repeat (first | refine YF ?_ _ | refine YG ?_ | refine YH ?_ _)); exact BK286.out⟩, ⟨by (with_reducible repeat (first | refine YF ?_ _ | refine YG ?_ | refine YH ?_ _)); exact BK294.out⟩, ⟨by (with_reducible repeat (first | refine YF ?_ _ | refine YG ?_ | refine YH ?_ _)); exact BK302.out⟩, ⟨by repeat (first | (with_reducible first | exact HB.out | apply YA | apply YB | apply YC | refine below_set ?_ GE284.out | refine below_set ?_ GE285.out | refine below_set ?_ GE286.out | refine below_set ?_ GE294.out | refine below_set ?_ GE302.out) | exact HB.out)⟩⟩
  case rest =>
    clear HC10
    try clear c1
    try clear p2
    try clear c3
    try clear c12
    try clear c13
    try clear c14
    try clear c15
    try clear c38
    try clear c38b0
    try clear c38b1
    try clear c38b2
    obtain ⟨kq, x19_9, rfl, HA, HJ9, HO_15, HO_17, BK284, BK285, BK286, BK294, BK302, HB⟩ := hcut
    cases kq with
    | zero => exact absurd HA.out (by simp [thalweglaw02_HeightDoes.j0])
    | succ kj9 =>
      have H := HA.out
      clear HA
      simp only [thalweglaw02_HeightDoes.j0] at H
      replace H := Option.bind_eq_some_iff.mp H
      obtain ⟨t329, A750, H⟩ := H
      replace H : (if t329 = true then (if x19_9 = true then ((height_Null.f a4).bind fun bt330 => ((thalwegref02_Null.f a4).bind fun bt336 => (if (bt330.1 == bt336.1 && (bt330.2.1 == bt336.2.1 && (bt330.2.2.1 == bt336.2.2.1 && (bt330.2.2.2.1 == bt336.2.2.2.1 && (bt330.2.2.2.2.1 == bt336.2.2.2.2.1 && (bt330.2.2.2.2.2 == bt336.2.2.2.2.2)))))) = true then ((height_Zero.f a4).bind fun bt342 => ((thalwegref02_Zero.f a4).bind fun bt348 => (if (bt342.1 == bt348.1 && (bt342.2.1 == bt348.2.1 && (bt342.2.2.1 == bt348.2.2.1 && (bt342.2.2.2.1 == bt348.2.2.2.1 && (bt342.2.2.2.2.1 == bt348.2.2.2.2.1 && (bt342.2.2.2.2.2 == bt348.2.2.2.2.2)))))) = true then (if (t287 == t295 && (t288 == t296 && (t289 == t297 && (t290 == t298 && (t291 == t299 && (t292 == t300)))))) = true then (if t293 = t301 then (if (strOfNums t303).toList = (strOfNums t307).toList then (some (t306 == t310)) else (none)) else (none)) else (none)) else (none)))) else (none)))) else (none)) else (none)) = some r := H
      have A75 := Aside0.mk A750
      clear A750
      by_cases c76 : t329 = true
      · subst c76
        have H1 : (if x19_9 = true then ((height_Null.f a4).bind fun bt330 => ((thalwegref02_Null.f a4).bind fun bt336 => (if (bt330.1 == bt336.1 && (bt330.2.1 == bt336.2.1 && (bt330.2.2.1 == bt336.2.2.1 && (bt330.2.2.2.1 == bt336.2.2.2.1 && (bt330.2.2.2.2.1 == bt336.2.2.2.2.1 && (bt330.2.2.2.2.2 == bt336.2.2.2.2.2)))))) = true then ((height_Zero.f a4).bind fun bt342 => ((thalwegref02_Zero.f a4).bind fun bt348 => (if (bt342.1 == bt348.1 && (bt342.2.1 == bt348.2.1 && (bt342.2.2.1 == bt348.2.2.1 && (bt342.2.2.2.1 == bt348.2.2.2.1 && (bt342.2.2.2.2.1 == bt348.2.2.2.2.1 && (bt342.2.2.2.2.2 == bt348.2.2.2.2.2)))))) = true then (if (t287 == t295 && (t288 == t296 && (t289 == t297 && (t290 == t298 && (t291 == t299 && (t292 == t300)))))) = true then (if t293 = t301 then (if (strOfNums t303).toList = (strOfNums t307).toList then (some (t306 == t310)) else (none)) else (none)) else (none)) else (none)))) else (none)))) else (none)) = some r := by rw [if_pos rfl] at H; exact H
        clear H
        have H := H1
        clear H1
        by_cases c77 : x19_9 = true
        · subst c77
          have H1 : ((height_Null.f a4).bind fun bt330 => ((thalwegref02_Null.f a4).bind fun bt336 => (if (bt330.1 == bt336.1 && (bt330.2.1 == bt336.2.1 && (bt330.2.2.1 == bt336.2.2.1 && (bt330.2.2.2.1 == bt336.2.2.2.1 && (bt330.2.2.2.2.1 == bt336.2.2.2.2.1 && (bt330.2.2.2.2.2 == bt336.2.2.2.2.2)))))) = true then ((height_Zero.f a4).bind fun bt342 => ((thalwegref02_Zero.f a4).bind fun bt348 => (if (bt342.1 == bt348.1 && (bt342.2.1 == bt348.2.1 && (bt342.2.2.1 == bt348.2.2.1 && (bt342.2.2.2.1 == bt348.2.2.2.1 && (bt342.2.2.2.2.1 == bt348.2.2.2.2.1 && (bt342.2.2.2.2.2 == bt348.2.2.2.2.2)))))) = true then (if (t287 == t295 && (t288 == t296 && (t289 == t297 && (t290 == t298 && (t291 == t299 && (t292 == t300)))))) = true then (if t293 = t301 then (if (strOfNums t303).toList = (strOfNums t307).toList then (some (t306 == t310)) else (none)) else (none)) else (none)) else (none)))) else (none)))) = some r := by rw [if_pos rfl] at H; exact H
          clear H
          have H := H1
          clear H1
          replace H := Option.bind_eq_some_iff.mp H
          obtain ⟨⟨t330, t331, t332, t333, t334, t335⟩, A780, H⟩ := H
          replace H : ((thalwegref02_Null.f a4).bind fun bt336 => (if (t330 == bt336.1 && (t331 == bt336.2.1 && (t332 == bt336.2.2.1 && (t333 == bt336.2.2.2.1 && (t334 == bt336.2.2.2.2.1 && (t335 == bt336.2.2.2.2.2)))))) = true then ((height_Zero.f a4).bind fun bt342 => ((thalwegref02_Zero.f a4).bind fun bt348 => (if (bt342.1 == bt348.1 && (bt342.2.1 == bt348.2.1 && (bt342.2.2.1 == bt348.2.2.1 && (bt342.2.2.2.1 == bt348.2.2.2.1 && (bt342.2.2.2.2.1 == bt348.2.2.2.2.1 && (bt342.2.2.2.2.2 == bt348.2.2.2.2.2)))))) = true then (if (t287 == t295 && (t288 == t296 && (t289 == t297 && (t290 == t298 && (t291 == t299 && (t292 == t300)))))) = true then (if t293 = t301 then (if (strOfNums t303).toList = (strOfNums t307).toList then (some (t306 == t310)) else (none)) else (none)) else (none)) else (none)))) else (none))) = some r := H
          have A78 := Aside0.mk A780
          clear A780
          replace H := Option.bind_eq_some_iff.mp H
          obtain ⟨⟨t336, t337, t338, t339, t340, t341⟩, A790, H⟩ := H
          replace H : (if (t330 == t336 && (t331 == t337 && (t332 == t338 && (t333 == t339 && (t334 == t340 && (t335 == t341)))))) = true then ((height_Zero.f a4).bind fun bt342 => ((thalwegref02_Zero.f a4).bind fun bt348 => (if (bt342.1 == bt348.1 && (bt342.2.1 == bt348.2.1 && (bt342.2.2.1 == bt348.2.2.1 && (bt342.2.2.2.1 == bt348.2.2.2.1 && (bt342.2.2.2.2.1 == bt348.2.2.2.2.1 && (bt342.2.2.2.2.2 == bt348.2.2.2.2.2)))))) = true then (if (t287 == t295 && (t288 == t296 && (t289 == t297 && (t290 == t298 && (t291 == t299 && (t292 == t300)))))) = true then (if t293 = t301 then (if (strOfNums t303).toList = (strOfNums t307).toList then (some (t306 == t310)) else (none)) else (none)) else (none)) else (none)))) else (none)) = some r := H
          have A79 := Aside0.mk A790
          clear A790
          by_cases c80 : (t330 == t336 && (t331 == t337 && (t332 == t338 && (t333 == t339 && (t334 == t340 && (t335 == t341)))))) = true
          rotate_left
          · rw [if_neg c80] at H
            exact absurd H (by simp)
          rw [if_pos c80] at H
          have c80b0 : (t330 == t336 && (t331 == t337 && (t332 == t338 && (t333 == t339 && (t334 == t340 && (t335 == t341)))))) = true := c80
          (try (have c80b1 : decide (t330 = t336 && (t331 == t337 && (t332 == t338 && (t333 == t339 && (t334 == t340 && (t335 == t341)))))) = true := by simpa using c80))
          (try (have c80b2 : (t330 == t336 && (t331 == t337 && (t332 == t338 && (t333 == t339 && (t334 == t340 && (t335 == t341)))))) = true := by simpa using c80))
          clear c80
          replace H := Option.bind_eq_some_iff.mp H
          obtain ⟨⟨t342, t343, t344, t345, t346, t347⟩, A810, H⟩ := H
          replace H : ((thalwegref02_Zero.f a4).bind fun bt348 => (if (t342 == bt348.1 && (t343 == bt348.2.1 && (t344 == bt348.2.2.1 && (t345 == bt348.2.2.2.1 && (t346 == bt348.2.2.2.2.1 && (t347 == bt348.2.2.2.2.2)))))) = true then (if (t287 == t295 && (t288 == t296 && (t289 == t297 && (t290 == t298 && (t291 == t299 && (t292 == t300)))))) = true then (if t293 = t301 then (if (strOfNums t303).toList = (strOfNums t307).toList then (some (t306 == t310)) else (none)) else (none)) else (none)) else (none))) = some r := H
          have A81 := Aside0.mk A810
          clear A810
          replace H := Option.bind_eq_some_iff.mp H
          obtain ⟨⟨t348, t349, t350, t351, t352, t353⟩, A820, H⟩ := H
          replace H : (if (t342 == t348 && (t343 == t349 && (t344 == t350 && (t345 == t351 && (t346 == t352 && (t347 == t353)))))) = true then (if (t287 == t295 && (t288 == t296 && (t289 == t297 && (t290 == t298 && (t291 == t299 && (t292 == t300)))))) = true then (if t293 = t301 then (if (strOfNums t303).toList = (strOfNums t307).toList then (some (t306 == t310)) else (none)) else (none)) else (none)) else (none)) = some r := H
          have A82 := Aside0.mk A820
          clear A820
          by_cases c83 : (t342 == t348 && (t343 == t349 && (t344 == t350 && (t345 == t351 && (t346 == t352 && (t347 == t353)))))) = true
          rotate_left
          · rw [if_neg c83] at H
            exact absurd H (by simp)
          rw [if_pos c83] at H
          have c83b0 : (t342 == t348 && (t343 == t349 && (t344 == t350 && (t345 == t351 && (t346 == t352 && (t347 == t353)))))) = true := c83
          (try (have c83b1 : decide (t342 = t348 && (t343 == t349 && (t344 == t350 && (t345 == t351 && (t346 == t352 && (t347 == t353)))))) = true := by simpa using c83))
          (try (have c83b2 : (t342 == t348 && (t343 == t349 && (t344 == t350 && (t345 == t351 && (t346 == t352 && (t347 == t353)))))) = true := by simpa using c83))
          clear c83
          by_cases c84 : (t287 == t295 && (t288 == t296 && (t289 == t297 && (t290 == t298 && (t291 == t299 && (t292 == t300)))))) = true
          rotate_left
          · rw [if_neg c84] at H
            exact absurd H (by simp)
          rw [if_pos c84] at H
          have c84b0 : (t287 == t295 && (t288 == t296 && (t289 == t297 && (t290 == t298 && (t291 == t299 && (t292 == t300)))))) = true := c84
          (try (have c84b1 : decide (t287 = t295 && (t288 == t296 && (t289 == t297 && (t290 == t298 && (t291 == t299 && (t292 == t300)))))) = true := by simpa using c84))
          (try (have c84b2 : (t287 == t295 && (t288 == t296 && (t289 == t297 && (t290 == t298 && (t291 == t299 && (t292 == t300)))))) = true := by simpa using c84))
          clear c84
          by_cases c85 : t293 = t301
          rotate_left
          · rw [if_neg c85] at H
            exact absurd H (by simp)
          rw [if_pos c85] at H
          have c85b0 : (t293 == t301) = true := beq_iff_eq.mpr c85
          have c85b1 : (t293 != t301) = false := bne_eq_false_iff_eq.mpr c85
          clear c85
          by_cases c86 : (strOfNums t303).toList = (strOfNums t307).toList
          rotate_left
          · rw [if_neg c86] at H
            exact absurd H (by simp)
          rw [if_pos c86] at H
          have c86b0 : ((strOfNums t303).toList == (strOfNums t307).toList) = true := beq_iff_eq.mpr c86
          have c86b1 : ((strOfNums t303).toList != (strOfNums t307).toList) = false := bne_eq_false_iff_eq.mpr c86
          clear c86
          obtain rfl := Option.some.inj H
          go_wp2_with (first | ((with_reducible refine gate_callee (f := 20) rfl ?_); refine goesL_ (some 77) rfl rfl Try.func20 (by kernel_rfl) rfl #[] rfl (by (try simp only [YO, List.map_cons, List.map_nil]); first | done | rfl | (simp only [YQ, YP]; rfl)) ?_; (with_reducible refine (thalweglaw02_awake.calls kj9  true _ A75.out).mono ?_); rintro e w87 ⟨rfl, hb⟩; refine ⟨_, rfl, ?_⟩; have n0_ := Aside0.mk (YU (by (with_reducible repeat (first | apply YR | apply YS | apply YT)); exact HO_15.out) hb); have n1_ := Aside0.mk (YU (by (with_reducible repeat (first | apply YR | apply YS | apply YT)); exact HO_17.out) hb); have n2_ := Aside0.mk (YK (g := gb284) (o := .cells #[.bool a0_0, .int .i64 a0_1, .int .i64 a0_2, .int .i64 a0_3, .int .i64 a0_4, .int .i64 a0_5] 23 (0, 0)) (by (with_reducible repeat (first | refine YF ?_ _ | refine YG ?_ | refine YH ?_ _)); exact BK284.out) hb); have n3_ := Aside0.mk (YK (g := gb285) (o := .cells #[.bool a1_0, .int .i64 a1_1, .int .i64 a1_2, .int .i64 a1_3, .int .i64 a1_4, .int .i64 a1_5] 23 (0, 0)) (by (with_reducible repeat (first | refine YF ?_ _ | refine YG ?_ | refine YH ?_ _)); exact BK285.out) hb); have n4_ := Aside0.mk (YK (g := gb286) (o := .cells #[.int .i64 a2_0, .int .i64 a2_1, .int .i64 a2_2] 25 (0, 0)) (by (with_reducible repeat (first | refine YF ?_ _ | refine YG ?_ | refine YH ?_ _)); exact BK286.out) hb); have n5_ := Aside0.mk (YK (g := gb294) (o := .cells #[.bool t287, .int .i64 t288, .int .i64 t289, .int .i64 t290, .int .i64 t291, .int .i64 t292] 23 (0, 0)) (by (with_reducible repeat (first | refine YF ?_ _ | refine YG ?_ | refine YH ?_ _)); exact BK294.out) hb); have n6_ := Aside0.mk (YK (g := gb302) (o := .cells #[.bool t295, .int .i64 t296, .int .i64 t297, .int .i64 t298, .int .i64 t299, .int .i64 t300] 23 (0, 0)) (by (with_reducible repeat (first | refine YF ?_ _ | refine YG ?_ | refine YH ?_ _)); exact BK302.out) hb); have n7_ := Aside0.mk (YD (by repeat (first | (with_reducible first | exact HB.out | apply YA | apply YB | apply YC | refine below_set ?_ GE284.out | refine below_set ?_ GE285.out | refine below_set ?_ GE286.out | refine below_set ?_ GE294.out | refine below_set ?_ GE302.out) | exact HB.out)) hb); clear HO_15; clear HO_17; clear BK284; clear BK285; clear BK286; clear BK294; clear BK302; clear HB; have HO_15 := n0_; have HO_17 := n1_; have BK284 := n2_; have BK285 := n3_; have BK286 := n4_; have BK294 := n5_; have BK302 := n6_; have HB := n7_; clear n0_ n1_ n2_ n3_ n4_ n5_ n6_ n7_; (try clear hb); (try clear hb2); (try clear hk); (try clear hi)) | (go_at_call 21; (with_reducible refine (height_Null.calls a4 t330 t331 t332 t333 t334 t335 _ A78.out).mono ?_); rintro e w88 ⟨rfl, hb⟩; have n0_ := Aside0.mk (YU (by (with_reducible repeat (first | apply YR | apply YS | apply YT)); exact HO_15.out) hb); have n1_ := Aside0.mk (YU (by (with_reducible repeat (first | apply YR | apply YS | apply YT)); exact HO_17.out) hb); have n2_ := Aside0.mk (YK (g := gb284) (o := .cells #[.bool a0_0, .int .i64 a0_1, .int .i64 a0_2, .int .i64 a0_3, .int .i64 a0_4, .int .i64 a0_5] 23 (0, 0)) (by (with_reducible repeat (first | refine YF ?_ _ | refine YG ?_ | refine YH ?_ _)); exact BK284.out) hb); have n3_ := Aside0.mk (YK (g := gb285) (o := .cells #[.bool a1_0, .int .i64 a1_1, .int .i64 a1_2, .int .i64 a1_3, .int .i64 a1_4, .int .i64 a1_5] 23 (0, 0)) (by (with_reducible repeat (first | refine YF ?_ _ | refine YG ?_ | refine YH ?_ _)); exact BK285.out) hb); have n4_ := Aside0.mk (YK (g := gb286) (o := .cells #[.int .i64 a2_0, .int .i64 a2_1, .int .i64 a2_2] 25 (0, 0)) (by (with_reducible repeat (first | refine YF ?_ _ | refine YG ?_ | refine YH ?_ _)); exact BK286.out) hb); have n5_ := Aside0.mk (YK (g := gb294) (o := .cells #[.bool t287, .int .i64 t288, .int .i64 t289, .int .i64 t290, .int .i64 t291, .int .i64 t292] 23 (0, 0)) (by (with_reducible repeat (first | refine YF ?_ _ | refine YG ?_ | refine YH ?_ _)); exact BK294.out) hb); have n6_ := Aside0.mk (YK (g := gb302) (o := .cells #[.bool t295, .int .i64 t296, .int .i64 t297, .int .i64 t298, .int .i64 t299, .int .i64 t300] 23 (0, 0)) (by (with_reducible repeat (first | refine YF ?_ _ | refine YG ?_ | refine YH ?_ _)); exact BK302.out) hb); have n7_ := Aside0.mk (YD (by repeat (first | (with_reducible first | exact HB.out | apply YA | apply YB | apply YC | refine below_set ?_ GE284.out | refine below_set ?_ GE285.out | refine below_set ?_ GE286.out | refine below_set ?_ GE294.out | refine below_set ?_ GE302.out) | exact HB.out)) hb); clear HO_15; clear HO_17; clear BK284; clear BK285; clear BK286; clear BK294; clear BK302; clear HB; have HO_15 := n0_; have HO_17 := n1_; have BK284 := n2_; have BK285 := n3_; have BK286 := n4_; have BK294 := n5_; have BK302 := n6_; have HB := n7_; clear n0_ n1_ n2_ n3_ n4_ n5_ n6_ n7_; (try clear hb); (try clear hb2); (try clear hk); (try clear hi)) | (go_at_call 22; (with_reducible refine (thalwegref02_Null.calls a4 t336 t337 t338 t339 t340 t341 _ A79.out).mono ?_); rintro e w89 ⟨rfl, hb⟩; have n0_ := Aside0.mk (YU (by (with_reducible repeat (first | apply YR | apply YS | apply YT)); exact HO_15.out) hb); have n1_ := Aside0.mk (YU (by (with_reducible repeat (first | apply YR | apply YS | apply YT)); exact HO_17.out) hb); have n2_ := Aside0.mk (YK (g := gb284) (o := .cells #[.bool a0_0, .int .i64 a0_1, .int .i64 a0_2, .int .i64 a0_3, .int .i64 a0_4, .int .i64 a0_5] 23 (0, 0)) (by (with_reducible repeat (first | refine YF ?_ _ | refine YG ?_ | refine YH ?_ _)); exact BK284.out) hb); have n3_ := Aside0.mk (YK (g := gb285) (o := .cells #[.bool a1_0, .int .i64 a1_1, .int .i64 a1_2, .int .i64 a1_3, .int .i64 a1_4, .int .i64 a1_5] 23 (0, 0)) (by (with_reducible repeat (first | refine YF ?_ _ | refine YG ?_ | refine YH ?_ _)); exact BK285.out) hb); have n4_ := Aside0.mk (YK (g := gb286) (o := .cells #[.int .i64 a2_0, .int .i64 a2_1, .int .i64 a2_2] 25 (0, 0)) (by (with_reducible repeat (first | refine YF ?_ _ | refine YG ?_ | refine YH ?_ _)); exact BK286.out) hb); have n5_ := Aside0.mk (YK (g := gb294) (o := .cells #[.bool t287, .int .i64 t288, .int .i64 t289, .int .i64 t290, .int .i64 t291, .int .i64 t292] 23 (0, 0)) (by (with_reducible repeat (first | refine YF ?_ _ | refine YG ?_ | refine YH ?_ _)); exact BK294.out) hb); have n6_ := Aside0.mk (YK (g := gb302) (o := .cells #[.bool t295, .int .i64 t296, .int .i64 t297, .int .i64 t298, .int .i64 t299, .int .i64 t300] 23 (0, 0)) (by (with_reducible repeat (first | refine YF ?_ _ | refine YG ?_ | refine YH ?_ _)); exact BK302.out) hb); have n7_ := Aside0.mk (YD (by repeat (first | (with_reducible first | exact HB.out | apply YA | apply YB | apply YC | refine below_set ?_ GE284.out | refine below_set ?_ GE285.out | refine below_set ?_ GE286.out | refine below_set ?_ GE294.out | refine below_set ?_ GE302.out) | exact HB.out)) hb); clear HO_15; clear HO_17; clear BK284; clear BK285; clear BK286; clear BK294; clear BK302; clear HB; have HO_15 := n0_; have HO_17 := n1_; have BK284 := n2_; have BK285 := n3_; have BK286 := n4_; have BK294 := n5_; have BK302 := n6_; have HB := n7_; clear n0_ n1_ n2_ n3_ n4_ n5_ n6_ n7_; (try clear hb); (try clear hb2); (try clear hk); (try clear hi)) | (go_at_call 23; (with_reducible refine (height_Zero.calls a4 t342 t343 t344 t345 t346 t347 _ A81.out).mono ?_); rintro e w90 ⟨rfl, hb⟩; have n0_ := Aside0.mk (YU (by (with_reducible repeat (first | apply YR | apply YS | apply YT)); exact HO_15.out) hb); have n1_ := Aside0.mk (YU (by (with_reducible repeat (first | apply YR | apply YS | apply YT)); exact HO_17.out) hb); have n2_ := Aside0.mk (YK (g := gb284) (o := .cells #[.bool a0_0, .int .i64 a0_1, .int .i64 a0_2, .int .i64 a0_3, .int .i64 a0_4, .int .i64 a0_5] 23 (0, 0)) (by (with_reducible repeat (first | refine YF ?_ _ | refine YG ?_ | refine YH ?_ _)); exact BK284.out) hb); have n3_ := Aside0.mk (YK (g := gb285) (o := .cells #[.bool a1_0, .int .i64 a1_1, .int .i64 a1_2, .int .i64 a1_3, .int .i64 a1_4, .int .i64 a1_5] 23 (0, 0)) (by (with_reducible repeat (first | refine YF ?_ _ | refine YG ?_ | refine YH ?_ _)); exact BK285.out) hb); have n4_ := Aside0.mk (YK (g := gb286) (o := .cells #[.int .i64 a2_0, .int .i64 a2_1, .int .i64 a2_2] 25 (0, 0)) (by (with_reducible repeat (first | refine YF ?_ _ | refine YG ?_ | refine YH ?_ _)); exact BK286.out) hb); have n5_ := Aside0.mk (YK (g := gb294) (o := .cells #[.bool t287, .int .i64 t288, .int .i64 t289, .int .i64 t290, .int .i64 t291, .int .i64 t292] 23 (0, 0)) (by (with_reducible repeat (first | refine YF ?_ _ | refine YG ?_ | refine YH ?_ _)); exact BK294.out) hb); have n6_ := Aside0.mk (YK (g := gb302) (o := .cells #[.bool t295, .int .i64 t296, .int .i64 t297, .int .i64 t298, .int .i64 t299, .int .i64 t300] 23 (0, 0)) (by (with_reducible repeat (first | refine YF ?_ _ | refine YG ?_ | refine YH ?_ _)); exact BK302.out) hb); have n7_ := Aside0.mk (YD (by repeat (first | (with_reducible first | exact HB.out | apply YA | apply YB | apply YC | refine below_set ?_ GE284.out | refine below_set ?_ GE285.out | refine below_set ?_ GE286.out | refine below_set ?_ GE294.out | refine below_set ?_ GE302.out) | exact HB.out)) hb); clear HO_15; clear HO_17; clear BK284; clear BK285; clear BK286; clear BK294; clear BK302; clear HB; have HO_15 := n0_; have HO_17 := n1_; have BK284 := n2_; have BK285 := n3_; have BK286 := n4_; have BK294 := n5_; have BK302 := n6_; have HB := n7_; clear n0_ n1_ n2_ n3_ n4_ n5_ n6_ n7_; (try clear hb); (try clear hb2); (try clear hk); (try clear hi)) | (go_at_call 24; (with_reducible refine (thalwegref02_Zero.calls a4 t348 t349 t350 t351 t352 t353 _ A82.out).mono ?_); rintro e w91 ⟨rfl, hb⟩; have n0_ := Aside0.mk (YU (by (with_reducible repeat (first | apply YR | apply YS | apply YT)); exact HO_15.out) hb); have n1_ := Aside0.mk (YU (by (with_reducible repeat (first | apply YR | apply YS | apply YT)); exact HO_17.out) hb); have n2_ := Aside0.mk (YK (g := gb284) (o := .cells #[.bool a0_0, .int .i64 a0_1, .int .i64 a0_2, .int .i64 a0_3, .int .i64 a0_4, .int .i64 a0_5] 23 (0, 0)) (by (with_reducible repeat (first | refine YF ?_ _ | refine YG ?_ | refine YH ?_ _)); exact BK284.out) hb); have n3_ := Aside0.mk (YK (g := gb285) (o := .cells #[.bool a1_0, .int .i64 a1_1, .int .i64 a1_2, .int .i64 a1_3, .int .i64 a1_4, .int .i64 a1_5] 23 (0, 0)) (by (with_reducible repeat (first | refine YF ?_ _ | refine YG ?_ | refine YH ?_ _)); exact BK285.out) hb); have n4_ := Aside0.mk (YK (g := gb286) (o := .cells #[.int .i64 a2_0, .int .i64 a2_1, .int .i64 a2_2] 25 (0, 0)) (by (with_reducible repeat (first | refine YF ?_ _ | refine YG ?_ | refine YH ?_ _)); exact BK286.out) hb); have n5_ := Aside0.mk (YK (g := gb294) (o := .cells #[.bool t287, .int .i64 t288, .int .i64 t289, .int .i64 t290, .int .i64 t291, .int .i64 t292] 23 (0, 0)) (by (with_reducible repeat (first | refine YF ?_ _ | refine YG ?_ | refine YH ?_ _)); exact BK294.out) hb); have n6_ := Aside0.mk (YK (g := gb302) (o := .cells #[.bool t295, .int .i64 t296, .int .i64 t297, .int .i64 t298, .int .i64 t299, .int .i64 t300] 23 (0, 0)) (by (with_reducible repeat (first | refine YF ?_ _ | refine YG ?_ | refine YH ?_ _)); exact BK302.out) hb); have n7_ := Aside0.mk (YD (by repeat (first | (with_reducible first | exact HB.out | apply YA | apply YB | apply YC | refine below_set ?_ GE284.out | refine below_set ?_ GE285.out | refine below_set ?_ GE286.out | refine below_set ?_ GE294.out | refine below_set ?_ GE302.out) | exact HB.out)) hb); clear HO_15; clear HO_17; clear BK284; clear BK285; clear BK286; clear BK294; clear BK302; clear HB; have HO_15 := n0_; have HO_17 := n1_; have BK284 := n2_; have BK285 := n3_; have BK286 := n4_; have BK294 := n5_; have BK302 := n6_; have HB := n7_; clear n0_ n1_ n2_ n3_ n4_ n5_ n6_ n7_; (try clear hb); (try clear hb2); (try clear hk); (try clear hi); have hnb92 := NB294_284.out; have hnc92 := NB284_294.out; have hnb93 := NB294_285.out; have hnc93 := NB285_294.out; have hnb94 := NB294_286.out; have hnc94 := NB286_294.out; have hnb95 := NB294_302.out; have hnc95 := NB302_294.out; have hcz96_0 : w91.cell? ⟨gb294, 0, none⟩ = some (.bool t287) := (YI BK294.out 0).trans rfl; have hcz96_1 : w91.cell? ⟨gb294, 1, none⟩ = some (.int .i64 t288) := (YI BK294.out 1).trans rfl; have hcz96_2 : w91.cell? ⟨gb294, 2, none⟩ = some (.int .i64 t289) := (YI BK294.out 2).trans rfl; have hcz96_3 : w91.cell? ⟨gb294, 3, none⟩ = some (.int .i64 t290) := (YI BK294.out 3).trans rfl; have hcz96_4 : w91.cell? ⟨gb294, 4, none⟩ = some (.int .i64 t291) := (YI BK294.out 4).trans rfl; have hcz96_5 : w91.cell? ⟨gb294, 5, none⟩ = some (.int .i64 t292) := (YI BK294.out 5).trans rfl; have hfz96_0 := YJ BK294.out 0; have hfz96_1 := YJ BK294.out 1; have hfz96_2 := YJ BK294.out 2; have hfz96_3 := YJ BK294.out 3; have hfz96_4 := YJ BK294.out 4; have hfz96_5 := YJ BK294.out 5; have hnb97 := NB302_284.out; have hnc97 := NB284_302.out; have hnb98 := NB302_285.out; have hnc98 := NB285_302.out; have hnb99 := NB302_286.out; have hnc99 := NB286_302.out; have hcz100_0 : w91.cell? ⟨gb302, 0, none⟩ = some (.bool t295) := (YI BK302.out 0).trans rfl; have hcz100_1 : w91.cell? ⟨gb302, 1, none⟩ = some (.int .i64 t296) := (YI BK302.out 1).trans rfl; have hcz100_2 : w91.cell? ⟨gb302, 2, none⟩ = some (.int .i64 t297) := (YI BK302.out 2).trans rfl; have hcz100_3 : w91.cell? ⟨gb302, 3, none⟩ = some (.int .i64 t298) := (YI BK302.out 3).trans rfl; have hcz100_4 : w91.cell? ⟨gb302, 4, none⟩ = some (.int .i64 t299) := (YI BK302.out 4).trans rfl; have hcz100_5 : w91.cell? ⟨gb302, 5, none⟩ = some (.int .i64 t300) := (YI BK302.out 5).trans rfl; have hfz100_0 := YJ BK302.out 0; have hfz100_1 := YJ BK302.out 1; have hfz100_2 := YJ BK302.out 2; have hfz100_3 := YJ BK302.out 3; have hfz100_4 := YJ BK302.out 4; have hfz100_5 := YJ BK302.out 5; have hcv101 := own_string (P := Try.prog) Try.underlying29 Try.underlying5 Try.underlying9 (Kd.own_of_R HO_15.out); have hcv102 := own_string (P := Try.prog) Try.underlying29 Try.underlying5 Try.underlying9 (Kd.own_of_R HO_17.out)))
          go_ret
          exact ⟨by first | rfl | (simp [errW_none, errW_some] <;> rfl) | (simp [*, errW_none, errW_some] <;> rfl), by repeat (first | (with_reducible first | exact HB.out | apply YA | apply YB | apply YC | refine below_set ?_ GE284.out | refine below_set ?_ GE285.out | refine below_set ?_ GE286.out | refine below_set ?_ GE294.out | refine below_set ?_ GE302.out) | exact HB.out)⟩
        · replace c77 := Bool.eq_false_iff.mpr c77
          subst c77
          have H1 : (none) = some r := by rw [if_neg (show ¬ (false = true) by decide)] at H; exact H
          clear H
          have H := H1
          clear H1
          exact absurd H (by simp)
      · replace c76 := Bool.eq_false_iff.mpr c76
        subst c76
        have H1 : (none) = some r := by rw [if_neg (show ¬ (false = true) by decide)] at H; exact H
        clear H
        have H := H1
        clear H1
        exact absurd H (by simp)

end Go.Proofs.Ytjeahmlahkngaaa.P
