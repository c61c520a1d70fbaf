-- WRITTEN BY xprint.py, a program of this session that drives the kit's printer.
import Derived.Test.YtjeahmlahkngaaaP0
import Derived.Test.YtjeahmlahkngaaaP1
import Derived.Test.YtjeahmlahkngaaaP4
import Derived.Test.YtjeahmlahkngaaaP12
import Derived.Test.YtjeahmlahkngaaaP14
import Derived.Test.YtjeahmlahkngaaaP15
import Derived.Test.YtjeahmlahkngaaaP19
namespace Go.Proofs.Ytjeahmlahkngaaa.P
open Go.RowKit Go.Proofs.YtjeahmlahkngaaaW.PrintWords Go.Proofs.YtjeahmlahkngaaaW.PrintLast Go.Proofs.YtjeahmlahkngaaaW.PrintMore
open Go.Proofs.YtjeahmlahkngaaaW.PrintWords renaming below_alloc → YA, pw_below_drewN → YB, below_drew1 → YC, below_step → YD, below_size → YE, blk_drewN → YF, blk_drew → YG, blk_alloc → YH, blk_cell → YI, blk_frozen → YJ, blk_below → YK
open Go.Proofs.YtjeahmlahkngaaaW.PrintWords.Aside0 renaming mk → YL
open List renaming setIfInBounds_toArray → YM, set_cons_zero → YN, set_cons_succ → YO, map_toArray → YP, length_take → YQ, length_drop → YR
attribute [local go_sem] max2_int min2_int max_two min_two max_three min_three max_four min_four   -- for this text's walks alone
set_option linter.unusedVariables false
set_option linter.unusedSimpArgs false

attribute [local go_sem high] eqA23
/-! ### thalweglaw02_HeightOrder: function 4 -/
mutual
def thalweglaw02_HeightOrder.j0 : Nat → Bool → Bool → Bool → Bool → Int → Int → Int → Int → Int → Bool → Int → Int → Int → Int → Int → Bool → Int → Int → Int → Int → Int → Option (Bool)
  | 0, _, _, _, _, _, _, _, _, _, _, _, _, _, _, _, _, _, _, _, _, _ => none
  | k + 1, x7, x8, x9, x355000, x355001, x355002, x355003, x355004, x355005, x356000, x356001, x356002, x356003, x356004, x356005, x357000, x357001, x357002, x357003, x357004, x357005 => if x7 = true then (if x8 = true then (thalweglaw02_HeightOrder.j1 k true true x9 true x355000 x355001 x355002 x355003 x355004 x355005 x356000 x356001 x356002 x356003 x356004 x356005) else ((height_Less.f k x355000 x355001 x355002 x355003 x355004 x355005 x355000 x355001 x355002 x355003 x355004 x355005).bind fun t361 => (if t361 = true then (thalweglaw02_HeightOrder.j1 k true false x9 true x355000 x355001 x355002 x355003 x355004 x355005 x356000 x356001 x356002 x356003 x356004 x356005) else ((height_Less.f k x356000 x356001 x356002 x356003 x356004 x356005 x357000 x357001 x357002 x357003 x357004 x357005).bind fun t362 => (if t362 = true then ((height_Less.f k x355000 x355001 x355002 x355003 x355004 x355005 x357000 x357001 x357002 x357003 x357004 x357005).bind fun t363 => (if t363 = true then (if x9 = true then (thalweglaw02_HeightOrder.j1 k true false true false x355000 x355001 x355002 x355003 x355004 x355005 x356000 x356001 x356002 x356003 x356004 x356005) else (thalweglaw02_HeightOrder.j1 k true false false true x355000 x355001 x355002 x355003 x355004 x355005 x356000 x356001 x356002 x356003 x356004 x356005)) else (thalweglaw02_HeightOrder.j1 k true false x9 true x355000 x355001 x355002 x355003 x355004 x355005 x356000 x356001 x356002 x356003 x356004 x356005))) else (if x9 = true then (thalweglaw02_HeightOrder.j1 k true false true false x355000 x355001 x355002 x355003 x355004 x355005 x356000 x356001 x356002 x356003 x356004 x356005) else (thalweglaw02_HeightOrder.j1 k true false false true x355000 x355001 x355002 x355003 x355004 x355005 x356000 x356001 x356002 x356003 x356004 x356005))))))) else ((height_Less.f k x355000 x355001 x355002 x355003 x355004 x355005 x355000 x355001 x355002 x355003 x355004 x355005).bind fun t364 => (if t364 = true then (thalweglaw02_HeightOrder.j1 k false x8 x9 true x355000 x355001 x355002 x355003 x355004 x355005 x356000 x356001 x356002 x356003 x356004 x356005) else (if x9 = true then (thalweglaw02_HeightOrder.j1 k false x8 true false x355000 x355001 x355002 x355003 x355004 x355005 x356000 x356001 x356002 x356003 x356004 x356005) else (thalweglaw02_HeightOrder.j1 k false x8 false x8 x355000 x355001 x355002 x355003 x355004 x355005 x356000 x356001 x356002 x356003 x356004 x356005))))
def thalweglaw02_HeightOrder.j1 : Nat → Bool → Bool → Bool → Bool → Bool → Int → Int → Int → Int → Int → Bool → Int → Int → Int → Int → Int → Option (Bool)
  | 0, _, _, _, _, _, _, _, _, _, _, _, _, _, _, _, _ => none
  | k + 1, x7, x8, x9, x68, x355000, x355001, x355002, x355003, x355004, x355005, x356000, x356001, x356002, x356003, x356004, x356005 => if x68 = true then (none) else ((height_Level.f k x355000 x355001 x355002 x355003 x355004 x355005).bind fun bt365 => ((height_Level.f k x356000 x356001 x356002 x356003 x356004 x356005).bind fun bt368 => ((height_Order.f k bt365.1 bt365.2.1 bt365.2.2 bt368.1 bt368.2.1 bt368.2.2).bind fun t371 => ((height_Level.f k x356000 x356001 x356002 x356003 x356004 x356005).bind fun bt372 => ((height_Level.f k x355000 x355001 x355002 x355003 x355004 x355005).bind fun bt375 => ((height_Order.f k bt372.1 bt372.2.1 bt372.2.2 bt375.1 bt375.2.1 bt375.2.2).bind fun t378 => ((thalweglaw02_awake.f k).bind fun t379 => (if t379 = true then (if (wrap64 (t371 + t378)) = 0 then (if x9 = true then (if (x355000 == x356000 && (x355001 == x356001 && (x355002 == x356002 && (x355003 == x356003 && (x355004 == x356004 && (x355005 == x356005)))))) = true then (if t371 = 0 then (some true) else (some (x7 == (decide (t371 < 0))))) else (if x7 = true then (if t371 = 0 then (some true) else (some (true == (decide (t371 < 0))))) else (if x8 = true then (if t371 = 0 then (some true) else (some (false == (decide (t371 < 0))))) else (none)))) else (some true)) else (none)) else (none)))))))))
end
def thalweglaw02_HeightOrder.f (k : Nat) (a0_0 : Bool) (a0_1 : Int) (a0_2 : Int) (a0_3 : Int) (a0_4 : Int) (a0_5 : Int) (a1_0 : Bool) (a1_1 : Int) (a1_2 : Int) (a1_3 : Int) (a1_4 : Int) (a1_5 : Int) (a2_0 : Bool) (a2_1 : Int) (a2_2 : Int) (a2_3 : Int) (a2_4 : Int) (a2_5 : Int) : Option (Bool) := (height_Less.f k a0_0 a0_1 a0_2 a0_3 a0_4 a0_5 a1_0 a1_1 a1_2 a1_3 a1_4 a1_5).bind fun t357 => ((height_Less.f k a1_0 a1_1 a1_2 a1_3 a1_4 a1_5 a0_0 a0_1 a0_2 a0_3 a0_4 a0_5).bind fun t358 => ((height_Check.f k a0_0 a0_1 a0_2 a0_3 a0_4 a0_5).bind fun t359 => (if t359 = 0 then ((height_Check.f k a1_0 a1_1 a1_2 a1_3 a1_4 a1_5).bind fun t360 => (if t360 = 0 then (if a0_0 = true then (thalweglaw02_HeightOrder.j0 k t357 t358 false true a0_1 a0_2 a0_3 a0_4 a0_5 a1_0 a1_1 a1_2 a1_3 a1_4 a1_5 a2_0 a2_1 a2_2 a2_3 a2_4 a2_5) else (thalweglaw02_HeightOrder.j0 k t357 t358 (!a1_0) false a0_1 a0_2 a0_3 a0_4 a0_5 a1_0 a1_1 a1_2 a1_3 a1_4 a1_5 a2_0 a2_1 a2_2 a2_3 a2_4 a2_5)) else (thalweglaw02_HeightOrder.j0 k t357 t358 false a0_0 a0_1 a0_2 a0_3 a0_4 a0_5 a1_0 a1_1 a1_2 a1_3 a1_4 a1_5 a2_0 a2_1 a2_2 a2_3 a2_4 a2_5))) else (thalweglaw02_HeightOrder.j0 k t357 t358 false a0_0 a0_1 a0_2 a0_3 a0_4 a0_5 a1_0 a1_1 a1_2 a1_3 a1_4 a1_5 a2_0 a2_1 a2_2 a2_3 a2_4 a2_5))))
theorem thalweglaw02_HeightOrder.mono_l : ∀ k, (∀ y0 y1 y2 y3 y4 y5 y6 y7 y8 y9 y10 y11 y12 y13 y14 y15 y16 y17 y18 y19 y20, LeO (thalweglaw02_HeightOrder.j0 k y0 y1 y2 y3 y4 y5 y6 y7 y8 y9 y10 y11 y12 y13 y14 y15 y16 y17 y18 y19 y20) (thalweglaw02_HeightOrder.j0 (k + 1) y0 y1 y2 y3 y4 y5 y6 y7 y8 y9 y10 y11 y12 y13 y14 y15 y16 y17 y18 y19 y20)) ∧ (∀ y0 y1 y2 y3 y4 y5 y6 y7 y8 y9 y10 y11 y12 y13 y14 y15, LeO (thalweglaw02_HeightOrder.j1 k y0 y1 y2 y3 y4 y5 y6 y7 y8 y9 y10 y11 y12 y13 y14 y15) (thalweglaw02_HeightOrder.j1 (k + 1) y0 y1 y2 y3 y4 y5 y6 y7 y8 y9 y10 y11 y12 y13 y14 y15))
  | 0 => ⟨fun _ _ _ _ _ _ _ _ _ _ _ _ _ _ _ _ _ _ _ _ _ r h => by simp [thalweglaw02_HeightOrder.j0] at h, fun _ _ _ _ _ _ _ _ _ _ _ _ _ _ _ _ r h => by simp [thalweglaw02_HeightOrder.j1] at h⟩
  | k + 1 => by
    obtain ⟨ih0, ih1⟩ := thalweglaw02_HeightOrder.mono_l k
    refine ⟨?_, ?_⟩
    · intro y0 y1 y2 y3 y4 y5 y6 y7 y8 y9 y10 y11 y12 y13 y14 y15 y16 y17 y18 y19 y20
      unfold thalweglaw02_HeightOrder.j0
      repeat' first
      | (with_reducible exact ih0 _ _ _ _ _ _ _ _ _ _ _ _ _ _ _ _ _ _ _ _ _)
      | (with_reducible exact ih1 _ _ _ _ _ _ _ _ _ _ _ _ _ _ _ _)
      | (with_reducible exact height_Check.mono _ _ _ _ _ _ _)
      | (with_reducible exact height_Less.mono _ _ _ _ _ _ _ _ _ _ _ _ _)
      | (with_reducible exact height_Level.mono _ _ _ _ _ _ _)
      | (with_reducible exact height_Order.mono _ _ _ _ _ _ _)
      | (with_reducible exact thalweglaw02_awake.mono _)
      | (with_reducible exact LeO.refl _)
      | (with_reducible exact LeO.none _)
      | (with_reducible refine LeO.ite ?_ ?_)
      | (with_reducible refine LeO.bind ?_ (fun _ => ?_))
      | exact ih0 _ _ _ _ _ _ _ _ _ _ _ _ _ _ _ _ _ _ _ _ _
      | exact ih1 _ _ _ _ _ _ _ _ _ _ _ _ _ _ _ _
      | exact height_Check.mono _ _ _ _ _ _ _
      | exact height_Less.mono _ _ _ _ _ _ _ _ _ _ _ _ _
      | exact height_Level.mono _ _ _ _ _ _ _
      | exact height_Order.mono _ _ _ _ _ _ _
      | exact thalweglaw02_awake.mono _
      | exact LeO.none _
      | refine LeO.ite ?_ ?_
      | refine LeO.bind ?_ (fun _ => ?_)
    intro y0 y1 y2 y3 y4 y5 y6 y7 y8 y9 y10 y11 y12 y13 y14 y15
    unfold thalweglaw02_HeightOrder.j1
    repeat' first
    | (with_reducible exact ih0 _ _ _ _ _ _ _ _ _ _ _ _ _ _ _ _ _ _ _ _ _)
    | (with_reducible exact ih1 _ _ _ _ _ _ _ _ _ _ _ _ _ _ _ _)
    | (with_reducible exact height_Check.mono _ _ _ _ _ _ _)
    | (with_reducible exact height_Less.mono _ _ _ _ _ _ _ _ _ _ _ _ _)
    | (with_reducible exact height_Level.mono _ _ _ _ _ _ _)
    | (with_reducible exact height_Order.mono _ _ _ _ _ _ _)
    | (with_reducible exact thalweglaw02_awake.mono _)
    | (with_reducible exact LeO.refl _)
    | (with_reducible exact LeO.none _)
    | (with_reducible refine LeO.ite ?_ ?_)
    | (with_reducible refine LeO.bind ?_ (fun _ => ?_))
    | exact ih0 _ _ _ _ _ _ _ _ _ _ _ _ _ _ _ _ _ _ _ _ _
    | exact ih1 _ _ _ _ _ _ _ _ _ _ _ _ _ _ _ _
    | exact height_Check.mono _ _ _ _ _ _ _
    | exact height_Less.mono _ _ _ _ _ _ _ _ _ _ _ _ _
    | exact height_Level.mono _ _ _ _ _ _ _
    | exact height_Order.mono _ _ _ _ _ _ _
    | exact thalweglaw02_awake.mono _
    | exact LeO.none _
    | refine LeO.ite ?_ ?_
    | refine LeO.bind ?_ (fun _ => ?_)
theorem thalweglaw02_HeightOrder.mono : ∀ a0 a1 a2 a3 a4 a5 a6 a7 a8 a9 a10 a11 a12 a13 a14 a15 a16 a17 k, LeO (thalweglaw02_HeightOrder.f k a0 a1 a2 a3 a4 a5 a6 a7 a8 a9 a10 a11 a12 a13 a14 a15 a16 a17) (thalweglaw02_HeightOrder.f (k + 1) a0 a1 a2 a3 a4 a5 a6 a7 a8 a9 a10 a11 a12 a13 a14 a15 a16 a17) := by
  intro a0 a1 a2 a3 a4 a5 a6 a7 a8 a9 a10 a11 a12 a13 a14 a15 a16 a17 k
  obtain ⟨ih0, ih1⟩ := thalweglaw02_HeightOrder.mono_l k
  unfold thalweglaw02_HeightOrder.f
  repeat' first
      | (with_reducible exact ih0 _ _ _ _ _ _ _ _ _ _ _ _ _ _ _ _ _ _ _ _ _)
      | (with_reducible exact ih1 _ _ _ _ _ _ _ _ _ _ _ _ _ _ _ _)
      | (with_reducible exact height_Check.mono _ _ _ _ _ _ _)
      | (with_reducible exact height_Less.mono _ _ _ _ _ _ _ _ _ _ _ _ _)
      | (with_reducible exact height_Level.mono _ _ _ _ _ _ _)
      | (with_reducible exact height_Order.mono _ _ _ _ _ _ _)
      | (with_reducible exact thalweglaw02_awake.mono _)
      | (with_reducible exact LeO.refl _)
      | (with_reducible exact LeO.none _)
      | (with_reducible refine LeO.ite ?_ ?_)
      | (with_reducible refine LeO.bind ?_ (fun _ => ?_))
      | exact ih0 _ _ _ _ _ _ _ _ _ _ _ _ _ _ _ _ _ _ _ _ _
      | exact ih1 _ _ _ _ _ _ _ _ _ _ _ _ _ _ _ _
      | exact height_Check.mono _ _ _ _ _ _ _
      | exact height_Less.mono _ _ _ _ _ _ _ _ _ _ _ _ _
      | exact height_Level.mono _ _ _ _ _ _ _
      | exact height_Order.mono _ _ _ _ _ _ _
      | exact thalweglaw02_awake.mono _
      | exact LeO.none _
      | refine LeO.ite ?_ ?_
      | refine LeO.bind ?_ (fun _ => ?_)
set_option maxHeartbeats 8000000 in
set_option maxRecDepth 100000 in
theorem thalweglaw02_HeightOrder.calls (k : Nat) (a0_0 : Bool) (a0_1 : Int) (a0_2 : Int) (a0_3 : Int) (a0_4 : Int) (a0_5 : Int) (a1_0 : Bool) (a1_1 : Int) (a1_2 : Int) (a1_3 : Int) (a1_4 : Int) (a1_5 : Int) (a2_0 : Bool) (a2_1 : Int) (a2_2 : Int) (a2_3 : Int) (a2_4 : Int) (a2_5 : Int) (r : Bool) (w : World) (h : thalweglaw02_HeightOrder.f k a0_0 a0_1 a0_2 a0_3 a0_4 a0_5 a1_0 a1_1 a1_2 a1_3 a1_4 a1_5 a2_0 a2_1 a2_2 a2_3 a2_4 a2_5 = some r) :
    Calls Try.prog 4 #[.agg #[.bool a0_0, .int .i64 a0_1, .int .i64 a0_2, .int .i64 a0_3, .int .i64 a0_4, .int .i64 a0_5], .agg #[.bool a1_0, .int .i64 a1_1, .int .i64 a1_2, .int .i64 a1_3, .int .i64 a1_4, .int .i64 a1_5], .agg #[.bool a2_0, .int .i64 a2_1, .int .i64 a2_2, .int .i64 a2_3, .int .i64 a2_4, .int .i64 a2_5]] w fun e w' => e = .returned (.bool r) ∧ Below w.heap.size w w' := by
  have hu23 := Try.underlying23
  have HB := YL (Below.refl w.heap.size w)
  have H : ((height_Less.f k a0_0 a0_1 a0_2 a0_3 a0_4 a0_5 a1_0 a1_1 a1_2 a1_3 a1_4 a1_5).bind fun t357 => ((height_Less.f k a1_0 a1_1 a1_2 a1_3 a1_4 a1_5 a0_0 a0_1 a0_2 a0_3 a0_4 a0_5).bind fun t358 => ((height_Check.f k a0_0 a0_1 a0_2 a0_3 a0_4 a0_5).bind fun t359 => (if t359 = 0 then ((height_Check.f k a1_0 a1_1 a1_2 a1_3 a1_4 a1_5).bind fun t360 => (if t360 = 0 then (if a0_0 = true then (thalweglaw02_HeightOrder.j0 k t357 t358 false true a0_1 a0_2 a0_3 a0_4 a0_5 a1_0 a1_1 a1_2 a1_3 a1_4 a1_5 a2_0 a2_1 a2_2 a2_3 a2_4 a2_5) else (thalweglaw02_HeightOrder.j0 k t357 t358 (!a1_0) false a0_1 a0_2 a0_3 a0_4 a0_5 a1_0 a1_1 a1_2 a1_3 a1_4 a1_5 a2_0 a2_1 a2_2 a2_3 a2_4 a2_5)) else (thalweglaw02_HeightOrder.j0 k t357 t358 false a0_0 a0_1 a0_2 a0_3 a0_4 a0_5 a1_0 a1_1 a1_2 a1_3 a1_4 a1_5 a2_0 a2_1 a2_2 a2_3 a2_4 a2_5))) else (thalweglaw02_HeightOrder.j0 k t357 t358 false a0_0 a0_1 a0_2 a0_3 a0_4 a0_5 a1_0 a1_1 a1_2 a1_3 a1_4 a1_5 a2_0 a2_1 a2_2 a2_3 a2_4 a2_5))))) = some r := h
  clear h; replace H := Option.bind_eq_some_iff.mp H; obtain ⟨t357, A40, H⟩ := H
  replace H : ((height_Less.f k a1_0 a1_1 a1_2 a1_3 a1_4 a1_5 a0_0 a0_1 a0_2 a0_3 a0_4 a0_5).bind fun t358 => ((height_Check.f k a0_0 a0_1 a0_2 a0_3 a0_4 a0_5).bind fun t359 => (if t359 = 0 then ((height_Check.f k a1_0 a1_1 a1_2 a1_3 a1_4 a1_5).bind fun t360 => (if t360 = 0 then (if a0_0 = true then (thalweglaw02_HeightOrder.j0 k t357 t358 false true a0_1 a0_2 a0_3 a0_4 a0_5 a1_0 a1_1 a1_2 a1_3 a1_4 a1_5 a2_0 a2_1 a2_2 a2_3 a2_4 a2_5) else (thalweglaw02_HeightOrder.j0 k t357 t358 (!a1_0) false a0_1 a0_2 a0_3 a0_4 a0_5 a1_0 a1_1 a1_2 a1_3 a1_4 a1_5 a2_0 a2_1 a2_2 a2_3 a2_4 a2_5)) else (thalweglaw02_HeightOrder.j0 k t357 t358 false a0_0 a0_1 a0_2 a0_3 a0_4 a0_5 a1_0 a1_1 a1_2 a1_3 a1_4 a1_5 a2_0 a2_1 a2_2 a2_3 a2_4 a2_5))) else (thalweglaw02_HeightOrder.j0 k t357 t358 false a0_0 a0_1 a0_2 a0_3 a0_4 a0_5 a1_0 a1_1 a1_2 a1_3 a1_4 a1_5 a2_0 a2_1 a2_2 a2_3 a2_4 a2_5)))) = some r := H
  have A4 := YL A40; clear A40; replace H := Option.bind_eq_some_iff.mp H; obtain ⟨t358, A50, H⟩ := H
  replace H : ((height_Check.f k a0_0 a0_1 a0_2 a0_3 a0_4 a0_5).bind fun t359 => (if t359 = 0 then ((height_Check.f k a1_0 a1_1 a1_2 a1_3 a1_4 a1_5).bind fun t360 => (if t360 = 0 then (if a0_0 = true then (thalweglaw02_HeightOrder.j0 k t357 t358 false true a0_1 a0_2 a0_3 a0_4 a0_5 a1_0 a1_1 a1_2 a1_3 a1_4 a1_5 a2_0 a2_1 a2_2 a2_3 a2_4 a2_5) else (thalweglaw02_HeightOrder.j0 k t357 t358 (!a1_0) false a0_1 a0_2 a0_3 a0_4 a0_5 a1_0 a1_1 a1_2 a1_3 a1_4 a1_5 a2_0 a2_1 a2_2 a2_3 a2_4 a2_5)) else (thalweglaw02_HeightOrder.j0 k t357 t358 false a0_0 a0_1 a0_2 a0_3 a0_4 a0_5 a1_0 a1_1 a1_2 a1_3 a1_4 a1_5 a2_0 a2_1 a2_2 a2_3 a2_4 a2_5))) else (thalweglaw02_HeightOrder.j0 k t357 t358 false a0_0 a0_1 a0_2 a0_3 a0_4 a0_5 a1_0 a1_1 a1_2 a1_3 a1_4 a1_5 a2_0 a2_1 a2_2 a2_3 a2_4 a2_5))) = some r := H
  have A5 := YL A50; clear A50; have HC6 := YL H; clear H
  go_enter Try.func4, Try.ntmps4
  go_upto_region 3 with (first | ((with_reducible refine gate_dst (N := 3) rfl ?_); refine box_event ?hg (N := 3) ?hd (cs := #[.bool a0_0, .int .i64 a0_1, .int .i64 a0_2, .int .i64 a0_3, .int .i64 a0_4, .int .i64 a0_5]) (t := 23) ?hr ?_; (case hd => rfl); (case hg => rfl); (case hr => first | (go_simp; done) | (go_simp; rfl)); intro gb354 hg w7 hbox hb; have n0_ := YL (YD (by repeat (first | (with_reducible first | exact HB.out | apply YA | apply YB | apply YC) | exact HB.out)) hb); have n1_ := YL (hbox); have n2_ := YL ((by rw [hg]; exact (YE (by repeat (first | (with_reducible first | exact HB.out | apply YA | apply YB | apply YC) | exact HB.out))) : w.heap.size ≤ gb354)); have n3_ := YL ((by rw [hg]; exact (YE (by repeat (first | (with_reducible first | exact HB.out | apply YA | apply YB | apply YC) | exact HB.out))) : w.heap.size ≤ gb354)); clear HB; have HB := n0_; have BK354 := n1_; have GW354 := n2_; have GE354 := n3_; clear n0_ n1_ n2_ n3_; clear hb hbox hg) | ((with_reducible refine gate_dst (N := 4) rfl ?_); refine box_event ?hg (N := 4) ?hd (cs := #[.bool a1_0, .int .i64 a1_1, .int .i64 a1_2, .int .i64 a1_3, .int .i64 a1_4, .int .i64 a1_5]) (t := 23) ?hr ?_; (case hd => rfl); (case hg => rfl); (case hr => first | (go_simp; done) | (go_simp; rfl)); intro gb355 hg w8 hbox hb; have n0_ := YL (YK (g := gb354) (by (with_reducible repeat (first | refine YF ?_ _ | refine YG ?_ | refine YH ?_ _)); exact BK354.out) hb); have n1_ := YL (YD (by repeat (first | (with_reducible first | exact HB.out | apply YA | apply YB | apply YC) | exact HB.out)) hb); have n2_ := YL (hbox); have n3_ := YL ((by rw [hg]; exact (YE (by repeat (first | (with_reducible first | exact HB.out | apply YA | apply YB | apply YC) | exact HB.out))) : w.heap.size ≤ gb355)); have n4_ := YL ((by rw [hg]; exact (YE (by repeat (first | (with_reducible first | exact HB.out | apply YA | apply YB | apply YC) | exact HB.out))) : w.heap.size ≤ gb355)); have n5_ := YL ((by rw [hg]; exact Nat.ne_of_lt (blk_lt (g := gb354) (by (with_reducible repeat (first | refine YF ?_ _ | refine YG ?_ | refine YH ?_ _)); exact BK354.out)) : gb354 ≠ gb355)); have n6_ := YL ((by rw [hg]; exact Nat.ne_of_gt (blk_lt (g := gb354) (by (with_reducible repeat (first | refine YF ?_ _ | refine YG ?_ | refine YH ?_ _)); exact BK354.out)) : gb355 ≠ gb354)); clear BK354; clear HB; have BK354 := n0_; have HB := n1_; have BK355 := n2_; have GW355 := n3_; have GE355 := n4_; have NB354_355 := n5_; have NB355_354 := n6_; clear n0_ n1_ n2_ n3_ n4_ n5_ n6_; clear hb hbox hg) | ((with_reducible refine gate_dst (N := 5) rfl ?_); refine box_event ?hg (N := 5) ?hd (cs := #[.bool a2_0, .int .i64 a2_1, .int .i64 a2_2, .int .i64 a2_3, .int .i64 a2_4, .int .i64 a2_5]) (t := 23) ?hr ?_; (case hd => rfl); (case hg => rfl); (case hr => first | (go_simp; done) | (go_simp; rfl)); intro gb356 hg w9 hbox hb; have n0_ := YL (YK (g := gb354) (by (with_reducible repeat (first | refine YF ?_ _ | refine YG ?_ | refine YH ?_ _)); exact BK354.out) hb); have n1_ := YL (YK (g := gb355) (by (with_reducible repeat (first | refine YF ?_ _ | refine YG ?_ | refine YH ?_ _)); exact BK355.out) hb); have n2_ := YL (YD (by repeat (first | (with_reducible first | exact HB.out | apply YA | apply YB | apply YC) | exact HB.out)) hb); have n3_ := YL (hbox); have n4_ := YL ((by rw [hg]; exact (YE (by repeat (first | (with_reducible first | exact HB.out | apply YA | apply YB | apply YC) | exact HB.out))) : w.heap.size ≤ gb356)); have n5_ := YL ((by rw [hg]; exact (YE (by repeat (first | (with_reducible first | exact HB.out | apply YA | apply YB | apply YC) | exact HB.out))) : w.heap.size ≤ gb356)); have n6_ := YL ((by rw [hg]; exact Nat.ne_of_lt (blk_lt (g := gb354) (by (with_reducible repeat (first | refine YF ?_ _ | refine YG ?_ | refine YH ?_ _)); exact BK354.out)) : gb354 ≠ gb356)); have n7_ := YL ((by rw [hg]; exact Nat.ne_of_gt (blk_lt (g := gb354) (by (with_reducible repeat (first | refine YF ?_ _ | refine YG ?_ | refine YH ?_ _)); exact BK354.out)) : gb356 ≠ gb354)); have n8_ := YL ((by rw [hg]; exact Nat.ne_of_lt (blk_lt (g := gb355) (by (with_reducible repeat (first | refine YF ?_ _ | refine YG ?_ | refine YH ?_ _)); exact BK355.out)) : gb355 ≠ gb356)); have n9_ := YL ((by rw [hg]; exact Nat.ne_of_gt (blk_lt (g := gb355) (by (with_reducible repeat (first | refine YF ?_ _ | refine YG ?_ | refine YH ?_ _)); exact BK355.out)) : gb356 ≠ gb355)); clear BK354; clear BK355; clear HB; have BK354 := n0_; have BK355 := n1_; have HB := n2_; have BK356 := n3_; have GW356 := n4_; have GE356 := n5_; have NB354_356 := n6_; have NB356_354 := n7_; have NB355_356 := n8_; have NB356_355 := n9_; clear n0_ n1_ n2_ n3_ n4_ n5_ n6_ n7_ n8_ n9_; clear hb hbox hg; have hnb10 := NB354_355.out; have hnc10 := NB355_354.out; have hnb11 := NB354_356.out; have hnc11 := NB356_354.out; have hcz12_0 : w9.cell? ⟨gb354, 0, none⟩ = some (.bool a0_0) := (YI BK354.out 0).trans rfl; have hcz12_1 : w9.cell? ⟨gb354, 1, none⟩ = some (.int .i64 a0_1) := (YI BK354.out 1).trans rfl; have hcz12_2 : w9.cell? ⟨gb354, 2, none⟩ = some (.int .i64 a0_2) := (YI BK354.out 2).trans rfl; have hcz12_3 : w9.cell? ⟨gb354, 3, none⟩ = some (.int .i64 a0_3) := (YI BK354.out 3).trans rfl; have hcz12_4 : w9.cell? ⟨gb354, 4, none⟩ = some (.int .i64 a0_4) := (YI BK354.out 4).trans rfl; have hcz12_5 : w9.cell? ⟨gb354, 5, none⟩ = some (.int .i64 a0_5) := (YI BK354.out 5).trans rfl; have hfz12_0 := YJ BK354.out 0; have hfz12_1 := YJ BK354.out 1; have hfz12_2 := YJ BK354.out 2; have hfz12_3 := YJ BK354.out 3; have hfz12_4 := YJ BK354.out 4; have hfz12_5 := YJ BK354.out 5; have hnb13 := NB355_356.out; have hnc13 := NB356_355.out; have hcz14_0 : w9.cell? ⟨gb355, 0, none⟩ = some (.bool a1_0) := (YI BK355.out 0).trans rfl; have hcz14_1 : w9.cell? ⟨gb355, 1, none⟩ = some (.int .i64 a1_1) := (YI BK355.out 1).trans rfl; have hcz14_2 : w9.cell? ⟨gb355, 2, none⟩ = some (.int .i64 a1_2) := (YI BK355.out 2).trans rfl; have hcz14_3 : w9.cell? ⟨gb355, 3, none⟩ = some (.int .i64 a1_3) := (YI BK355.out 3).trans rfl; have hcz14_4 : w9.cell? ⟨gb355, 4, none⟩ = some (.int .i64 a1_4) := (YI BK355.out 4).trans rfl; have hcz14_5 : w9.cell? ⟨gb355, 5, none⟩ = some (.int .i64 a1_5) := (YI BK355.out 5).trans rfl; have hfz14_0 := YJ BK355.out 0; have hfz14_1 := YJ BK355.out 1; have hfz14_2 := YJ BK355.out 2; have hfz14_3 := YJ BK355.out 3; have hfz14_4 := YJ BK355.out 4; have hfz14_5 := YJ BK355.out 5) | ((with_reducible refine gate_callee (f := 14) rfl ?_); refine goesL_ (some 14) rfl rfl Try.func14 (by kernel_rfl) rfl #[.agg #[.bool a0_0, .int .i64 a0_1, .int .i64 a0_2, .int .i64 a0_3, .int .i64 a0_4, .int .i64 a0_5], .agg #[.bool a1_0, .int .i64 a1_1, .int .i64 a1_2, .int .i64 a1_3, .int .i64 a1_4, .int .i64 a1_5]] rfl (by (try simp only [YP, List.map_cons, List.map_nil]); first | done | rfl | (simp only [YR, YQ]; rfl)) ?_; (with_reducible refine (height_Less.calls k a0_0 a0_1 a0_2 a0_3 a0_4 a0_5 a1_0 a1_1 a1_2 a1_3 a1_4 a1_5 t357 _ A4.out).mono ?_); rintro e w15 ⟨rfl, hb⟩; refine ⟨_, rfl, ?_⟩; have n0_ := YL (YK (g := gb354) (by (with_reducible repeat (first | refine YF ?_ _ | refine YG ?_ | refine YH ?_ _)); exact BK354.out) hb); have n1_ := YL (YK (g := gb355) (by (with_reducible repeat (first | refine YF ?_ _ | refine YG ?_ | refine YH ?_ _)); exact BK355.out) hb); have n2_ := YL (YK (g := gb356) (by (with_reducible repeat (first | refine YF ?_ _ | refine YG ?_ | refine YH ?_ _)); exact BK356.out) hb); have n3_ := YL (YD (by repeat (first | (with_reducible first | exact HB.out | apply YA | apply YB | apply YC) | exact HB.out)) hb); clear BK354; clear BK355; clear BK356; clear HB; have BK354 := n0_; have BK355 := n1_; have BK356 := n2_; have HB := n3_; clear n0_ n1_ n2_ n3_; (try clear hb); (try clear hb2); (try clear hk); (try clear hi); have hcz16_0 : w15.cell? ⟨gb355, 0, none⟩ = some (.bool a1_0) := (YI BK355.out 0).trans rfl; have hcz16_1 : w15.cell? ⟨gb355, 1, none⟩ = some (.int .i64 a1_1) := (YI BK355.out 1).trans rfl; have hcz16_2 : w15.cell? ⟨gb355, 2, none⟩ = some (.int .i64 a1_2) := (YI BK355.out 2).trans rfl; have hcz16_3 : w15.cell? ⟨gb355, 3, none⟩ = some (.int .i64 a1_3) := (YI BK355.out 3).trans rfl; have hcz16_4 : w15.cell? ⟨gb355, 4, none⟩ = some (.int .i64 a1_4) := (YI BK355.out 4).trans rfl; have hcz16_5 : w15.cell? ⟨gb355, 5, none⟩ = some (.int .i64 a1_5) := (YI BK355.out 5).trans rfl; have hfz16_0 := YJ BK355.out 0; have hfz16_1 := YJ BK355.out 1; have hfz16_2 := YJ BK355.out 2; have hfz16_3 := YJ BK355.out 3; have hfz16_4 := YJ BK355.out 4; have hfz16_5 := YJ BK355.out 5; have hcz17_0 : w15.cell? ⟨gb354, 0, none⟩ = some (.bool a0_0) := (YI BK354.out 0).trans rfl; have hcz17_1 : w15.cell? ⟨gb354, 1, none⟩ = some (.int .i64 a0_1) := (YI BK354.out 1).trans rfl; have hcz17_2 : w15.cell? ⟨gb354, 2, none⟩ = some (.int .i64 a0_2) := (YI BK354.out 2).trans rfl; have hcz17_3 : w15.cell? ⟨gb354, 3, none⟩ = some (.int .i64 a0_3) := (YI BK354.out 3).trans rfl; have hcz17_4 : w15.cell? ⟨gb354, 4, none⟩ = some (.int .i64 a0_4) := (YI BK354.out 4).trans rfl; have hcz17_5 : w15.cell? ⟨gb354, 5, none⟩ = some (.int .i64 a0_5) := (YI BK354.out 5).trans rfl; have hfz17_0 := YJ BK354.out 0; have hfz17_1 := YJ BK354.out 1; have hfz17_2 := YJ BK354.out 2; have hfz17_3 := YJ BK354.out 3; have hfz17_4 := YJ BK354.out 4; have hfz17_5 := YJ BK354.out 5) | ((with_reducible refine gate_callee (f := 14) rfl ?_); refine goesL_ (some 17) rfl rfl Try.func14 (by kernel_rfl) rfl #[.agg #[.bool a1_0, .int .i64 a1_1, .int .i64 a1_2, .int .i64 a1_3, .int .i64 a1_4, .int .i64 a1_5], .agg #[.bool a0_0, .int .i64 a0_1, .int .i64 a0_2, .int .i64 a0_3, .int .i64 a0_4, .int .i64 a0_5]] rfl (by (try simp only [YP, List.map_cons, List.map_nil]); first | done | rfl | (simp only [YR, YQ]; rfl)) ?_; (with_reducible refine (height_Less.calls k a1_0 a1_1 a1_2 a1_3 a1_4 a1_5 a0_0 a0_1 a0_2 a0_3 a0_4 a0_5 t358 _ A5.out).mono ?_); rintro e w18 ⟨rfl, hb⟩; refine ⟨_, rfl, ?_⟩; have n0_ := YL (YK (g := gb354) (by (with_reducible repeat (first | refine YF ?_ _ | refine YG ?_ | refine YH ?_ _)); exact BK354.out) hb); have n1_ := YL (YK (g := gb355) (by (with_reducible repeat (first | refine YF ?_ _ | refine YG ?_ | refine YH ?_ _)); exact BK355.out) hb); have n2_ := YL (YK (g := gb356) (by (with_reducible repeat (first | refine YF ?_ _ | refine YG ?_ | refine YH ?_ _)); exact BK356.out) hb); have n3_ := YL (YD (by repeat (first | (with_reducible first | exact HB.out | apply YA | apply YB | apply YC) | exact HB.out)) hb); clear BK354; clear BK355; clear BK356; clear HB; have BK354 := n0_; have BK355 := n1_; have BK356 := n2_; have HB := n3_; clear n0_ n1_ n2_ n3_; (try clear hb); (try clear hb2); (try clear hk); (try clear hi)))
  (try simp only [Act.put, YM, YN, YO])
  go_cut [9] (fun v9 wc => ∃ (kq : Nat) (x9_5 : Bool), v9 = .bool x9_5 ∧ Aside0 (thalweglaw02_HeightOrder.j0 kq t357 t358 x9_5 a0_0 a0_1 a0_2 a0_3 a0_4 a0_5 a1_0 a1_1 a1_2 a1_3 a1_4 a1_5 a2_0 a2_1 a2_2 a2_3 a2_4 a2_5 = some r) ∧ Aside0 (kq ≤ k) ∧ Aside0 (wc.heap[gb354]? = some (.cells #[.bool a0_0, .int .i64 a0_1, .int .i64 a0_2, .int .i64 a0_3, .int .i64 a0_4, .int .i64 a0_5] 23 (0, 0))) ∧ Aside0 (wc.heap[gb355]? = some (.cells #[.bool a1_0, .int .i64 a1_1, .int .i64 a1_2, .int .i64 a1_3, .int .i64 a1_4, .int .i64 a1_5] 23 (0, 0))) ∧ Aside0 (wc.heap[gb356]? = some (.cells #[.bool a2_0, .int .i64 a2_1, .int .i64 a2_2, .int .i64 a2_3, .int .i64 a2_4, .int .i64 a2_5] 23 (0, 0))) ∧ Aside0 (Below w.heap.size w wc))
  case first =>
    have H := HC6.out
    clear HC6; replace H := Option.bind_eq_some_iff.mp H; obtain ⟨t359, A190, H⟩ := H
    replace H : (if t359 = 0 then ((height_Check.f k a1_0 a1_1 a1_2 a1_3 a1_4 a1_5).bind fun t360 => (if t360 = 0 then (if a0_0 = true then (thalweglaw02_HeightOrder.j0 k t357 t358 false true a0_1 a0_2 a0_3 a0_4 a0_5 a1_0 a1_1 a1_2 a1_3 a1_4 a1_5 a2_0 a2_1 a2_2 a2_3 a2_4 a2_5) else (thalweglaw02_HeightOrder.j0 k t357 t358 (!a1_0) false a0_1 a0_2 a0_3 a0_4 a0_5 a1_0 a1_1 a1_2 a1_3 a1_4 a1_5 a2_0 a2_1 a2_2 a2_3 a2_4 a2_5)) else (thalweglaw02_HeightOrder.j0 k t357 t358 false a0_0 a0_1 a0_2 a0_3 a0_4 a0_5 a1_0 a1_1 a1_2 a1_3 a1_4 a1_5 a2_0 a2_1 a2_2 a2_3 a2_4 a2_5))) else (thalweglaw02_HeightOrder.j0 k t357 t358 false a0_0 a0_1 a0_2 a0_3 a0_4 a0_5 a1_0 a1_1 a1_2 a1_3 a1_4 a1_5 a2_0 a2_1 a2_2 a2_3 a2_4 a2_5)) = some r := H
    have A19 := YL A190; clear A190
    by_cases c20 : t359 = 0
    · rw [if_pos c20] at H
      have c20b0 : (t359 == 0) = true := beq_iff_eq.mpr c20
      have c20b1 : (t359 != 0) = false := bne_eq_false_iff_eq.mpr c20
      clear c20
      (first | rw [c20b0] | (simp only [i64_w, i32_w]; rw [c20b0]) | skip)
      replace H := Option.bind_eq_some_iff.mp H; obtain ⟨t360, A210, H⟩ := H
      replace H : (if t360 = 0 then (if a0_0 = true then (thalweglaw02_HeightOrder.j0 k t357 t358 false true a0_1 a0_2 a0_3 a0_4 a0_5 a1_0 a1_1 a1_2 a1_3 a1_4 a1_5 a2_0 a2_1 a2_2 a2_3 a2_4 a2_5) else (thalweglaw02_HeightOrder.j0 k t357 t358 (!a1_0) false a0_1 a0_2 a0_3 a0_4 a0_5 a1_0 a1_1 a1_2 a1_3 a1_4 a1_5 a2_0 a2_1 a2_2 a2_3 a2_4 a2_5)) else (thalweglaw02_HeightOrder.j0 k t357 t358 false a0_0 a0_1 a0_2 a0_3 a0_4 a0_5 a1_0 a1_1 a1_2 a1_3 a1_4 a1_5 a2_0 a2_1 a2_2 a2_3 a2_4 a2_5)) = some r := H
      have A21 := YL A210; clear A210
      by_cases c22 : t360 = 0
      · rw [if_pos c22] at H
        have c22b0 : (t360 == 0) = true := beq_iff_eq.mpr c22
        have c22b1 : (t360 != 0) = false := bne_eq_false_iff_eq.mpr c22
        clear c22
        by_cases c23 : a0_0 = true
        · subst c23
          have H1 : (thalweglaw02_HeightOrder.j0 k t357 t358 false true a0_1 a0_2 a0_3 a0_4 a0_5 a1_0 a1_1 a1_2 a1_3 a1_4 a1_5 a2_0 a2_1 a2_2 a2_3 a2_4 a2_5) = some r := by rw [if_pos rfl] at H; exact H
          clear H
          have H := H1
          clear H1
          have H' := YL H
          clear H
          have hnb24 := NB354_355.out
          have hnc24 := NB355_354.out
          have hnb25 := NB354_356.out
          have hnc25 := NB356_354.out
          have hcz26_0 : w18.cell? ⟨gb354, 0, none⟩ = some (.bool true) := (YI BK354.out 0).trans rfl
          have hcz26_1 : w18.cell? ⟨gb354, 1, none⟩ = some (.int .i64 a0_1) := (YI BK354.out 1).trans rfl
          have hcz26_2 : w18.cell? ⟨gb354, 2, none⟩ = some (.int .i64 a0_2) := (YI BK354.out 2).trans rfl
          have hcz26_3 : w18.cell? ⟨gb354, 3, none⟩ = some (.int .i64 a0_3) := (YI BK354.out 3).trans rfl
          have hcz26_4 : w18.cell? ⟨gb354, 4, none⟩ = some (.int .i64 a0_4) := (YI BK354.out 4).trans rfl
          have hcz26_5 : w18.cell? ⟨gb354, 5, none⟩ = some (.int .i64 a0_5) := (YI BK354.out 5).trans rfl
          have hfz26_0 := YJ BK354.out 0
          have hfz26_1 := YJ BK354.out 1
          have hfz26_2 := YJ BK354.out 2
          have hfz26_3 := YJ BK354.out 3
          have hfz26_4 := YJ BK354.out 4
          have hfz26_5 := YJ BK354.out 5
          go_wp2_with (first | ((with_reducible refine gate_callee (f := 12) rfl ?_); refine goesL_ (some 19) rfl rfl Try.func12 (by kernel_rfl) rfl #[.agg #[.bool true, .int .i64 a0_1, .int .i64 a0_2, .int .i64 a0_3, .int .i64 a0_4, .int .i64 a0_5]] rfl (by (try simp only [YP, List.map_cons, List.map_nil]); first | done | rfl | (simp only [YR, YQ]; rfl)) ?_; (with_reducible refine (height_Check.calls k true a0_1 a0_2 a0_3 a0_4 a0_5 t359 _ A19.out).mono ?_); rintro e w27 ⟨rfl, hb⟩; refine ⟨_, rfl, ?_⟩; have n0_ := YL (YK (g := gb354) (by (with_reducible repeat (first | refine YF ?_ _ | refine YG ?_ | refine YH ?_ _)); exact BK354.out) hb); have n1_ := YL (YK (g := gb355) (by (with_reducible repeat (first | refine YF ?_ _ | refine YG ?_ | refine YH ?_ _)); exact BK355.out) hb); have n2_ := YL (YK (g := gb356) (by (with_reducible repeat (first | refine YF ?_ _ | refine YG ?_ | refine YH ?_ _)); exact BK356.out) hb); have n3_ := YL (YD (by repeat (first | (with_reducible first | exact HB.out | apply YA | apply YB | apply YC) | exact HB.out)) hb); clear BK354; clear BK355; clear BK356; clear HB; have BK354 := n0_; have BK355 := n1_; have BK356 := n2_; have HB := n3_; clear n0_ n1_ n2_ n3_; (try clear hb); (try clear hb2); (try clear hk); (try clear hi); have hnb28 := NB355_356.out; have hnc28 := NB356_355.out; have hcz29_0 : w27.cell? ⟨gb355, 0, none⟩ = some (.bool a1_0) := (YI BK355.out 0).trans rfl; have hcz29_1 : w27.cell? ⟨gb355, 1, none⟩ = some (.int .i64 a1_1) := (YI BK355.out 1).trans rfl; have hcz29_2 : w27.cell? ⟨gb355, 2, none⟩ = some (.int .i64 a1_2) := (YI BK355.out 2).trans rfl; have hcz29_3 : w27.cell? ⟨gb355, 3, none⟩ = some (.int .i64 a1_3) := (YI BK355.out 3).trans rfl; have hcz29_4 : w27.cell? ⟨gb355, 4, none⟩ = some (.int .i64 a1_4) := (YI BK355.out 4).trans rfl; have hcz29_5 : w27.cell? ⟨gb355, 5, none⟩ = some (.int .i64 a1_5) := (YI BK355.out 5).trans rfl; have hfz29_0 := YJ BK355.out 0; have hfz29_1 := YJ BK355.out 1; have hfz29_2 := YJ BK355.out 2; have hfz29_3 := YJ BK355.out 3; have hfz29_4 := YJ BK355.out 4; have hfz29_5 := YJ BK355.out 5) | (go_at_call 12; (with_reducible refine (height_Check.calls k a1_0 a1_1 a1_2 a1_3 a1_4 a1_5 t360 _ A21.out).mono ?_); rintro e w30 ⟨rfl, hb⟩; have n0_ := YL (YK (g := gb354) (by (with_reducible repeat (first | refine YF ?_ _ | refine YG ?_ | refine YH ?_ _)); exact BK354.out) hb); have n1_ := YL (YK (g := gb355) (by (with_reducible repeat (first | refine YF ?_ _ | refine YG ?_ | refine YH ?_ _)); exact BK355.out) hb); have n2_ := YL (YK (g := gb356) (by (with_reducible repeat (first | refine YF ?_ _ | refine YG ?_ | refine YH ?_ _)); exact BK356.out) hb); have n3_ := YL (YD (by repeat (first | (with_reducible first | exact HB.out | apply YA | apply YB | apply YC) | exact HB.out)) hb); clear BK354; clear BK355; clear BK356; clear HB; have BK354 := n0_; have BK355 := n1_; have BK356 := n2_; have HB := n3_; clear n0_ n1_ n2_ n3_; (try clear hb); (try clear hb2); (try clear hk); (try clear hi); have hcz31_0 : w30.cell? ⟨gb354, 0, none⟩ = some (.bool true) := (YI BK354.out 0).trans rfl; have hcz31_1 : w30.cell? ⟨gb354, 1, none⟩ = some (.int .i64 a0_1) := (YI BK354.out 1).trans rfl; have hcz31_2 : w30.cell? ⟨gb354, 2, none⟩ = some (.int .i64 a0_2) := (YI BK354.out 2).trans rfl; have hcz31_3 : w30.cell? ⟨gb354, 3, none⟩ = some (.int .i64 a0_3) := (YI BK354.out 3).trans rfl; have hcz31_4 : w30.cell? ⟨gb354, 4, none⟩ = some (.int .i64 a0_4) := (YI BK354.out 4).trans rfl; have hcz31_5 : w30.cell? ⟨gb354, 5, none⟩ = some (.int .i64 a0_5) := (YI BK354.out 5).trans rfl; have hfz31_0 := YJ BK354.out 0; have hfz31_1 := YJ BK354.out 1; have hfz31_2 := YJ BK354.out 2; have hfz31_3 := YJ BK354.out 3; have hfz31_4 := YJ BK354.out 4; have hfz31_5 := YJ BK354.out 5))
          go_meet
          case rel => exact ⟨_, (false), (by first | rfl | (simp; done) | (simp [*]; done)), H', ⟨by first | omega | exact Nat.le_refl _⟩, ⟨by (with_reducible repeat (first | refine YF ?_ _ | refine YG ?_ | refine YH ?_ _)); exact BK354.out⟩, ⟨by (with_reducible repeat (first | refine YF ?_ _ | refine YG ?_ | refine YH ?_ _)); exact BK355.out⟩, ⟨by (with_reducible repeat (first | refine YF ?_ _ | refine YG ?_ | refine YH ?_ _)); exact BK356.out⟩, ⟨by repeat (first | (with_reducible first | exact HB.out | apply YA | apply YB | apply YC) | exact HB.out)⟩⟩
        replace c23 := Bool.eq_false_iff.mpr c23
        subst c23
        have H1 : (thalweglaw02_HeightOrder.j0 k t357 t358 (!a1_0) false a0_1 a0_2 a0_3 a0_4 a0_5 a1_0 a1_1 a1_2 a1_3 a1_4 a1_5 a2_0 a2_1 a2_2 a2_3 a2_4 a2_5) = some r := by rw [if_neg (show ¬ (false = true) by decide)] at H; exact H
        clear H
        have H := H1
        clear H1
        have H' := YL H
        clear H
        have hnb32 := NB354_355.out
        have hnc32 := NB355_354.out
        have hnb33 := NB354_356.out
        have hnc33 := NB356_354.out
        have hcz34_0 : w18.cell? ⟨gb354, 0, none⟩ = some (.bool false) := (YI BK354.out 0).trans rfl
        have hcz34_1 : w18.cell? ⟨gb354, 1, none⟩ = some (.int .i64 a0_1) := (YI BK354.out 1).trans rfl
        have hcz34_2 : w18.cell? ⟨gb354, 2, none⟩ = some (.int .i64 a0_2) := (YI BK354.out 2).trans rfl
        have hcz34_3 : w18.cell? ⟨gb354, 3, none⟩ = some (.int .i64 a0_3) := (YI BK354.out 3).trans rfl
        have hcz34_4 : w18.cell? ⟨gb354, 4, none⟩ = some (.int .i64 a0_4) := (YI BK354.out 4).trans rfl
        have hcz34_5 : w18.cell? ⟨gb354, 5, none⟩ = some (.int .i64 a0_5) := (YI BK354.out 5).trans rfl
        have hfz34_0 := YJ BK354.out 0
        have hfz34_1 := YJ BK354.out 1
        have hfz34_2 := YJ BK354.out 2
        have hfz34_3 := YJ BK354.out 3
        have hfz34_4 := YJ BK354.out 4
        have hfz34_5 := YJ BK354.out 5
        go_wp2_with (first | ((with_reducible refine gate_callee (f := 12) rfl ?_); refine goesL_ (some 19) rfl rfl Try.func12 (by kernel_rfl) rfl #[.agg #[.bool false, .int .i64 a0_1, .int .i64 a0_2, .int .i64 a0_3, .int .i64 a0_4, .int .i64 a0_5]] rfl (by (try simp only [YP, List.map_cons, List.map_nil]); first | done | rfl | (simp only [YR, YQ]; rfl)) ?_; (with_reducible refine (height_Check.calls k false a0_1 a0_2 a0_3 a0_4 a0_5 t359 _ A19.out).mono ?_); rintro e w35 ⟨rfl, hb⟩; refine ⟨_, rfl, ?_⟩; have n0_ := YL (YK (g := gb354) (by (with_reducible repeat (first | refine YF ?_ _ | refine YG ?_ | refine YH ?_ _)); exact BK354.out) hb); have n1_ := YL (YK (g := gb355) (by (with_reducible repeat (first | refine YF ?_ _ | refine YG ?_ | refine YH ?_ _)); exact BK355.out) hb); have n2_ := YL (YK (g := gb356) (by (with_reducible repeat (first | refine YF ?_ _ | refine YG ?_ | refine YH ?_ _)); exact BK356.out) hb); have n3_ := YL (YD (by repeat (first | (with_reducible first | exact HB.out | apply YA | apply YB | apply YC) | exact HB.out)) hb); clear BK354; clear BK355; clear BK356; clear HB; have BK354 := n0_; have BK355 := n1_; have BK356 := n2_; have HB := n3_; clear n0_ n1_ n2_ n3_; (try clear hb); (try clear hb2); (try clear hk); (try clear hi); have hnb36 := NB355_356.out; have hnc36 := NB356_355.out; have hcz37_0 : w35.cell? ⟨gb355, 0, none⟩ = some (.bool a1_0) := (YI BK355.out 0).trans rfl; have hcz37_1 : w35.cell? ⟨gb355, 1, none⟩ = some (.int .i64 a1_1) := (YI BK355.out 1).trans rfl; have hcz37_2 : w35.cell? ⟨gb355, 2, none⟩ = some (.int .i64 a1_2) := (YI BK355.out 2).trans rfl; have hcz37_3 : w35.cell? ⟨gb355, 3, none⟩ = some (.int .i64 a1_3) := (YI BK355.out 3).trans rfl; have hcz37_4 : w35.cell? ⟨gb355, 4, none⟩ = some (.int .i64 a1_4) := (YI BK355.out 4).trans rfl; have hcz37_5 : w35.cell? ⟨gb355, 5, none⟩ = some (.int .i64 a1_5) := (YI BK355.out 5).trans rfl; have hfz37_0 := YJ BK355.out 0; have hfz37_1 := YJ BK355.out 1; have hfz37_2 := YJ BK355.out 2; have hfz37_3 := YJ BK355.out 3; have hfz37_4 := YJ BK355.out 4; have hfz37_5 := YJ BK355.out 5) | (go_at_call 12; (with_reducible refine (height_Check.calls k a1_0 a1_1 a1_2 a1_3 a1_4 a1_5 t360 _ A21.out).mono ?_); rintro e w38 ⟨rfl, hb⟩; have n0_ := YL (YK (g := gb354) (by (with_reducible repeat (first | refine YF ?_ _ | refine YG ?_ | refine YH ?_ _)); exact BK354.out) hb); have n1_ := YL (YK (g := gb355) (by (with_reducible repeat (first | refine YF ?_ _ | refine YG ?_ | refine YH ?_ _)); exact BK355.out) hb); have n2_ := YL (YK (g := gb356) (by (with_reducible repeat (first | refine YF ?_ _ | refine YG ?_ | refine YH ?_ _)); exact BK356.out) hb); have n3_ := YL (YD (by repeat (first | (with_reducible first | exact HB.out | apply YA | apply YB | apply YC) | exact HB.out)) hb); clear BK354; clear BK355; clear BK356; clear HB; have BK354 := n0_; have BK355 := n1_; have BK356 := n2_; have HB := n3_; clear n0_ n1_ n2_ n3_; (try clear hb); (try clear hb2); (try clear hk); (try clear hi); have hcz39_0 : w38.cell? ⟨gb354, 0, none⟩ = some (.bool false) := (YI BK354.out 0).trans rfl; have hcz39_1 : w38.cell? ⟨gb354, 1, none⟩ = some (.int .i64 a0_1) := (YI BK354.out 1).trans rfl; have hcz39_2 : w38.cell? ⟨gb354, 2, none⟩ = some (.int .i64 a0_2) := (YI BK354.out 2).trans rfl; have hcz39_3 : w38.cell? ⟨gb354, 3, none⟩ = some (.int .i64 a0_3) := (YI BK354.out 3).trans rfl; have hcz39_4 : w38.cell? ⟨gb354, 4, none⟩ = some (.int .i64 a0_4) := (YI BK354.out 4).trans rfl; have hcz39_5 : w38.cell? ⟨gb354, 5, none⟩ = some (.int .i64 a0_5) := (YI BK354.out 5).trans rfl; have hfz39_0 := YJ BK354.out 0; have hfz39_1 := YJ BK354.out 1; have hfz39_2 := YJ BK354.out 2; have hfz39_3 := YJ BK354.out 3; have hfz39_4 := YJ BK354.out 4; have hfz39_5 := YJ BK354.out 5; have hcz40_0 : w38.cell? ⟨gb355, 0, none⟩ = some (.bool a1_0) := (YI BK355.out 0).trans rfl; have hcz40_1 : w38.cell? ⟨gb355, 1, none⟩ = some (.int .i64 a1_1) := (YI BK355.out 1).trans rfl; have hcz40_2 : w38.cell? ⟨gb355, 2, none⟩ = some (.int .i64 a1_2) := (YI BK355.out 2).trans rfl; have hcz40_3 : w38.cell? ⟨gb355, 3, none⟩ = some (.int .i64 a1_3) := (YI BK355.out 3).trans rfl; have hcz40_4 : w38.cell? ⟨gb355, 4, none⟩ = some (.int .i64 a1_4) := (YI BK355.out 4).trans rfl; have hcz40_5 : w38.cell? ⟨gb355, 5, none⟩ = some (.int .i64 a1_5) := (YI BK355.out 5).trans rfl; have hfz40_0 := YJ BK355.out 0; have hfz40_1 := YJ BK355.out 1; have hfz40_2 := YJ BK355.out 2; have hfz40_3 := YJ BK355.out 3; have hfz40_4 := YJ BK355.out 4; have hfz40_5 := YJ BK355.out 5))
        go_meet
        case rel => exact ⟨_, (!a1_0), (by first | rfl | (simp; done) | (simp [*]; done)), H', ⟨by first | omega | exact Nat.le_refl _⟩, ⟨by (with_reducible repeat (first | refine YF ?_ _ | refine YG ?_ | refine YH ?_ _)); exact BK354.out⟩, ⟨by (with_reducible repeat (first | refine YF ?_ _ | refine YG ?_ | refine YH ?_ _)); exact BK355.out⟩, ⟨by (with_reducible repeat (first | refine YF ?_ _ | refine YG ?_ | refine YH ?_ _)); exact BK356.out⟩, ⟨by repeat (first | (with_reducible first | exact HB.out | apply YA | apply YB | apply YC) | exact HB.out)⟩⟩
      rw [if_neg c22] at H
      have c22b0 : (t360 == 0) = false := beq_eq_false_iff_ne.mpr c22
      have c22b1 : (t360 != 0) = true := bne_iff_ne.mpr c22
      have H' := YL H
      clear H
      have hnb41 := NB354_355.out
      have hnc41 := NB355_354.out
      have hnb42 := NB354_356.out
      have hnc42 := NB356_354.out
      have hcz43_0 : w18.cell? ⟨gb354, 0, none⟩ = some (.bool a0_0) := (YI BK354.out 0).trans rfl
      have hcz43_1 : w18.cell? ⟨gb354, 1, none⟩ = some (.int .i64 a0_1) := (YI BK354.out 1).trans rfl
      have hcz43_2 : w18.cell? ⟨gb354, 2, none⟩ = some (.int .i64 a0_2) := (YI BK354.out 2).trans rfl
      have hcz43_3 : w18.cell? ⟨gb354, 3, none⟩ = some (.int .i64 a0_3) := (YI BK354.out 3).trans rfl
      have hcz43_4 : w18.cell? ⟨gb354, 4, none⟩ = some (.int .i64 a0_4) := (YI BK354.out 4).trans rfl
      have hcz43_5 : w18.cell? ⟨gb354, 5, none⟩ = some (.int .i64 a0_5) := (YI BK354.out 5).trans rfl
      have hfz43_0 := YJ BK354.out 0
      have hfz43_1 := YJ BK354.out 1
      have hfz43_2 := YJ BK354.out 2
      have hfz43_3 := YJ BK354.out 3
      have hfz43_4 := YJ BK354.out 4
      have hfz43_5 := YJ BK354.out 5
      go_wp2_with (first | ((with_reducible refine gate_callee (f := 12) rfl ?_); refine goesL_ (some 19) rfl rfl Try.func12 (by kernel_rfl) rfl #[.agg #[.bool a0_0, .int .i64 a0_1, .int .i64 a0_2, .int .i64 a0_3, .int .i64 a0_4, .int .i64 a0_5]] rfl (by (try simp only [YP, List.map_cons, List.map_nil]); first | done | rfl | (simp only [YR, YQ]; rfl)) ?_; (with_reducible refine (height_Check.calls k a0_0 a0_1 a0_2 a0_3 a0_4 a0_5 t359 _ A19.out).mono ?_); rintro e w44 ⟨rfl, hb⟩; refine ⟨_, rfl, ?_⟩; have n0_ := YL (YK (g := gb354) (by (with_reducible repeat (first | refine YF ?_ _ | refine YG ?_ | refine YH ?_ _)); exact BK354.out) hb); have n1_ := YL (YK (g := gb355) (by (with_reducible repeat (first | refine YF ?_ _ | refine YG ?_ | refine YH ?_ _)); exact BK355.out) hb); have n2_ := YL (YK (g := gb356) (by (with_reducible repeat (first | refine YF ?_ _ | refine YG ?_ | refine YH ?_ _)); exact BK356.out) hb); have n3_ := YL (YD (by repeat (first | (with_reducible first | exact HB.out | apply YA | apply YB | apply YC) | exact HB.out)) hb); clear BK354; clear BK355; clear BK356; clear HB; have BK354 := n0_; have BK355 := n1_; have BK356 := n2_; have HB := n3_; clear n0_ n1_ n2_ n3_; (try clear hb); (try clear hb2); (try clear hk); (try clear hi); have hnb45 := NB355_356.out; have hnc45 := NB356_355.out; have hcz46_0 : w44.cell? ⟨gb355, 0, none⟩ = some (.bool a1_0) := (YI BK355.out 0).trans rfl; have hcz46_1 : w44.cell? ⟨gb355, 1, none⟩ = some (.int .i64 a1_1) := (YI BK355.out 1).trans rfl; have hcz46_2 : w44.cell? ⟨gb355, 2, none⟩ = some (.int .i64 a1_2) := (YI BK355.out 2).trans rfl; have hcz46_3 : w44.cell? ⟨gb355, 3, none⟩ = some (.int .i64 a1_3) := (YI BK355.out 3).trans rfl; have hcz46_4 : w44.cell? ⟨gb355, 4, none⟩ = some (.int .i64 a1_4) := (YI BK355.out 4).trans rfl; have hcz46_5 : w44.cell? ⟨gb355, 5, none⟩ = some (.int .i64 a1_5) := (YI BK355.out 5).trans rfl; have hfz46_0 := YJ BK355.out 0; have hfz46_1 := YJ BK355.out 1; have hfz46_2 := YJ BK355.out 2; have hfz46_3 := YJ BK355.out 3; have hfz46_4 := YJ BK355.out 4; have hfz46_5 := YJ BK355.out 5) | (go_at_call 12; (with_reducible refine (height_Check.calls k a1_0 a1_1 a1_2 a1_3 a1_4 a1_5 t360 _ A21.out).mono ?_); rintro e w47 ⟨rfl, hb⟩; have n0_ := YL (YK (g := gb354) (by (with_reducible repeat (first | refine YF ?_ _ | refine YG ?_ | refine YH ?_ _)); exact BK354.out) hb); have n1_ := YL (YK (g := gb355) (by (with_reducible repeat (first | refine YF ?_ _ | refine YG ?_ | refine YH ?_ _)); exact BK355.out) hb); have n2_ := YL (YK (g := gb356) (by (with_reducible repeat (first | refine YF ?_ _ | refine YG ?_ | refine YH ?_ _)); exact BK356.out) hb); have n3_ := YL (YD (by repeat (first | (with_reducible first | exact HB.out | apply YA | apply YB | apply YC) | exact HB.out)) hb); clear BK354; clear BK355; clear BK356; clear HB; have BK354 := n0_; have BK355 := n1_; have BK356 := n2_; have HB := n3_; clear n0_ n1_ n2_ n3_; (try clear hb); (try clear hb2); (try clear hk); (try clear hi)))
      go_meet
      case rel => exact ⟨_, (false), (by first | rfl | (simp; done) | (simp [*]; done)), H', ⟨by first | omega | exact Nat.le_refl _⟩, ⟨by (with_reducible repeat (first | refine YF ?_ _ | refine YG ?_ | refine YH ?_ _)); exact BK354.out⟩, ⟨by (with_reducible repeat (first | refine YF ?_ _ | refine YG ?_ | refine YH ?_ _)); exact BK355.out⟩, ⟨by (with_reducible repeat (first | refine YF ?_ _ | refine YG ?_ | refine YH ?_ _)); exact BK356.out⟩, ⟨by repeat (first | (with_reducible first | exact HB.out | apply YA | apply YB | apply YC) | exact HB.out)⟩⟩
    rw [if_neg c20] at H
    have c20b0 : (t359 == 0) = false := beq_eq_false_iff_ne.mpr c20
    have c20b1 : (t359 != 0) = true := bne_iff_ne.mpr c20
    (first | rw [c20b0] | (simp only [i64_w, i32_w]; rw [c20b0]) | skip)
    have H' := YL H
    clear H
    have hnb48 := NB354_355.out
    have hnc48 := NB355_354.out
    have hnb49 := NB354_356.out
    have hnc49 := NB356_354.out
    have hcz50_0 : w18.cell? ⟨gb354, 0, none⟩ = some (.bool a0_0) := (YI BK354.out 0).trans rfl
    have hcz50_1 : w18.cell? ⟨gb354, 1, none⟩ = some (.int .i64 a0_1) := (YI BK354.out 1).trans rfl
    have hcz50_2 : w18.cell? ⟨gb354, 2, none⟩ = some (.int .i64 a0_2) := (YI BK354.out 2).trans rfl
    have hcz50_3 : w18.cell? ⟨gb354, 3, none⟩ = some (.int .i64 a0_3) := (YI BK354.out 3).trans rfl
    have hcz50_4 : w18.cell? ⟨gb354, 4, none⟩ = some (.int .i64 a0_4) := (YI BK354.out 4).trans rfl
    have hcz50_5 : w18.cell? ⟨gb354, 5, none⟩ = some (.int .i64 a0_5) := (YI BK354.out 5).trans rfl
    have hfz50_0 := YJ BK354.out 0
    have hfz50_1 := YJ BK354.out 1
    have hfz50_2 := YJ BK354.out 2
    have hfz50_3 := YJ BK354.out 3
    have hfz50_4 := YJ BK354.out 4
    have hfz50_5 := YJ BK354.out 5
    go_wp2_with (first | ((with_reducible refine gate_callee (f := 12) rfl ?_); refine goesL_ (some 19) rfl rfl Try.func12 (by kernel_rfl) rfl #[.agg #[.bool a0_0, .int .i64 a0_1, .int .i64 a0_2, .int .i64 a0_3, .int .i64 a0_4, .int .i64 a0_5]] rfl (by (try simp only [YP, List.map_cons, List.map_nil]); first | done | rfl | (simp only [YR, YQ]; rfl)) ?_; (with_reducible refine (height_Check.calls k a0_0 a0_1 a0_2 a0_3 a0_4 a0_5 t359 _ A19.out).mono ?_); rintro e w51 ⟨rfl, hb⟩; refine ⟨_, rfl, ?_⟩; have n0_ := YL (YK (g := gb354) (by (with_reducible repeat (first | refine YF ?_ _ | refine YG ?_ | refine YH ?_ _)); exact BK354.out) hb); have n1_ := YL (YK (g := gb355) (by (with_reducible repeat (first | refine YF ?_ _ | refine YG ?_ | refine YH ?_ _)); exact BK355.out) hb); have n2_ := YL (YK (g := gb356) (by (with_reducible repeat (first | refine YF ?_ _ | refine YG ?_ | refine YH ?_ _)); exact BK356.out) hb); have n3_ := YL (YD (by repeat (first | (with_reducible first | exact HB.out | apply YA | apply YB | apply YC) | exact HB.out)) hb); clear BK354; clear BK355; clear BK356; clear HB; have BK354 := n0_; have BK355 := n1_; have BK356 := n2_; have HB := n3_; clear n0_ n1_ n2_ n3_; (try clear hb); (try clear hb2); (try clear hk); (try clear hi)))
    go_meet
    case rel => exact ⟨_, (false), (by first | rfl | (simp; done) | (simp [*]; done)), H', ⟨by first | omega | exact Nat.le_refl _⟩, ⟨by (with_reducible repeat (first | refine YF ?_ _ | refine YG ?_ | refine YH ?_ _)); exact BK354.out⟩, ⟨by (with_reducible repeat (first | refine YF ?_ _ | refine YG ?_ | refine YH ?_ _)); exact BK355.out⟩, ⟨by (with_reducible repeat (first | refine YF ?_ _ | refine YG ?_ | refine YH ?_ _)); exact BK356.out⟩, ⟨by repeat (first | (with_reducible first | exact HB.out | apply YA | apply YB | apply YC) | exact HB.out)⟩⟩
  case rest =>
    clear HC6
    try clear c1
    try clear c2
    try clear p2
    try clear c3
    try clear c4
    try clear c10
    try clear c11
    try clear c12
    try clear c13
    try clear c14
    try clear c20
    try clear c20b0
    try clear c20b1
    try clear c22
    try clear c22b0
    try clear c22b1
    try clear c23
    try clear c24
    try clear c25
    try clear c28
    try clear c32
    try clear c33
    try clear c36
    try clear c41
    try clear c42
    try clear c45
    try clear c48
    try clear c49
    try clear hcz12_0
    try clear hcz12_1
    try clear hcz12_2
    try clear hcz12_3
    try clear hcz12_4
    try clear hcz12_5
    try clear hcz14_0
    try clear hcz14_1
    try clear hcz14_2
    try clear hcz14_3
    try clear hcz14_4
    try clear hcz14_5
    try clear hcz16_0
    try clear hcz16_1
    try clear hcz16_2
    try clear hcz16_3
    try clear hcz16_4
    try clear hcz16_5
    try clear hcz17_0
    try clear hcz17_1
    try clear hcz17_2
    try clear hcz17_3
    try clear hcz17_4
    try clear hcz17_5
    try clear hcz26_0
    try clear hcz26_1
    try clear hcz26_2
    try clear hcz26_3
    try clear hcz26_4
    try clear hcz26_5
    try clear hcz29_0
    try clear hcz29_1
    try clear hcz29_2
    try clear hcz29_3
    try clear hcz29_4
    try clear hcz29_5
    try clear hcz31_0
    try clear hcz31_1
    try clear hcz31_2
    try clear hcz31_3
    try clear hcz31_4
    try clear hcz31_5
    try clear hcz34_0
    try clear hcz34_1
    try clear hcz34_2
    try clear hcz34_3
    try clear hcz34_4
    try clear hcz34_5
    try clear hcz37_0
    try clear hcz37_1
    try clear hcz37_2
    try clear hcz37_3
    try clear hcz37_4
    try clear hcz37_5
    try clear hcz39_0
    try clear hcz39_1
    try clear hcz39_2
    try clear hcz39_3
    try clear hcz39_4
    try clear hcz39_5
    try clear hcz40_0
    try clear hcz40_1
    try clear hcz40_2
    try clear hcz40_3
    try clear hcz40_4
    try clear hcz40_5
    try clear hcz43_0
    try clear hcz43_1
    try clear hcz43_2
    try clear hcz43_3
    try clear hcz43_4
    try clear hcz43_5
    try clear hcz46_0
    try clear hcz46_1
    try clear hcz46_2
    try clear hcz46_3
    try clear hcz46_4
    try clear hcz46_5
    try clear hcz50_0
    try clear hcz50_1
    try clear hcz50_2
    try clear hcz50_3
    try clear hcz50_4
    try clear hcz50_5
    try clear hfz12_0
    try clear hfz12_1
    try clear hfz12_2
    try clear hfz12_3
    try clear hfz12_4
    try clear hfz12_5
    try clear hfz14_0
    try clear hfz14_1
    try clear hfz14_2
    try clear hfz14_3
    try clear hfz14_4
    try clear hfz14_5
    try clear hfz16_0
    try clear hfz16_1
    try clear hfz16_2
    try clear hfz16_3
    try clear hfz16_4
    try clear hfz16_5
    try clear hfz17_0
    try clear hfz17_1
    try clear hfz17_2
    try clear hfz17_3
    try clear hfz17_4
    try clear hfz17_5
    try clear hfz26_0
    try clear hfz26_1
    try clear hfz26_2
    try clear hfz26_3
    try clear hfz26_4
    try clear hfz26_5
    try clear hfz29_0
    try clear hfz29_1
    try clear hfz29_2
    try clear hfz29_3
    try clear hfz29_4
    try clear hfz29_5
    try clear hfz31_0
    try clear hfz31_1
    try clear hfz31_2
    try clear hfz31_3
    try clear hfz31_4
    try clear hfz31_5
    try clear hfz34_0
    try clear hfz34_1
    try clear hfz34_2
    try clear hfz34_3
    try clear hfz34_4
    try clear hfz34_5
    try clear hfz37_0
    try clear hfz37_1
    try clear hfz37_2
    try clear hfz37_3
    try clear hfz37_4
    try clear hfz37_5
    try clear hfz39_0
    try clear hfz39_1
    try clear hfz39_2
    try clear hfz39_3
    try clear hfz39_4
    try clear hfz39_5
    try clear hfz40_0
    try clear hfz40_1
    try clear hfz40_2
    try clear hfz40_3
    try clear hfz40_4
    try clear hfz40_5
    try clear hfz43_0
    try clear hfz43_1
    try clear hfz43_2
    try clear hfz43_3
    try clear hfz43_4
    try clear hfz43_5
    try clear hfz46_0
    try clear hfz46_1
    try clear hfz46_2
    try clear hfz46_3
    try clear hfz46_4
    try clear hfz46_5
    try clear hfz50_0
    try clear hfz50_1
    try clear hfz50_2
    try clear hfz50_3
    try clear hfz50_4
    try clear hfz50_5
    obtain ⟨kq, x9_5, rfl, HA, HJ5, BK354, BK355, BK356, HB⟩ := hcut
    cases kq with
    | zero => exact absurd HA.out (by simp [thalweglaw02_HeightOrder.j0])
    | succ kj5 =>
      have H := HA.out
      clear HA
      simp only [thalweglaw02_HeightOrder.j0] at H
      have HC52 := YL H; clear H
      go_upto_region 4 with (fail)
      go_cut [68] (fun v68 wc => ∃ (kq : Nat) (x68_51 : Bool), v68 = .bool x68_51 ∧ Aside0 (thalweglaw02_HeightOrder.j1 kq t357 t358 x9_5 x68_51 a0_0 a0_1 a0_2 a0_3 a0_4 a0_5 a1_0 a1_1 a1_2 a1_3 a1_4 a1_5 = some r) ∧ Aside0 (kq ≤ kj5) ∧ Aside0 (wc.heap[gb354]? = some (.cells #[.bool a0_0, .int .i64 a0_1, .int .i64 a0_2, .int .i64 a0_3, .int .i64 a0_4, .int .i64 a0_5] 23 (0, 0))) ∧ Aside0 (wc.heap[gb355]? = some (.cells #[.bool a1_0, .int .i64 a1_1, .int .i64 a1_2, .int .i64 a1_3, .int .i64 a1_4, .int .i64 a1_5] 23 (0, 0))) ∧ Aside0 (wc.heap[gb356]? = some (.cells #[.bool a2_0, .int .i64 a2_1, .int .i64 a2_2, .int .i64 a2_3, .int .i64 a2_4, .int .i64 a2_5] 23 (0, 0))) ∧ Aside0 (Below w.heap.size w wc))
      case first =>
        have H := HC52.out
        clear HC52
        by_cases c53 : t357 = true
        · subst c53
          have H1 : (if t358 = true then (thalweglaw02_HeightOrder.j1 kj5 true true x9_5 true a0_0 a0_1 a0_2 a0_3 a0_4 a0_5 a1_0 a1_1 a1_2 a1_3 a1_4 a1_5) else ((height_Less.f kj5 a0_0 a0_1 a0_2 a0_3 a0_4 a0_5 a0_0 a0_1 a0_2 a0_3 a0_4 a0_5).bind fun t361 => (if t361 = true then (thalweglaw02_HeightOrder.j1 kj5 true false x9_5 true a0_0 a0_1 a0_2 a0_3 a0_4 a0_5 a1_0 a1_1 a1_2 a1_3 a1_4 a1_5) else ((height_Less.f kj5 a1_0 a1_1 a1_2 a1_3 a1_4 a1_5 a2_0 a2_1 a2_2 a2_3 a2_4 a2_5).bind fun t362 => (if t362 = true then ((height_Less.f kj5 a0_0 a0_1 a0_2 a0_3 a0_4 a0_5 a2_0 a2_1 a2_2 a2_3 a2_4 a2_5).bind fun t363 => (if t363 = true then (if x9_5 = true then (thalweglaw02_HeightOrder.j1 kj5 true false true false a0_0 a0_1 a0_2 a0_3 a0_4 a0_5 a1_0 a1_1 a1_2 a1_3 a1_4 a1_5) else (thalweglaw02_HeightOrder.j1 kj5 true false false true a0_0 a0_1 a0_2 a0_3 a0_4 a0_5 a1_0 a1_1 a1_2 a1_3 a1_4 a1_5)) else (thalweglaw02_HeightOrder.j1 kj5 true false x9_5 true a0_0 a0_1 a0_2 a0_3 a0_4 a0_5 a1_0 a1_1 a1_2 a1_3 a1_4 a1_5))) else (if x9_5 = true then (thalweglaw02_HeightOrder.j1 kj5 true false true false a0_0 a0_1 a0_2 a0_3 a0_4 a0_5 a1_0 a1_1 a1_2 a1_3 a1_4 a1_5) else (thalweglaw02_HeightOrder.j1 kj5 true false false true a0_0 a0_1 a0_2 a0_3 a0_4 a0_5 a1_0 a1_1 a1_2 a1_3 a1_4 a1_5))))))) = some r := by rw [if_pos rfl] at H; exact H
          clear H
          have H := H1
          clear H1
          by_cases c54 : t358 = true
          · subst c54
            have H1 : (thalweglaw02_HeightOrder.j1 kj5 true true x9_5 true a0_0 a0_1 a0_2 a0_3 a0_4 a0_5 a1_0 a1_1 a1_2 a1_3 a1_4 a1_5) = some r := by rw [if_pos rfl] at H; exact H
            clear H
            have H := H1
            clear H1
            have H' := YL H
            clear H
            go_wp2
            go_meet
            case rel => exact ⟨_, (true), (by first | rfl | (simp; done) | (simp [*]; done)), H', ⟨by have := HJ5.out; first | omega | exact Nat.le_refl _⟩, ⟨by (with_reducible repeat (first | refine YF ?_ _ | refine YG ?_ | refine YH ?_ _)); exact BK354.out⟩, ⟨by (with_reducible repeat (first | refine YF ?_ _ | refine YG ?_ | refine YH ?_ _)); exact BK355.out⟩, ⟨by (with_reducible repeat (first | refine YF ?_ _ | refine YG ?_ | refine YH ?_ _)); exact BK356.out⟩, ⟨by repeat (first | (with_reducible first | exact HB.out | apply YA | apply YB | apply YC) | exact HB.out)⟩⟩
          replace c54 := Bool.eq_false_iff.mpr c54
          subst c54
          have H1 : ((height_Less.f kj5 a0_0 a0_1 a0_2 a0_3 a0_4 a0_5 a0_0 a0_1 a0_2 a0_3 a0_4 a0_5).bind fun t361 => (if t361 = true then (thalweglaw02_HeightOrder.j1 kj5 true false x9_5 true a0_0 a0_1 a0_2 a0_3 a0_4 a0_5 a1_0 a1_1 a1_2 a1_3 a1_4 a1_5) else ((height_Less.f kj5 a1_0 a1_1 a1_2 a1_3 a1_4 a1_5 a2_0 a2_1 a2_2 a2_3 a2_4 a2_5).bind fun t362 => (if t362 = true then ((height_Less.f kj5 a0_0 a0_1 a0_2 a0_3 a0_4 a0_5 a2_0 a2_1 a2_2 a2_3 a2_4 a2_5).bind fun t363 => (if t363 = true then (if x9_5 = true then (thalweglaw02_HeightOrder.j1 kj5 true false true false a0_0 a0_1 a0_2 a0_3 a0_4 a0_5 a1_0 a1_1 a1_2 a1_3 a1_4 a1_5) else (thalweglaw02_HeightOrder.j1 kj5 true false false true a0_0 a0_1 a0_2 a0_3 a0_4 a0_5 a1_0 a1_1 a1_2 a1_3 a1_4 a1_5)) else (thalweglaw02_HeightOrder.j1 kj5 true false x9_5 true a0_0 a0_1 a0_2 a0_3 a0_4 a0_5 a1_0 a1_1 a1_2 a1_3 a1_4 a1_5))) else (if x9_5 = true then (thalweglaw02_HeightOrder.j1 kj5 true false true false a0_0 a0_1 a0_2 a0_3 a0_4 a0_5 a1_0 a1_1 a1_2 a1_3 a1_4 a1_5) else (thalweglaw02_HeightOrder.j1 kj5 true false false true a0_0 a0_1 a0_2 a0_3 a0_4 a0_5 a1_0 a1_1 a1_2 a1_3 a1_4 a1_5)))))) = some r := by rw [if_neg (show ¬ (false = true) by decide)] at H; exact H
          clear H
          have H := H1
          clear H1; replace H := Option.bind_eq_some_iff.mp H; obtain ⟨t361, A550, H⟩ := H
          replace H : (if t361 = true then (thalweglaw02_HeightOrder.j1 kj5 true false x9_5 true a0_0 a0_1 a0_2 a0_3 a0_4 a0_5 a1_0 a1_1 a1_2 a1_3 a1_4 a1_5) else ((height_Less.f kj5 a1_0 a1_1 a1_2 a1_3 a1_4 a1_5 a2_0 a2_1 a2_2 a2_3 a2_4 a2_5).bind fun t362 => (if t362 = true then ((height_Less.f kj5 a0_0 a0_1 a0_2 a0_3 a0_4 a0_5 a2_0 a2_1 a2_2 a2_3 a2_4 a2_5).bind fun t363 => (if t363 = true then (if x9_5 = true then (thalweglaw02_HeightOrder.j1 kj5 true false true false a0_0 a0_1 a0_2 a0_3 a0_4 a0_5 a1_0 a1_1 a1_2 a1_3 a1_4 a1_5) else (thalweglaw02_HeightOrder.j1 kj5 true false false true a0_0 a0_1 a0_2 a0_3 a0_4 a0_5 a1_0 a1_1 a1_2 a1_3 a1_4 a1_5)) else (thalweglaw02_HeightOrder.j1 kj5 true false x9_5 true a0_0 a0_1 a0_2 a0_3 a0_4 a0_5 a1_0 a1_1 a1_2 a1_3 a1_4 a1_5))) else (if x9_5 = true then (thalweglaw02_HeightOrder.j1 kj5 true false true false a0_0 a0_1 a0_2 a0_3 a0_4 a0_5 a1_0 a1_1 a1_2 a1_3 a1_4 a1_5) else (thalweglaw02_HeightOrder.j1 kj5 true false false true a0_0 a0_1 a0_2 a0_3 a0_4 a0_5 a1_0 a1_1 a1_2 a1_3 a1_4 a1_5))))) = some r := H
          have A55 := YL A550; clear A550
          by_cases c56 : t361 = true
          · subst c56
            have H1 : (thalweglaw02_HeightOrder.j1 kj5 true false x9_5 true a0_0 a0_1 a0_2 a0_3 a0_4 a0_5 a1_0 a1_1 a1_2 a1_3 a1_4 a1_5) = some r := by rw [if_pos rfl] at H; exact H
            clear H
            have H := H1
            clear H1
            have H' := YL H
            clear H
            have hnb57 := NB354_355.out
            have hnc57 := NB355_354.out
            have hnb58 := NB354_356.out
            have hnc58 := NB356_354.out
            have hcz59_0 : wc.cell? ⟨gb354, 0, none⟩ = some (.bool a0_0) := (YI BK354.out 0).trans rfl
            have hcz59_1 : wc.cell? ⟨gb354, 1, none⟩ = some (.int .i64 a0_1) := (YI BK354.out 1).trans rfl
            have hcz59_2 : wc.cell? ⟨gb354, 2, none⟩ = some (.int .i64 a0_2) := (YI BK354.out 2).trans rfl
            have hcz59_3 : wc.cell? ⟨gb354, 3, none⟩ = some (.int .i64 a0_3) := (YI BK354.out 3).trans rfl
            have hcz59_4 : wc.cell? ⟨gb354, 4, none⟩ = some (.int .i64 a0_4) := (YI BK354.out 4).trans rfl
            have hcz59_5 : wc.cell? ⟨gb354, 5, none⟩ = some (.int .i64 a0_5) := (YI BK354.out 5).trans rfl
            have hfz59_0 := YJ BK354.out 0
            have hfz59_1 := YJ BK354.out 1
            have hfz59_2 := YJ BK354.out 2
            have hfz59_3 := YJ BK354.out 3
            have hfz59_4 := YJ BK354.out 4
            have hfz59_5 := YJ BK354.out 5
            go_wp2_with (first | (go_at_call 14; (with_reducible refine (height_Less.calls kj5 a0_0 a0_1 a0_2 a0_3 a0_4 a0_5 a0_0 a0_1 a0_2 a0_3 a0_4 a0_5 true _ A55.out).mono ?_); rintro e w60 ⟨rfl, hb⟩; have n0_ := YL (YK (g := gb354) (by (with_reducible repeat (first | refine YF ?_ _ | refine YG ?_ | refine YH ?_ _)); exact BK354.out) hb); have n1_ := YL (YK (g := gb355) (by (with_reducible repeat (first | refine YF ?_ _ | refine YG ?_ | refine YH ?_ _)); exact BK355.out) hb); have n2_ := YL (YK (g := gb356) (by (with_reducible repeat (first | refine YF ?_ _ | refine YG ?_ | refine YH ?_ _)); exact BK356.out) hb); have n3_ := YL (YD (by repeat (first | (with_reducible first | exact HB.out | apply YA | apply YB | apply YC) | exact HB.out)) hb); clear BK354; clear BK355; clear BK356; clear HB; have BK354 := n0_; have BK355 := n1_; have BK356 := n2_; have HB := n3_; clear n0_ n1_ n2_ n3_; (try clear hb); (try clear hb2); (try clear hk); (try clear hi)))
            go_meet
            case rel => exact ⟨_, (true), (by first | rfl | (simp; done) | (simp [*]; done)), H', ⟨by have := HJ5.out; first | omega | exact Nat.le_refl _⟩, ⟨by (with_reducible repeat (first | refine YF ?_ _ | refine YG ?_ | refine YH ?_ _)); exact BK354.out⟩, ⟨by (with_reducible repeat (first | refine YF ?_ _ | refine YG ?_ | refine YH ?_ _)); exact BK355.out⟩, ⟨by (with_reducible repeat (first | refine YF ?_ _ | refine YG ?_ | refine YH ?_ _)); exact BK356.out⟩, ⟨by repeat (first | (with_reducible first | exact HB.out | apply YA | apply YB | apply YC) | exact HB.out)⟩⟩
          replace c56 := Bool.eq_false_iff.mpr c56
          subst c56
          have H1 : ((height_Less.f kj5 a1_0 a1_1 a1_2 a1_3 a1_4 a1_5 a2_0 a2_1 a2_2 a2_3 a2_4 a2_5).bind fun t362 => (if t362 = true then ((height_Less.f kj5 a0_0 a0_1 a0_2 a0_3 a0_4 a0_5 a2_0 a2_1 a2_2 a2_3 a2_4 a2_5).bind fun t363 => (if t363 = true then (if x9_5 = true then (thalweglaw02_HeightOrder.j1 kj5 true false true false a0_0 a0_1 a0_2 a0_3 a0_4 a0_5 a1_0 a1_1 a1_2 a1_3 a1_4 a1_5) else (thalweglaw02_HeightOrder.j1 kj5 true false false true a0_0 a0_1 a0_2 a0_3 a0_4 a0_5 a1_0 a1_1 a1_2 a1_3 a1_4 a1_5)) else (thalweglaw02_HeightOrder.j1 kj5 true false x9_5 true a0_0 a0_1 a0_2 a0_3 a0_4 a0_5 a1_0 a1_1 a1_2 a1_3 a1_4 a1_5))) else (if x9_5 = true then (thalweglaw02_HeightOrder.j1 kj5 true false true false a0_0 a0_1 a0_2 a0_3 a0_4 a0_5 a1_0 a1_1 a1_2 a1_3 a1_4 a1_5) else (thalweglaw02_HeightOrder.j1 kj5 true false false true a0_0 a0_1 a0_2 a0_3 a0_4 a0_5 a1_0 a1_1 a1_2 a1_3 a1_4 a1_5)))) = some r := by rw [if_neg (show ¬ (false = true) by decide)] at H; exact H
          clear H
          have H := H1
          clear H1; replace H := Option.bind_eq_some_iff.mp H; obtain ⟨t362, A610, H⟩ := H
          replace H : (if t362 = true then ((height_Less.f kj5 a0_0 a0_1 a0_2 a0_3 a0_4 a0_5 a2_0 a2_1 a2_2 a2_3 a2_4 a2_5).bind fun t363 => (if t363 = true then (if x9_5 = true then (thalweglaw02_HeightOrder.j1 kj5 true false true false a0_0 a0_1 a0_2 a0_3 a0_4 a0_5 a1_0 a1_1 a1_2 a1_3 a1_4 a1_5) else (thalweglaw02_HeightOrder.j1 kj5 true false false true a0_0 a0_1 a0_2 a0_3 a0_4 a0_5 a1_0 a1_1 a1_2 a1_3 a1_4 a1_5)) else (thalweglaw02_HeightOrder.j1 kj5 true false x9_5 true a0_0 a0_1 a0_2 a0_3 a0_4 a0_5 a1_0 a1_1 a1_2 a1_3 a1_4 a1_5))) else (if x9_5 = true then (thalweglaw02_HeightOrder.j1 kj5 true false true false a0_0 a0_1 a0_2 a0_3 a0_4 a0_5 a1_0 a1_1 a1_2 a1_3 a1_4 a1_5) else (thalweglaw02_HeightOrder.j1 kj5 true false false true a0_0 a0_1 a0_2 a0_3 a0_4 a0_5 a1_0 a1_1 a1_2 a1_3 a1_4 a1_5))) = some r := H
          have A61 := YL A610; clear A610
          by_cases c62 : t362 = true
          · subst c62
            have H1 : ((height_Less.f kj5 a0_0 a0_1 a0_2 a0_3 a0_4 a0_5 a2_0 a2_1 a2_2 a2_3 a2_4 a2_5).bind fun t363 => (if t363 = true then (if x9_5 = true then (thalweglaw02_HeightOrder.j1 kj5 true false true false a0_0 a0_1 a0_2 a0_3 a0_4 a0_5 a1_0 a1_1 a1_2 a1_3 a1_4 a1_5) else (thalweglaw02_HeightOrder.j1 kj5 true false false true a0_0 a0_1 a0_2 a0_3 a0_4 a0_5 a1_0 a1_1 a1_2 a1_3 a1_4 a1_5)) else (thalweglaw02_HeightOrder.j1 kj5 true false x9_5 true a0_0 a0_1 a0_2 a0_3 a0_4 a0_5 a1_0 a1_1 a1_2 a1_3 a1_4 a1_5))) = some r := by rw [if_pos rfl] at H; exact H
            clear H
            have H := H1
            clear H1; replace H := Option.bind_eq_some_iff.mp H; obtain ⟨t363, A630, H⟩ := H
            replace H : (if t363 = true then (if x9_5 = true then (thalweglaw02_HeightOrder.j1 kj5 true false true false a0_0 a0_1 a0_2 a0_3 a0_4 a0_5 a1_0 a1_1 a1_2 a1_3 a1_4 a1_5) else (thalweglaw02_HeightOrder.j1 kj5 true false false true a0_0 a0_1 a0_2 a0_3 a0_4 a0_5 a1_0 a1_1 a1_2 a1_3 a1_4 a1_5)) else (thalweglaw02_HeightOrder.j1 kj5 true false x9_5 true a0_0 a0_1 a0_2 a0_3 a0_4 a0_5 a1_0 a1_1 a1_2 a1_3 a1_4 a1_5)) = some r := H
            have A63 := YL A630; clear A630
            by_cases c64 : t363 = true
            · subst c64
              have H1 : (if x9_5 = true then (thalweglaw02_HeightOrder.j1 kj5 true false true false a0_0 a0_1 a0_2 a0_3 a0_4 a0_5 a1_0 a1_1 a1_2 a1_3 a1_4 a1_5) else (thalweglaw02_HeightOrder.j1 kj5 true false false true a0_0 a0_1 a0_2 a0_3 a0_4 a0_5 a1_0 a1_1 a1_2 a1_3 a1_4 a1_5)) = some r := by rw [if_pos rfl] at H; exact H
              clear H
              have H := H1
              clear H1
              by_cases c65 : x9_5 = true
              · subst c65
                have H1 : (thalweglaw02_HeightOrder.j1 kj5 true false true false a0_0 a0_1 a0_2 a0_3 a0_4 a0_5 a1_0 a1_1 a1_2 a1_3 a1_4 a1_5) = some r := by rw [if_pos rfl] at H; exact H
                clear H
                have H := H1
                clear H1
                have H' := YL H
                clear H
                have hnb66 := NB354_355.out
                have hnc66 := NB355_354.out
                have hnb67 := NB354_356.out
                have hnc67 := NB356_354.out
                have hcz68_0 : wc.cell? ⟨gb354, 0, none⟩ = some (.bool a0_0) := (YI BK354.out 0).trans rfl
                have hcz68_1 : wc.cell? ⟨gb354, 1, none⟩ = some (.int .i64 a0_1) := (YI BK354.out 1).trans rfl
                have hcz68_2 : wc.cell? ⟨gb354, 2, none⟩ = some (.int .i64 a0_2) := (YI BK354.out 2).trans rfl
                have hcz68_3 : wc.cell? ⟨gb354, 3, none⟩ = some (.int .i64 a0_3) := (YI BK354.out 3).trans rfl
                have hcz68_4 : wc.cell? ⟨gb354, 4, none⟩ = some (.int .i64 a0_4) := (YI BK354.out 4).trans rfl
                have hcz68_5 : wc.cell? ⟨gb354, 5, none⟩ = some (.int .i64 a0_5) := (YI BK354.out 5).trans rfl
                have hfz68_0 := YJ BK354.out 0
                have hfz68_1 := YJ BK354.out 1
                have hfz68_2 := YJ BK354.out 2
                have hfz68_3 := YJ BK354.out 3
                have hfz68_4 := YJ BK354.out 4
                have hfz68_5 := YJ BK354.out 5
                go_wp2_with (first | (go_at_call 14; (with_reducible refine (height_Less.calls kj5 a0_0 a0_1 a0_2 a0_3 a0_4 a0_5 a0_0 a0_1 a0_2 a0_3 a0_4 a0_5 false _ A55.out).mono ?_); rintro e w69 ⟨rfl, hb⟩; have n0_ := YL (YK (g := gb354) (by (with_reducible repeat (first | refine YF ?_ _ | refine YG ?_ | refine YH ?_ _)); exact BK354.out) hb); have n1_ := YL (YK (g := gb355) (by (with_reducible repeat (first | refine YF ?_ _ | refine YG ?_ | refine YH ?_ _)); exact BK355.out) hb); have n2_ := YL (YK (g := gb356) (by (with_reducible repeat (first | refine YF ?_ _ | refine YG ?_ | refine YH ?_ _)); exact BK356.out) hb); have n3_ := YL (YD (by repeat (first | (with_reducible first | exact HB.out | apply YA | apply YB | apply YC) | exact HB.out)) hb); clear BK354; clear BK355; clear BK356; clear HB; have BK354 := n0_; have BK355 := n1_; have BK356 := n2_; have HB := n3_; clear n0_ n1_ n2_ n3_; (try clear hb); (try clear hb2); (try clear hk); (try clear hi); have hnb70 := NB355_356.out; have hnc70 := NB356_355.out; have hcz71_0 : w69.cell? ⟨gb355, 0, none⟩ = some (.bool a1_0) := (YI BK355.out 0).trans rfl; have hcz71_1 : w69.cell? ⟨gb355, 1, none⟩ = some (.int .i64 a1_1) := (YI BK355.out 1).trans rfl; have hcz71_2 : w69.cell? ⟨gb355, 2, none⟩ = some (.int .i64 a1_2) := (YI BK355.out 2).trans rfl; have hcz71_3 : w69.cell? ⟨gb355, 3, none⟩ = some (.int .i64 a1_3) := (YI BK355.out 3).trans rfl; have hcz71_4 : w69.cell? ⟨gb355, 4, none⟩ = some (.int .i64 a1_4) := (YI BK355.out 4).trans rfl; have hcz71_5 : w69.cell? ⟨gb355, 5, none⟩ = some (.int .i64 a1_5) := (YI BK355.out 5).trans rfl; have hfz71_0 := YJ BK355.out 0; have hfz71_1 := YJ BK355.out 1; have hfz71_2 := YJ BK355.out 2; have hfz71_3 := YJ BK355.out 3; have hfz71_4 := YJ BK355.out 4; have hfz71_5 := YJ BK355.out 5; have hcz72_0 : w69.cell? ⟨gb356, 0, none⟩ = some (.bool a2_0) := (YI BK356.out 0).trans rfl; have hcz72_1 : w69.cell? ⟨gb356, 1, none⟩ = some (.int .i64 a2_1) := (YI BK356.out 1).trans rfl; have hcz72_2 : w69.cell? ⟨gb356, 2, none⟩ = some (.int .i64 a2_2) := (YI BK356.out 2).trans rfl; have hcz72_3 : w69.cell? ⟨gb356, 3, none⟩ = some (.int .i64 a2_3) := (YI BK356.out 3).trans rfl; have hcz72_4 : w69.cell? ⟨gb356, 4, none⟩ = some (.int .i64 a2_4) := (YI BK356.out 4).trans rfl; have hcz72_5 : w69.cell? ⟨gb356, 5, none⟩ = some (.int .i64 a2_5) := (YI BK356.out 5).trans rfl; have hfz72_0 := YJ BK356.out 0; have hfz72_1 := YJ BK356.out 1; have hfz72_2 := YJ BK356.out 2; have hfz72_3 := YJ BK356.out 3; have hfz72_4 := YJ BK356.out 4; have hfz72_5 := YJ BK356.out 5) | (go_at_call 14; (with_reducible refine (height_Less.calls kj5 a1_0 a1_1 a1_2 a1_3 a1_4 a1_5 a2_0 a2_1 a2_2 a2_3 a2_4 a2_5 true _ A61.out).mono ?_); rintro e w73 ⟨rfl, hb⟩; have n0_ := YL (YK (g := gb354) (by (with_reducible repeat (first | refine YF ?_ _ | refine YG ?_ | refine YH ?_ _)); exact BK354.out) hb); have n1_ := YL (YK (g := gb355) (by (with_reducible repeat (first | refine YF ?_ _ | refine YG ?_ | refine YH ?_ _)); exact BK355.out) hb); have n2_ := YL (YK (g := gb356) (by (with_reducible repeat (first | refine YF ?_ _ | refine YG ?_ | refine YH ?_ _)); exact BK356.out) hb); have n3_ := YL (YD (by repeat (first | (with_reducible first | exact HB.out | apply YA | apply YB | apply YC) | exact HB.out)) hb); clear BK354; clear BK355; clear BK356; clear HB; have BK354 := n0_; have BK355 := n1_; have BK356 := n2_; have HB := n3_; clear n0_ n1_ n2_ n3_; (try clear hb); (try clear hb2); (try clear hk); (try clear hi); have hcz74_0 : w73.cell? ⟨gb354, 0, none⟩ = some (.bool a0_0) := (YI BK354.out 0).trans rfl; have hcz74_1 : w73.cell? ⟨gb354, 1, none⟩ = some (.int .i64 a0_1) := (YI BK354.out 1).trans rfl; have hcz74_2 : w73.cell? ⟨gb354, 2, none⟩ = some (.int .i64 a0_2) := (YI BK354.out 2).trans rfl; have hcz74_3 : w73.cell? ⟨gb354, 3, none⟩ = some (.int .i64 a0_3) := (YI BK354.out 3).trans rfl; have hcz74_4 : w73.cell? ⟨gb354, 4, none⟩ = some (.int .i64 a0_4) := (YI BK354.out 4).trans rfl; have hcz74_5 : w73.cell? ⟨gb354, 5, none⟩ = some (.int .i64 a0_5) := (YI BK354.out 5).trans rfl; have hfz74_0 := YJ BK354.out 0; have hfz74_1 := YJ BK354.out 1; have hfz74_2 := YJ BK354.out 2; have hfz74_3 := YJ BK354.out 3; have hfz74_4 := YJ BK354.out 4; have hfz74_5 := YJ BK354.out 5; have hcz75_0 : w73.cell? ⟨gb356, 0, none⟩ = some (.bool a2_0) := (YI BK356.out 0).trans rfl; have hcz75_1 : w73.cell? ⟨gb356, 1, none⟩ = some (.int .i64 a2_1) := (YI BK356.out 1).trans rfl; have hcz75_2 : w73.cell? ⟨gb356, 2, none⟩ = some (.int .i64 a2_2) := (YI BK356.out 2).trans rfl; have hcz75_3 : w73.cell? ⟨gb356, 3, none⟩ = some (.int .i64 a2_3) := (YI BK356.out 3).trans rfl; have hcz75_4 : w73.cell? ⟨gb356, 4, none⟩ = some (.int .i64 a2_4) := (YI BK356.out 4).trans rfl; have hcz75_5 : w73.cell? ⟨gb356, 5, none⟩ = some (.int .i64 a2_5) := (YI BK356.out 5).trans rfl; have hfz75_0 := YJ BK356.out 0; have hfz75_1 := YJ BK356.out 1; have hfz75_2 := YJ BK356.out 2; have hfz75_3 := YJ BK356.out 3; have hfz75_4 := YJ BK356.out 4; have hfz75_5 := YJ BK356.out 5) | (go_at_call 14; (with_reducible refine (height_Less.calls kj5 a0_0 a0_1 a0_2 a0_3 a0_4 a0_5 a2_0 a2_1 a2_2 a2_3 a2_4 a2_5 true _ A63.out).mono ?_); rintro e w76 ⟨rfl, hb⟩; have n0_ := YL (YK (g := gb354) (by (with_reducible repeat (first | refine YF ?_ _ | refine YG ?_ | refine YH ?_ _)); exact BK354.out) hb); have n1_ := YL (YK (g := gb355) (by (with_reducible repeat (first | refine YF ?_ _ | refine YG ?_ | refine YH ?_ _)); exact BK355.out) hb); have n2_ := YL (YK (g := gb356) (by (with_reducible repeat (first | refine YF ?_ _ | refine YG ?_ | refine YH ?_ _)); exact BK356.out) hb); have n3_ := YL (YD (by repeat (first | (with_reducible first | exact HB.out | apply YA | apply YB | apply YC) | exact HB.out)) hb); clear BK354; clear BK355; clear BK356; clear HB; have BK354 := n0_; have BK355 := n1_; have BK356 := n2_; have HB := n3_; clear n0_ n1_ n2_ n3_; (try clear hb); (try clear hb2); (try clear hk); (try clear hi)))
                go_meet
                case rel => exact ⟨_, (false), (by first | rfl | (simp; done) | (simp [*]; done)), H', ⟨by have := HJ5.out; first | omega | exact Nat.le_refl _⟩, ⟨by (with_reducible repeat (first | refine YF ?_ _ | refine YG ?_ | refine YH ?_ _)); exact BK354.out⟩, ⟨by (with_reducible repeat (first | refine YF ?_ _ | refine YG ?_ | refine YH ?_ _)); exact BK355.out⟩, ⟨by (with_reducible repeat (first | refine YF ?_ _ | refine YG ?_ | refine YH ?_ _)); exact BK356.out⟩, ⟨by repeat (first | (with_reducible first | exact HB.out | apply YA | apply YB | apply YC) | exact HB.out)⟩⟩
              replace c65 := Bool.eq_false_iff.mpr c65
              subst c65
              have H1 : (thalweglaw02_HeightOrder.j1 kj5 true false false true a0_0 a0_1 a0_2 a0_3 a0_4 a0_5 a1_0 a1_1 a1_2 a1_3 a1_4 a1_5) = some r := by rw [if_neg (show ¬ (false = true) by decide)] at H; exact H
              clear H
              have H := H1
              clear H1
              have H' := YL H
              clear H
              have hnb77 := NB354_355.out
              have hnc77 := NB355_354.out
              have hnb78 := NB354_356.out
              have hnc78 := NB356_354.out
              have hcz79_0 : wc.cell? ⟨gb354, 0, none⟩ = some (.bool a0_0) := (YI BK354.out 0).trans rfl
              have hcz79_1 : wc.cell? ⟨gb354, 1, none⟩ = some (.int .i64 a0_1) := (YI BK354.out 1).trans rfl
              have hcz79_2 : wc.cell? ⟨gb354, 2, none⟩ = some (.int .i64 a0_2) := (YI BK354.out 2).trans rfl
              have hcz79_3 : wc.cell? ⟨gb354, 3, none⟩ = some (.int .i64 a0_3) := (YI BK354.out 3).trans rfl
              have hcz79_4 : wc.cell? ⟨gb354, 4, none⟩ = some (.int .i64 a0_4) := (YI BK354.out 4).trans rfl
              have hcz79_5 : wc.cell? ⟨gb354, 5, none⟩ = some (.int .i64 a0_5) := (YI BK354.out 5).trans rfl
              have hfz79_0 := YJ BK354.out 0
              have hfz79_1 := YJ BK354.out 1
              have hfz79_2 := YJ BK354.out 2
              have hfz79_3 := YJ BK354.out 3
              have hfz79_4 := YJ BK354.out 4
              have hfz79_5 := YJ BK354.out 5
              go_wp2_with (first | (go_at_call 14; (with_reducible refine (height_Less.calls kj5 a0_0 a0_1 a0_2 a0_3 a0_4 a0_5 a0_0 a0_1 a0_2 a0_3 a0_4 a0_5 false _ A55.out).mono ?_); rintro e w80 ⟨rfl, hb⟩; have n0_ := YL (YK (g := gb354) (by (with_reducible repeat (first | refine YF ?_ _ | refine YG ?_ | refine YH ?_ _)); exact BK354.out) hb); have n1_ := YL (YK (g := gb355) (by (with_reducible repeat (first | refine YF ?_ _ | refine YG ?_ | refine YH ?_ _)); exact BK355.out) hb); have n2_ := YL (YK (g := gb356) (by (with_reducible repeat (first | refine YF ?_ _ | refine YG ?_ | refine YH ?_ _)); exact BK356.out) hb); have n3_ := YL (YD (by repeat (first | (with_reducible first | exact HB.out | apply YA | apply YB | apply YC) | exact HB.out)) hb); clear BK354; clear BK355; clear BK356; clear HB; have BK354 := n0_; have BK355 := n1_; have BK356 := n2_; have HB := n3_; clear n0_ n1_ n2_ n3_; (try clear hb); (try clear hb2); (try clear hk); (try clear hi); have hnb81 := NB355_356.out; have hnc81 := NB356_355.out; have hcz82_0 : w80.cell? ⟨gb355, 0, none⟩ = some (.bool a1_0) := (YI BK355.out 0).trans rfl; have hcz82_1 : w80.cell? ⟨gb355, 1, none⟩ = some (.int .i64 a1_1) := (YI BK355.out 1).trans rfl; have hcz82_2 : w80.cell? ⟨gb355, 2, none⟩ = some (.int .i64 a1_2) := (YI BK355.out 2).trans rfl; have hcz82_3 : w80.cell? ⟨gb355, 3, none⟩ = some (.int .i64 a1_3) := (YI BK355.out 3).trans rfl; have hcz82_4 : w80.cell? ⟨gb355, 4, none⟩ = some (.int .i64 a1_4) := (YI BK355.out 4).trans rfl; have hcz82_5 : w80.cell? ⟨gb355, 5, none⟩ = some (.int .i64 a1_5) := (YI BK355.out 5).trans rfl; have hfz82_0 := YJ BK355.out 0; have hfz82_1 := YJ BK355.out 1; have hfz82_2 := YJ BK355.out 2; have hfz82_3 := YJ BK355.out 3; have hfz82_4 := YJ BK355.out 4; have hfz82_5 := YJ BK355.out 5; have hcz83_0 : w80.cell? ⟨gb356, 0, none⟩ = some (.bool a2_0) := (YI BK356.out 0).trans rfl; have hcz83_1 : w80.cell? ⟨gb356, 1, none⟩ = some (.int .i64 a2_1) := (YI BK356.out 1).trans rfl; have hcz83_2 : w80.cell? ⟨gb356, 2, none⟩ = some (.int .i64 a2_2) := (YI BK356.out 2).trans rfl; have hcz83_3 : w80.cell? ⟨gb356, 3, none⟩ = some (.int .i64 a2_3) := (YI BK356.out 3).trans rfl; have hcz83_4 : w80.cell? ⟨gb356, 4, none⟩ = some (.int .i64 a2_4) := (YI BK356.out 4).trans rfl; have hcz83_5 : w80.cell? ⟨gb356, 5, none⟩ = some (.int .i64 a2_5) := (YI BK356.out 5).trans rfl; have hfz83_0 := YJ BK356.out 0; have hfz83_1 := YJ BK356.out 1; have hfz83_2 := YJ BK356.out 2; have hfz83_3 := YJ BK356.out 3; have hfz83_4 := YJ BK356.out 4; have hfz83_5 := YJ BK356.out 5) | (go_at_call 14; (with_reducible refine (height_Less.calls kj5 a1_0 a1_1 a1_2 a1_3 a1_4 a1_5 a2_0 a2_1 a2_2 a2_3 a2_4 a2_5 true _ A61.out).mono ?_); rintro e w84 ⟨rfl, hb⟩; have n0_ := YL (YK (g := gb354) (by (with_reducible repeat (first | refine YF ?_ _ | refine YG ?_ | refine YH ?_ _)); exact BK354.out) hb); have n1_ := YL (YK (g := gb355) (by (with_reducible repeat (first | refine YF ?_ _ | refine YG ?_ | refine YH ?_ _)); exact BK355.out) hb); have n2_ := YL (YK (g := gb356) (by (with_reducible repeat (first | refine YF ?_ _ | refine YG ?_ | refine YH ?_ _)); exact BK356.out) hb); have n3_ := YL (YD (by repeat (first | (with_reducible first | exact HB.out | apply YA | apply YB | apply YC) | exact HB.out)) hb); clear BK354; clear BK355; clear BK356; clear HB; have BK354 := n0_; have BK355 := n1_; have BK356 := n2_; have HB := n3_; clear n0_ n1_ n2_ n3_; (try clear hb); (try clear hb2); (try clear hk); (try clear hi); have hcz85_0 : w84.cell? ⟨gb354, 0, none⟩ = some (.bool a0_0) := (YI BK354.out 0).trans rfl; have hcz85_1 : w84.cell? ⟨gb354, 1, none⟩ = some (.int .i64 a0_1) := (YI BK354.out 1).trans rfl; have hcz85_2 : w84.cell? ⟨gb354, 2, none⟩ = some (.int .i64 a0_2) := (YI BK354.out 2).trans rfl; have hcz85_3 : w84.cell? ⟨gb354, 3, none⟩ = some (.int .i64 a0_3) := (YI BK354.out 3).trans rfl; have hcz85_4 : w84.cell? ⟨gb354, 4, none⟩ = some (.int .i64 a0_4) := (YI BK354.out 4).trans rfl; have hcz85_5 : w84.cell? ⟨gb354, 5, none⟩ = some (.int .i64 a0_5) := (YI BK354.out 5).trans rfl; have hfz85_0 := YJ BK354.out 0; have hfz85_1 := YJ BK354.out 1; have hfz85_2 := YJ BK354.out 2; have hfz85_3 := YJ BK354.out 3; have hfz85_4 := YJ BK354.out 4; have hfz85_5 := YJ BK354.out 5; have hcz86_0 : w84.cell? ⟨gb356, 0, none⟩ = some (.bool a2_0) := (YI BK356.out 0).trans rfl; have hcz86_1 : w84.cell? ⟨gb356, 1, none⟩ = some (.int .i64 a2_1) := (YI BK356.out 1).trans rfl; have hcz86_2 : w84.cell? ⟨gb356, 2, none⟩ = some (.int .i64 a2_2) := (YI BK356.out 2).trans rfl; have hcz86_3 : w84.cell? ⟨gb356, 3, none⟩ = some (.int .i64 a2_3) := (YI BK356.out 3).trans rfl; have hcz86_4 : w84.cell? ⟨gb356, 4, none⟩ = some (.int .i64 a2_4) := (YI BK356.out 4).trans rfl; have hcz86_5 : w84.cell? ⟨gb356, 5, none⟩ = some (.int .i64 a2_5) := (YI BK356.out 5).trans rfl; have hfz86_0 := YJ BK356.out 0; have hfz86_1 := YJ BK356.out 1; have hfz86_2 := YJ BK356.out 2; have hfz86_3 := YJ BK356.out 3; have hfz86_4 := YJ BK356.out 4; have hfz86_5 := YJ BK356.out 5) | (go_at_call 14; (with_reducible refine (height_Less.calls kj5 a0_0 a0_1 a0_2 a0_3 a0_4 a0_5 a2_0 a2_1 a2_2 a2_3 a2_4 a2_5 true _ A63.out).mono ?_); rintro e w87 ⟨rfl, hb⟩; have n0_ := YL (YK (g := gb354) (by (with_reducible repeat (first | refine YF ?_ _ | refine YG ?_ | refine YH ?_ _)); exact BK354.out) hb); have n1_ := YL (YK (g := gb355) (by (with_reducible repeat (first | refine YF ?_ _ | refine YG ?_ | refine YH ?_ _)); exact BK355.out) hb); have n2_ := YL (YK (g := gb356) (by (with_reducible repeat (first | refine YF ?_ _ | refine YG ?_ | refine YH ?_ _)); exact BK356.out) hb); have n3_ := YL (YD (by repeat (first | (with_reducible first | exact HB.out | apply YA | apply YB | apply YC) | exact HB.out)) hb); clear BK354; clear BK355; clear BK356; clear HB; have BK354 := n0_; have BK355 := n1_; have BK356 := n2_; have HB := n3_; clear n0_ n1_ n2_ n3_; (try clear hb); (try clear hb2); (try clear hk); (try clear hi)))
              go_meet
              case rel => exact ⟨_, (true), (by first | rfl | (simp; done) | (simp [*]; done)), H', ⟨by have := HJ5.out; first | omega | exact Nat.le_refl _⟩, ⟨by (with_reducible repeat (first | refine YF ?_ _ | refine YG ?_ | refine YH ?_ _)); exact BK354.out⟩, ⟨by (with_reducible repeat (first | refine YF ?_ _ | refine YG ?_ | refine YH ?_ _)); exact BK355.out⟩, ⟨by (with_reducible repeat (first | refine YF ?_ _ | refine YG ?_ | refine YH ?_ _)); exact BK356.out⟩, ⟨by repeat (first | (with_reducible first | exact HB.out | apply YA | apply YB | apply YC) | exact HB.out)⟩⟩
            replace c64 := Bool.eq_false_iff.mpr c64
            subst c64
            have H1 : (thalweglaw02_HeightOrder.j1 kj5 true false x9_5 true a0_0 a0_1 a0_2 a0_3 a0_4 a0_5 a1_0 a1_1 a1_2 a1_3 a1_4 a1_5) = some r := by rw [if_neg (show ¬ (false = true) by decide)] at H; exact H
            clear H
            have H := H1
            clear H1
            have H' := YL H
            clear H
            have hnb88 := NB354_355.out
            have hnc88 := NB355_354.out
            have hnb89 := NB354_356.out
            have hnc89 := NB356_354.out
            have hcz90_0 : wc.cell? ⟨gb354, 0, none⟩ = some (.bool a0_0) := (YI BK354.out 0).trans rfl
            have hcz90_1 : wc.cell? ⟨gb354, 1, none⟩ = some (.int .i64 a0_1) := (YI BK354.out 1).trans rfl
            have hcz90_2 : wc.cell? ⟨gb354, 2, none⟩ = some (.int .i64 a0_2) := (YI BK354.out 2).trans rfl
            have hcz90_3 : wc.cell? ⟨gb354, 3, none⟩ = some (.int .i64 a0_3) := (YI BK354.out 3).trans rfl
            have hcz90_4 : wc.cell? ⟨gb354, 4, none⟩ = some (.int .i64 a0_4) := (YI BK354.out 4).trans rfl
            have hcz90_5 : wc.cell? ⟨gb354, 5, none⟩ = some (.int .i64 a0_5) := (YI BK354.out 5).trans rfl
            have hfz90_0 := YJ BK354.out 0
            have hfz90_1 := YJ BK354.out 1
            have hfz90_2 := YJ BK354.out 2
            have hfz90_3 := YJ BK354.out 3
            have hfz90_4 := YJ BK354.out 4
            have hfz90_5 := YJ BK354.out 5
            go_wp2_with (first | (go_at_call 14; (with_reducible refine (height_Less.calls kj5 a0_0 a0_1 a0_2 a0_3 a0_4 a0_5 a0_0 a0_1 a0_2 a0_3 a0_4 a0_5 false _ A55.out).mono ?_); rintro e w91 ⟨rfl, hb⟩; have n0_ := YL (YK (g := gb354) (by (with_reducible repeat (first | refine YF ?_ _ | refine YG ?_ | refine YH ?_ _)); exact BK354.out) hb); have n1_ := YL (YK (g := gb355) (by (with_reducible repeat (first | refine YF ?_ _ | refine YG ?_ | refine YH ?_ _)); exact BK355.out) hb); have n2_ := YL (YK (g := gb356) (by (with_reducible repeat (first | refine YF ?_ _ | refine YG ?_ | refine YH ?_ _)); exact BK356.out) hb); have n3_ := YL (YD (by repeat (first | (with_reducible first | exact HB.out | apply YA | apply YB | apply YC) | exact HB.out)) hb); clear BK354; clear BK355; clear BK356; clear HB; have BK354 := n0_; have BK355 := n1_; have BK356 := n2_; have HB := n3_; clear n0_ n1_ n2_ n3_; (try clear hb); (try clear hb2); (try clear hk); (try clear hi); have hnb92 := NB355_356.out; have hnc92 := NB356_355.out; have hcz93_0 : w91.cell? ⟨gb355, 0, none⟩ = some (.bool a1_0) := (YI BK355.out 0).trans rfl; have hcz93_1 : w91.cell? ⟨gb355, 1, none⟩ = some (.int .i64 a1_1) := (YI BK355.out 1).trans rfl; have hcz93_2 : w91.cell? ⟨gb355, 2, none⟩ = some (.int .i64 a1_2) := (YI BK355.out 2).trans rfl; have hcz93_3 : w91.cell? ⟨gb355, 3, none⟩ = some (.int .i64 a1_3) := (YI BK355.out 3).trans rfl; have hcz93_4 : w91.cell? ⟨gb355, 4, none⟩ = some (.int .i64 a1_4) := (YI BK355.out 4).trans rfl; have hcz93_5 : w91.cell? ⟨gb355, 5, none⟩ = some (.int .i64 a1_5) := (YI BK355.out 5).trans rfl; have hfz93_0 := YJ BK355.out 0; have hfz93_1 := YJ BK355.out 1; have hfz93_2 := YJ BK355.out 2; have hfz93_3 := YJ BK355.out 3; have hfz93_4 := YJ BK355.out 4; have hfz93_5 := YJ BK355.out 5; have hcz94_0 : w91.cell? ⟨gb356, 0, none⟩ = some (.bool a2_0) := (YI BK356.out 0).trans rfl; have hcz94_1 : w91.cell? ⟨gb356, 1, none⟩ = some (.int .i64 a2_1) := (YI BK356.out 1).trans rfl; have hcz94_2 : w91.cell? ⟨gb356, 2, none⟩ = some (.int .i64 a2_2) := (YI BK356.out 2).trans rfl; have hcz94_3 : w91.cell? ⟨gb356, 3, none⟩ = some (.int .i64 a2_3) := (YI BK356.out 3).trans rfl; have hcz94_4 : w91.cell? ⟨gb356, 4, none⟩ = some (.int .i64 a2_4) := (YI BK356.out 4).trans rfl; have hcz94_5 : w91.cell? ⟨gb356, 5, none⟩ = some (.int .i64 a2_5) := (YI BK356.out 5).trans rfl; have hfz94_0 := YJ BK356.out 0; have hfz94_1 := YJ BK356.out 1; have hfz94_2 := YJ BK356.out 2; have hfz94_3 := YJ BK356.out 3; have hfz94_4 := YJ BK356.out 4; have hfz94_5 := YJ BK356.out 5) | (go_at_call 14; (with_reducible refine (height_Less.calls kj5 a1_0 a1_1 a1_2 a1_3 a1_4 a1_5 a2_0 a2_1 a2_2 a2_3 a2_4 a2_5 true _ A61.out).mono ?_); rintro e w95 ⟨rfl, hb⟩; have n0_ := YL (YK (g := gb354) (by (with_reducible repeat (first | refine YF ?_ _ | refine YG ?_ | refine YH ?_ _)); exact BK354.out) hb); have n1_ := YL (YK (g := gb355) (by (with_reducible repeat (first | refine YF ?_ _ | refine YG ?_ | refine YH ?_ _)); exact BK355.out) hb); have n2_ := YL (YK (g := gb356) (by (with_reducible repeat (first | refine YF ?_ _ | refine YG ?_ | refine YH ?_ _)); exact BK356.out) hb); have n3_ := YL (YD (by repeat (first | (with_reducible first | exact HB.out | apply YA | apply YB | apply YC) | exact HB.out)) hb); clear BK354; clear BK355; clear BK356; clear HB; have BK354 := n0_; have BK355 := n1_; have BK356 := n2_; have HB := n3_; clear n0_ n1_ n2_ n3_; (try clear hb); (try clear hb2); (try clear hk); (try clear hi); have hcz96_0 : w95.cell? ⟨gb354, 0, none⟩ = some (.bool a0_0) := (YI BK354.out 0).trans rfl; have hcz96_1 : w95.cell? ⟨gb354, 1, none⟩ = some (.int .i64 a0_1) := (YI BK354.out 1).trans rfl; have hcz96_2 : w95.cell? ⟨gb354, 2, none⟩ = some (.int .i64 a0_2) := (YI BK354.out 2).trans rfl; have hcz96_3 : w95.cell? ⟨gb354, 3, none⟩ = some (.int .i64 a0_3) := (YI BK354.out 3).trans rfl; have hcz96_4 : w95.cell? ⟨gb354, 4, none⟩ = some (.int .i64 a0_4) := (YI BK354.out 4).trans rfl; have hcz96_5 : w95.cell? ⟨gb354, 5, none⟩ = some (.int .i64 a0_5) := (YI BK354.out 5).trans rfl; have hfz96_0 := YJ BK354.out 0; have hfz96_1 := YJ BK354.out 1; have hfz96_2 := YJ BK354.out 2; have hfz96_3 := YJ BK354.out 3; have hfz96_4 := YJ BK354.out 4; have hfz96_5 := YJ BK354.out 5; have hcz97_0 : w95.cell? ⟨gb356, 0, none⟩ = some (.bool a2_0) := (YI BK356.out 0).trans rfl; have hcz97_1 : w95.cell? ⟨gb356, 1, none⟩ = some (.int .i64 a2_1) := (YI BK356.out 1).trans rfl; have hcz97_2 : w95.cell? ⟨gb356, 2, none⟩ = some (.int .i64 a2_2) := (YI BK356.out 2).trans rfl; have hcz97_3 : w95.cell? ⟨gb356, 3, none⟩ = some (.int .i64 a2_3) := (YI BK356.out 3).trans rfl; have hcz97_4 : w95.cell? ⟨gb356, 4, none⟩ = some (.int .i64 a2_4) := (YI BK356.out 4).trans rfl; have hcz97_5 : w95.cell? ⟨gb356, 5, none⟩ = some (.int .i64 a2_5) := (YI BK356.out 5).trans rfl; have hfz97_0 := YJ BK356.out 0; have hfz97_1 := YJ BK356.out 1; have hfz97_2 := YJ BK356.out 2; have hfz97_3 := YJ BK356.out 3; have hfz97_4 := YJ BK356.out 4; have hfz97_5 := YJ BK356.out 5) | (go_at_call 14; (with_reducible refine (height_Less.calls kj5 a0_0 a0_1 a0_2 a0_3 a0_4 a0_5 a2_0 a2_1 a2_2 a2_3 a2_4 a2_5 false _ A63.out).mono ?_); rintro e w98 ⟨rfl, hb⟩; have n0_ := YL (YK (g := gb354) (by (with_reducible repeat (first | refine YF ?_ _ | refine YG ?_ | refine YH ?_ _)); exact BK354.out) hb); have n1_ := YL (YK (g := gb355) (by (with_reducible repeat (first | refine YF ?_ _ | refine YG ?_ | refine YH ?_ _)); exact BK355.out) hb); have n2_ := YL (YK (g := gb356) (by (with_reducible repeat (first | refine YF ?_ _ | refine YG ?_ | refine YH ?_ _)); exact BK356.out) hb); have n3_ := YL (YD (by repeat (first | (with_reducible first | exact HB.out | apply YA | apply YB | apply YC) | exact HB.out)) hb); clear BK354; clear BK355; clear BK356; clear HB; have BK354 := n0_; have BK355 := n1_; have BK356 := n2_; have HB := n3_; clear n0_ n1_ n2_ n3_; (try clear hb); (try clear hb2); (try clear hk); (try clear hi)))
            go_meet
            case rel => exact ⟨_, (true), (by first | rfl | (simp; done) | (simp [*]; done)), H', ⟨by have := HJ5.out; first | omega | exact Nat.le_refl _⟩, ⟨by (with_reducible repeat (first | refine YF ?_ _ | refine YG ?_ | refine YH ?_ _)); exact BK354.out⟩, ⟨by (with_reducible repeat (first | refine YF ?_ _ | refine YG ?_ | refine YH ?_ _)); exact BK355.out⟩, ⟨by (with_reducible repeat (first | refine YF ?_ _ | refine YG ?_ | refine YH ?_ _)); exact BK356.out⟩, ⟨by repeat (first | (with_reducible first | exact HB.out | apply YA | apply YB | apply YC) | exact HB.out)⟩⟩
          replace c62 := Bool.eq_false_iff.mpr c62
          subst c62
          have H1 : (if x9_5 = true then (thalweglaw02_HeightOrder.j1 kj5 true false true false a0_0 a0_1 a0_2 a0_3 a0_4 a0_5 a1_0 a1_1 a1_2 a1_3 a1_4 a1_5) else (thalweglaw02_HeightOrder.j1 kj5 true false false true a0_0 a0_1 a0_2 a0_3 a0_4 a0_5 a1_0 a1_1 a1_2 a1_3 a1_4 a1_5)) = some r := by rw [if_neg (show ¬ (false = true) by decide)] at H; exact H
          clear H
          have H := H1
          clear H1
          by_cases c99 : x9_5 = true
          · subst c99
            have H1 : (thalweglaw02_HeightOrder.j1 kj5 true false true false a0_0 a0_1 a0_2 a0_3 a0_4 a0_5 a1_0 a1_1 a1_2 a1_3 a1_4 a1_5) = some r := by rw [if_pos rfl] at H; exact H
            clear H
            have H := H1
            clear H1
            have H' := YL H
            clear H
            have hnb100 := NB354_355.out
            have hnc100 := NB355_354.out
            have hnb101 := NB354_356.out
            have hnc101 := NB356_354.out
            have hcz102_0 : wc.cell? ⟨gb354, 0, none⟩ = some (.bool a0_0) := (YI BK354.out 0).trans rfl
            have hcz102_1 : wc.cell? ⟨gb354, 1, none⟩ = some (.int .i64 a0_1) := (YI BK354.out 1).trans rfl
            have hcz102_2 : wc.cell? ⟨gb354, 2, none⟩ = some (.int .i64 a0_2) := (YI BK354.out 2).trans rfl
            have hcz102_3 : wc.cell? ⟨gb354, 3, none⟩ = some (.int .i64 a0_3) := (YI BK354.out 3).trans rfl
            have hcz102_4 : wc.cell? ⟨gb354, 4, none⟩ = some (.int .i64 a0_4) := (YI BK354.out 4).trans rfl
            have hcz102_5 : wc.cell? ⟨gb354, 5, none⟩ = some (.int .i64 a0_5) := (YI BK354.out 5).trans rfl
            have hfz102_0 := YJ BK354.out 0
            have hfz102_1 := YJ BK354.out 1
            have hfz102_2 := YJ BK354.out 2
            have hfz102_3 := YJ BK354.out 3
            have hfz102_4 := YJ BK354.out 4
            have hfz102_5 := YJ BK354.out 5
            go_wp2_with (first | (go_at_call 14; (with_reducible refine (height_Less.calls kj5 a0_0 a0_1 a0_2 a0_3 a0_4 a0_5 a0_0 a0_1 a0_2 a0_3 a0_4 a0_5 false _ A55.out).mono ?_); rintro e w103 ⟨rfl, hb⟩; have n0_ := YL (YK (g := gb354) (by (with_reducible repeat (first | refine YF ?_ _ | refine YG ?_ | refine YH ?_ _)); exact BK354.out) hb); have n1_ := YL (YK (g := gb355) (by (with_reducible repeat (first | refine YF ?_ _ | refine YG ?_ | refine YH ?_ _)); exact BK355.out) hb); have n2_ := YL (YK (g := gb356) (by (with_reducible repeat (first | refine YF ?_ _ | refine YG ?_ | refine YH ?_ _)); exact BK356.out) hb); have n3_ := YL (YD (by repeat (first | (with_reducible first | exact HB.out | apply YA | apply YB | apply YC) | exact HB.out)) hb); clear BK354; clear BK355; clear BK356; clear HB; have BK354 := n0_; have BK355 := n1_; have BK356 := n2_; have HB := n3_; clear n0_ n1_ n2_ n3_; (try clear hb); (try clear hb2); (try clear hk); (try clear hi); have hnb104 := NB355_356.out; have hnc104 := NB356_355.out; have hcz105_0 : w103.cell? ⟨gb355, 0, none⟩ = some (.bool a1_0) := (YI BK355.out 0).trans rfl; have hcz105_1 : w103.cell? ⟨gb355, 1, none⟩ = some (.int .i64 a1_1) := (YI BK355.out 1).trans rfl; have hcz105_2 : w103.cell? ⟨gb355, 2, none⟩ = some (.int .i64 a1_2) := (YI BK355.out 2).trans rfl; have hcz105_3 : w103.cell? ⟨gb355, 3, none⟩ = some (.int .i64 a1_3) := (YI BK355.out 3).trans rfl; have hcz105_4 : w103.cell? ⟨gb355, 4, none⟩ = some (.int .i64 a1_4) := (YI BK355.out 4).trans rfl; have hcz105_5 : w103.cell? ⟨gb355, 5, none⟩ = some (.int .i64 a1_5) := (YI BK355.out 5).trans rfl; have hfz105_0 := YJ BK355.out 0; have hfz105_1 := YJ BK355.out 1; have hfz105_2 := YJ BK355.out 2; have hfz105_3 := YJ BK355.out 3; have hfz105_4 := YJ BK355.out 4; have hfz105_5 := YJ BK355.out 5; have hcz106_0 : w103.cell? ⟨gb356, 0, none⟩ = some (.bool a2_0) := (YI BK356.out 0).trans rfl; have hcz106_1 : w103.cell? ⟨gb356, 1, none⟩ = some (.int .i64 a2_1) := (YI BK356.out 1).trans rfl; have hcz106_2 : w103.cell? ⟨gb356, 2, none⟩ = some (.int .i64 a2_2) := (YI BK356.out 2).trans rfl; have hcz106_3 : w103.cell? ⟨gb356, 3, none⟩ = some (.int .i64 a2_3) := (YI BK356.out 3).trans rfl; have hcz106_4 : w103.cell? ⟨gb356, 4, none⟩ = some (.int .i64 a2_4) := (YI BK356.out 4).trans rfl; have hcz106_5 : w103.cell? ⟨gb356, 5, none⟩ = some (.int .i64 a2_5) := (YI BK356.out 5).trans rfl; have hfz106_0 := YJ BK356.out 0; have hfz106_1 := YJ BK356.out 1; have hfz106_2 := YJ BK356.out 2; have hfz106_3 := YJ BK356.out 3; have hfz106_4 := YJ BK356.out 4; have hfz106_5 := YJ BK356.out 5) | (go_at_call 14; (with_reducible refine (height_Less.calls kj5 a1_0 a1_1 a1_2 a1_3 a1_4 a1_5 a2_0 a2_1 a2_2 a2_3 a2_4 a2_5 false _ A61.out).mono ?_); rintro e w107 ⟨rfl, hb⟩; have n0_ := YL (YK (g := gb354) (by (with_reducible repeat (first | refine YF ?_ _ | refine YG ?_ | refine YH ?_ _)); exact BK354.out) hb); have n1_ := YL (YK (g := gb355) (by (with_reducible repeat (first | refine YF ?_ _ | refine YG ?_ | refine YH ?_ _)); exact BK355.out) hb); have n2_ := YL (YK (g := gb356) (by (with_reducible repeat (first | refine YF ?_ _ | refine YG ?_ | refine YH ?_ _)); exact BK356.out) hb); have n3_ := YL (YD (by repeat (first | (with_reducible first | exact HB.out | apply YA | apply YB | apply YC) | exact HB.out)) hb); clear BK354; clear BK355; clear BK356; clear HB; have BK354 := n0_; have BK355 := n1_; have BK356 := n2_; have HB := n3_; clear n0_ n1_ n2_ n3_; (try clear hb); (try clear hb2); (try clear hk); (try clear hi)))
            go_meet
            case rel => exact ⟨_, (false), (by first | rfl | (simp; done) | (simp [*]; done)), H', ⟨by have := HJ5.out; first | omega | exact Nat.le_refl _⟩, ⟨by (with_reducible repeat (first | refine YF ?_ _ | refine YG ?_ | refine YH ?_ _)); exact BK354.out⟩, ⟨by (with_reducible repeat (first | refine YF ?_ _ | refine YG ?_ | refine YH ?_ _)); exact BK355.out⟩, ⟨by (with_reducible repeat (first | refine YF ?_ _ | refine YG ?_ | refine YH ?_ _)); exact BK356.out⟩, ⟨by repeat (first | (with_reducible first | exact HB.out | apply YA | apply YB | apply YC) | exact HB.out)⟩⟩
          replace c99 := Bool.eq_false_iff.mpr c99
          subst c99
          have H1 : (thalweglaw02_HeightOrder.j1 kj5 true false false true a0_0 a0_1 a0_2 a0_3 a0_4 a0_5 a1_0 a1_1 a1_2 a1_3 a1_4 a1_5) = some r := by rw [if_neg (show ¬ (false = true) by decide)] at H; exact H
          clear H
          have H := H1
          clear H1
          have H' := YL H
          clear H
          have hnb108 := NB354_355.out
          have hnc108 := NB355_354.out
          have hnb109 := NB354_356.out
          have hnc109 := NB356_354.out
          have hcz110_0 : wc.cell? ⟨gb354, 0, none⟩ = some (.bool a0_0) := (YI BK354.out 0).trans rfl
          have hcz110_1 : wc.cell? ⟨gb354, 1, none⟩ = some (.int .i64 a0_1) := (YI BK354.out 1).trans rfl
          have hcz110_2 : wc.cell? ⟨gb354, 2, none⟩ = some (.int .i64 a0_2) := (YI BK354.out 2).trans rfl
          have hcz110_3 : wc.cell? ⟨gb354, 3, none⟩ = some (.int .i64 a0_3) := (YI BK354.out 3).trans rfl
          have hcz110_4 : wc.cell? ⟨gb354, 4, none⟩ = some (.int .i64 a0_4) := (YI BK354.out 4).trans rfl
          have hcz110_5 : wc.cell? ⟨gb354, 5, none⟩ = some (.int .i64 a0_5) := (YI BK354.out 5).trans rfl
          have hfz110_0 := YJ BK354.out 0
          have hfz110_1 := YJ BK354.out 1
          have hfz110_2 := YJ BK354.out 2
          have hfz110_3 := YJ BK354.out 3
          have hfz110_4 := YJ BK354.out 4
          have hfz110_5 := YJ BK354.out 5
          go_wp2_with (first | (go_at_call 14; (with_reducible refine (height_Less.calls kj5 a0_0 a0_1 a0_2 a0_3 a0_4 a0_5 a0_0 a0_1 a0_2 a0_3 a0_4 a0_5 false _ A55.out).mono ?_); rintro e w111 ⟨rfl, hb⟩; have n0_ := YL (YK (g := gb354) (by (with_reducible repeat (first | refine YF ?_ _ | refine YG ?_ | refine YH ?_ _)); exact BK354.out) hb); have n1_ := YL (YK (g := gb355) (by (with_reducible repeat (first | refine YF ?_ _ | refine YG ?_ | refine YH ?_ _)); exact BK355.out) hb); have n2_ := YL (YK (g := gb356) (by (with_reducible repeat (first | refine YF ?_ _ | refine YG ?_ | refine YH ?_ _)); exact BK356.out) hb); have n3_ := YL (YD (by repeat (first | (with_reducible first | exact HB.out | apply YA | apply YB | apply YC) | exact HB.out)) hb); clear BK354; clear BK355; clear BK356; clear HB; have BK354 := n0_; have BK355 := n1_; have BK356 := n2_; have HB := n3_; clear n0_ n1_ n2_ n3_; (try clear hb); (try clear hb2); (try clear hk); (try clear hi); have hnb112 := NB355_356.out; have hnc112 := NB356_355.out; have hcz113_0 : w111.cell? ⟨gb355, 0, none⟩ = some (.bool a1_0) := (YI BK355.out 0).trans rfl; have hcz113_1 : w111.cell? ⟨gb355, 1, none⟩ = some (.int .i64 a1_1) := (YI BK355.out 1).trans rfl; have hcz113_2 : w111.cell? ⟨gb355, 2, none⟩ = some (.int .i64 a1_2) := (YI BK355.out 2).trans rfl; have hcz113_3 : w111.cell? ⟨gb355, 3, none⟩ = some (.int .i64 a1_3) := (YI BK355.out 3).trans rfl; have hcz113_4 : w111.cell? ⟨gb355, 4, none⟩ = some (.int .i64 a1_4) := (YI BK355.out 4).trans rfl; have hcz113_5 : w111.cell? ⟨gb355, 5, none⟩ = some (.int .i64 a1_5) := (YI BK355.out 5).trans rfl; have hfz113_0 := YJ BK355.out 0; have hfz113_1 := YJ BK355.out 1; have hfz113_2 := YJ BK355.out 2; have hfz113_3 := YJ BK355.out 3; have hfz113_4 := YJ BK355.out 4; have hfz113_5 := YJ BK355.out 5; have hcz114_0 : w111.cell? ⟨gb356, 0, none⟩ = some (.bool a2_0) := (YI BK356.out 0).trans rfl; have hcz114_1 : w111.cell? ⟨gb356, 1, none⟩ = some (.int .i64 a2_1) := (YI BK356.out 1).trans rfl; have hcz114_2 : w111.cell? ⟨gb356, 2, none⟩ = some (.int .i64 a2_2) := (YI BK356.out 2).trans rfl; have hcz114_3 : w111.cell? ⟨gb356, 3, none⟩ = some (.int .i64 a2_3) := (YI BK356.out 3).trans rfl; have hcz114_4 : w111.cell? ⟨gb356, 4, none⟩ = some (.int .i64 a2_4) := (YI BK356.out 4).trans rfl; have hcz114_5 : w111.cell? ⟨gb356, 5, none⟩ = some (.int .i64 a2_5) := (YI BK356.out 5).trans rfl; have hfz114_0 := YJ BK356.out 0; have hfz114_1 := YJ BK356.out 1; have hfz114_2 := YJ BK356.out 2; have hfz114_3 := YJ BK356.out 3; have hfz114_4 := YJ BK356.out 4; have hfz114_5 := YJ BK356.out 5) | (go_at_call 14; (with_reducible refine (height_Less.calls kj5 a1_0 a1_1 a1_2 a1_3 a1_4 a1_5 a2_0 a2_1 a2_2 a2_3 a2_4 a2_5 false _ A61.out).mono ?_); rintro e w115 ⟨rfl, hb⟩; have n0_ := YL (YK (g := gb354) (by (with_reducible repeat (first | refine YF ?_ _ | refine YG ?_ | refine YH ?_ _)); exact BK354.out) hb); have n1_ := YL (YK (g := gb355) (by (with_reducible repeat (first | refine YF ?_ _ | refine YG ?_ | refine YH ?_ _)); exact BK355.out) hb); have n2_ := YL (YK (g := gb356) (by (with_reducible repeat (first | refine YF ?_ _ | refine YG ?_ | refine YH ?_ _)); exact BK356.out) hb); have n3_ := YL (YD (by repeat (first | (with_reducible first | exact HB.out | apply YA | apply YB | apply YC) | exact HB.out)) hb); clear BK354; clear BK355; clear BK356; clear HB; have BK354 := n0_; have BK355 := n1_; have BK356 := n2_; have HB := n3_; clear n0_ n1_ n2_ n3_; (try clear hb); (try clear hb2); (try clear hk); (try clear hi)))
          go_meet
          case rel => exact ⟨_, (true), (by first | rfl | (simp; done) | (simp [*]; done)), H', ⟨by have := HJ5.out; first | omega | exact Nat.le_refl _⟩, ⟨by (with_reducible repeat (first | refine YF ?_ _ | refine YG ?_ | refine YH ?_ _)); exact BK354.out⟩, ⟨by (with_reducible repeat (first | refine YF ?_ _ | refine YG ?_ | refine YH ?_ _)); exact BK355.out⟩, ⟨by (with_reducible repeat (first | refine YF ?_ _ | refine YG ?_ | refine YH ?_ _)); exact BK356.out⟩, ⟨by repeat (first | (with_reducible first | exact HB.out | apply YA | apply YB | apply YC) | exact HB.out)⟩⟩
        replace c53 := Bool.eq_false_iff.mpr c53
        subst c53
        have H1 : ((height_Less.f kj5 a0_0 a0_1 a0_2 a0_3 a0_4 a0_5 a0_0 a0_1 a0_2 a0_3 a0_4 a0_5).bind fun t364 => (if t364 = true then (thalweglaw02_HeightOrder.j1 kj5 false t358 x9_5 true a0_0 a0_1 a0_2 a0_3 a0_4 a0_5 a1_0 a1_1 a1_2 a1_3 a1_4 a1_5) else (if x9_5 = true then (thalweglaw02_HeightOrder.j1 kj5 false t358 true false a0_0 a0_1 a0_2 a0_3 a0_4 a0_5 a1_0 a1_1 a1_2 a1_3 a1_4 a1_5) else (thalweglaw02_HeightOrder.j1 kj5 false t358 false t358 a0_0 a0_1 a0_2 a0_3 a0_4 a0_5 a1_0 a1_1 a1_2 a1_3 a1_4 a1_5)))) = some r := by rw [if_neg (show ¬ (false = true) by decide)] at H; exact H
        clear H
        have H := H1
        clear H1; replace H := Option.bind_eq_some_iff.mp H; obtain ⟨t364, A1160, H⟩ := H
        replace H : (if t364 = true then (thalweglaw02_HeightOrder.j1 kj5 false t358 x9_5 true a0_0 a0_1 a0_2 a0_3 a0_4 a0_5 a1_0 a1_1 a1_2 a1_3 a1_4 a1_5) else (if x9_5 = true then (thalweglaw02_HeightOrder.j1 kj5 false t358 true false a0_0 a0_1 a0_2 a0_3 a0_4 a0_5 a1_0 a1_1 a1_2 a1_3 a1_4 a1_5) else (thalweglaw02_HeightOrder.j1 kj5 false t358 false t358 a0_0 a0_1 a0_2 a0_3 a0_4 a0_5 a1_0 a1_1 a1_2 a1_3 a1_4 a1_5))) = some r := H
        have A116 := YL A1160; clear A1160
        by_cases c117 : t364 = true
        · subst c117
          have H1 : (thalweglaw02_HeightOrder.j1 kj5 false t358 x9_5 true a0_0 a0_1 a0_2 a0_3 a0_4 a0_5 a1_0 a1_1 a1_2 a1_3 a1_4 a1_5) = some r := by rw [if_pos rfl] at H; exact H
          clear H
          have H := H1
          clear H1
          have H' := YL H
          clear H
          have hnb118 := NB354_355.out
          have hnc118 := NB355_354.out
          have hnb119 := NB354_356.out
          have hnc119 := NB356_354.out
          have hcz120_0 : wc.cell? ⟨gb354, 0, none⟩ = some (.bool a0_0) := (YI BK354.out 0).trans rfl
          have hcz120_1 : wc.cell? ⟨gb354, 1, none⟩ = some (.int .i64 a0_1) := (YI BK354.out 1).trans rfl
          have hcz120_2 : wc.cell? ⟨gb354, 2, none⟩ = some (.int .i64 a0_2) := (YI BK354.out 2).trans rfl
          have hcz120_3 : wc.cell? ⟨gb354, 3, none⟩ = some (.int .i64 a0_3) := (YI BK354.out 3).trans rfl
          have hcz120_4 : wc.cell? ⟨gb354, 4, none⟩ = some (.int .i64 a0_4) := (YI BK354.out 4).trans rfl
          have hcz120_5 : wc.cell? ⟨gb354, 5, none⟩ = some (.int .i64 a0_5) := (YI BK354.out 5).trans rfl
          have hfz120_0 := YJ BK354.out 0
          have hfz120_1 := YJ BK354.out 1
          have hfz120_2 := YJ BK354.out 2
          have hfz120_3 := YJ BK354.out 3
          have hfz120_4 := YJ BK354.out 4
          have hfz120_5 := YJ BK354.out 5
          go_wp2_with (first | (go_at_call 14; (with_reducible refine (height_Less.calls kj5 a0_0 a0_1 a0_2 a0_3 a0_4 a0_5 a0_0 a0_1 a0_2 a0_3 a0_4 a0_5 true _ A116.out).mono ?_); rintro e w121 ⟨rfl, hb⟩; have n0_ := YL (YK (g := gb354) (by (with_reducible repeat (first | refine YF ?_ _ | refine YG ?_ | refine YH ?_ _)); exact BK354.out) hb); have n1_ := YL (YK (g := gb355) (by (with_reducible repeat (first | refine YF ?_ _ | refine YG ?_ | refine YH ?_ _)); exact BK355.out) hb); have n2_ := YL (YK (g := gb356) (by (with_reducible repeat (first | refine YF ?_ _ | refine YG ?_ | refine YH ?_ _)); exact BK356.out) hb); have n3_ := YL (YD (by repeat (first | (with_reducible first | exact HB.out | apply YA | apply YB | apply YC) | exact HB.out)) hb); clear BK354; clear BK355; clear BK356; clear HB; have BK354 := n0_; have BK355 := n1_; have BK356 := n2_; have HB := n3_; clear n0_ n1_ n2_ n3_; (try clear hb); (try clear hb2); (try clear hk); (try clear hi)))
          go_meet
          case rel => exact ⟨_, (true), (by first | rfl | (simp; done) | (simp [*]; done)), H', ⟨by have := HJ5.out; first | omega | exact Nat.le_refl _⟩, ⟨by (with_reducible repeat (first | refine YF ?_ _ | refine YG ?_ | refine YH ?_ _)); exact BK354.out⟩, ⟨by (with_reducible repeat (first | refine YF ?_ _ | refine YG ?_ | refine YH ?_ _)); exact BK355.out⟩, ⟨by (with_reducible repeat (first | refine YF ?_ _ | refine YG ?_ | refine YH ?_ _)); exact BK356.out⟩, ⟨by repeat (first | (with_reducible first | exact HB.out | apply YA | apply YB | apply YC) | exact HB.out)⟩⟩
        replace c117 := Bool.eq_false_iff.mpr c117
        subst c117
        have H1 : (if x9_5 = true then (thalweglaw02_HeightOrder.j1 kj5 false t358 true false a0_0 a0_1 a0_2 a0_3 a0_4 a0_5 a1_0 a1_1 a1_2 a1_3 a1_4 a1_5) else (thalweglaw02_HeightOrder.j1 kj5 false t358 false t358 a0_0 a0_1 a0_2 a0_3 a0_4 a0_5 a1_0 a1_1 a1_2 a1_3 a1_4 a1_5)) = some r := by rw [if_neg (show ¬ (false = true) by decide)] at H; exact H
        clear H
        have H := H1
        clear H1
        by_cases c122 : x9_5 = true
        · subst c122
          have H1 : (thalweglaw02_HeightOrder.j1 kj5 false t358 true false a0_0 a0_1 a0_2 a0_3 a0_4 a0_5 a1_0 a1_1 a1_2 a1_3 a1_4 a1_5) = some r := by rw [if_pos rfl] at H; exact H
          clear H
          have H := H1
          clear H1
          have H' := YL H
          clear H
          have hnb123 := NB354_355.out
          have hnc123 := NB355_354.out
          have hnb124 := NB354_356.out
          have hnc124 := NB356_354.out
          have hcz125_0 : wc.cell? ⟨gb354, 0, none⟩ = some (.bool a0_0) := (YI BK354.out 0).trans rfl
          have hcz125_1 : wc.cell? ⟨gb354, 1, none⟩ = some (.int .i64 a0_1) := (YI BK354.out 1).trans rfl
          have hcz125_2 : wc.cell? ⟨gb354, 2, none⟩ = some (.int .i64 a0_2) := (YI BK354.out 2).trans rfl
          have hcz125_3 : wc.cell? ⟨gb354, 3, none⟩ = some (.int .i64 a0_3) := (YI BK354.out 3).trans rfl
          have hcz125_4 : wc.cell? ⟨gb354, 4, none⟩ = some (.int .i64 a0_4) := (YI BK354.out 4).trans rfl
          have hcz125_5 : wc.cell? ⟨gb354, 5, none⟩ = some (.int .i64 a0_5) := (YI BK354.out 5).trans rfl
          have hfz125_0 := YJ BK354.out 0
          have hfz125_1 := YJ BK354.out 1
          have hfz125_2 := YJ BK354.out 2
          have hfz125_3 := YJ BK354.out 3
          have hfz125_4 := YJ BK354.out 4
          have hfz125_5 := YJ BK354.out 5
          go_wp2_with (first | (go_at_call 14; (with_reducible refine (height_Less.calls kj5 a0_0 a0_1 a0_2 a0_3 a0_4 a0_5 a0_0 a0_1 a0_2 a0_3 a0_4 a0_5 false _ A116.out).mono ?_); rintro e w126 ⟨rfl, hb⟩; have n0_ := YL (YK (g := gb354) (by (with_reducible repeat (first | refine YF ?_ _ | refine YG ?_ | refine YH ?_ _)); exact BK354.out) hb); have n1_ := YL (YK (g := gb355) (by (with_reducible repeat (first | refine YF ?_ _ | refine YG ?_ | refine YH ?_ _)); exact BK355.out) hb); have n2_ := YL (YK (g := gb356) (by (with_reducible repeat (first | refine YF ?_ _ | refine YG ?_ | refine YH ?_ _)); exact BK356.out) hb); have n3_ := YL (YD (by repeat (first | (with_reducible first | exact HB.out | apply YA | apply YB | apply YC) | exact HB.out)) hb); clear BK354; clear BK355; clear BK356; clear HB; have BK354 := n0_; have BK355 := n1_; have BK356 := n2_; have HB := n3_; clear n0_ n1_ n2_ n3_; (try clear hb); (try clear hb2); (try clear hk); (try clear hi)))
          go_meet
          case rel => exact ⟨_, (false), (by first | rfl | (simp; done) | (simp [*]; done)), H', ⟨by have := HJ5.out; first | omega | exact Nat.le_refl _⟩, ⟨by (with_reducible repeat (first | refine YF ?_ _ | refine YG ?_ | refine YH ?_ _)); exact BK354.out⟩, ⟨by (with_reducible repeat (first | refine YF ?_ _ | refine YG ?_ | refine YH ?_ _)); exact BK355.out⟩, ⟨by (with_reducible repeat (first | refine YF ?_ _ | refine YG ?_ | refine YH ?_ _)); exact BK356.out⟩, ⟨by repeat (first | (with_reducible first | exact HB.out | apply YA | apply YB | apply YC) | exact HB.out)⟩⟩
        replace c122 := Bool.eq_false_iff.mpr c122
        subst c122
        have H1 : (thalweglaw02_HeightOrder.j1 kj5 false t358 false t358 a0_0 a0_1 a0_2 a0_3 a0_4 a0_5 a1_0 a1_1 a1_2 a1_3 a1_4 a1_5) = some r := by rw [if_neg (show ¬ (false = true) by decide)] at H; exact H
        clear H
        have H := H1
        clear H1
        have H' := YL H
        clear H
        have hnb127 := NB354_355.out
        have hnc127 := NB355_354.out
        have hnb128 := NB354_356.out
        have hnc128 := NB356_354.out
        have hcz129_0 : wc.cell? ⟨gb354, 0, none⟩ = some (.bool a0_0) := (YI BK354.out 0).trans rfl
        have hcz129_1 : wc.cell? ⟨gb354, 1, none⟩ = some (.int .i64 a0_1) := (YI BK354.out 1).trans rfl
        have hcz129_2 : wc.cell? ⟨gb354, 2, none⟩ = some (.int .i64 a0_2) := (YI BK354.out 2).trans rfl
        have hcz129_3 : wc.cell? ⟨gb354, 3, none⟩ = some (.int .i64 a0_3) := (YI BK354.out 3).trans rfl
        have hcz129_4 : wc.cell? ⟨gb354, 4, none⟩ = some (.int .i64 a0_4) := (YI BK354.out 4).trans rfl
        have hcz129_5 : wc.cell? ⟨gb354, 5, none⟩ = some (.int .i64 a0_5) := (YI BK354.out 5).trans rfl
        have hfz129_0 := YJ BK354.out 0
        have hfz129_1 := YJ BK354.out 1
        have hfz129_2 := YJ BK354.out 2
        have hfz129_3 := YJ BK354.out 3
        have hfz129_4 := YJ BK354.out 4
        have hfz129_5 := YJ BK354.out 5
        go_wp2_with (first | (go_at_call 14; (with_reducible refine (height_Less.calls kj5 a0_0 a0_1 a0_2 a0_3 a0_4 a0_5 a0_0 a0_1 a0_2 a0_3 a0_4 a0_5 false _ A116.out).mono ?_); rintro e w130 ⟨rfl, hb⟩; have n0_ := YL (YK (g := gb354) (by (with_reducible repeat (first | refine YF ?_ _ | refine YG ?_ | refine YH ?_ _)); exact BK354.out) hb); have n1_ := YL (YK (g := gb355) (by (with_reducible repeat (first | refine YF ?_ _ | refine YG ?_ | refine YH ?_ _)); exact BK355.out) hb); have n2_ := YL (YK (g := gb356) (by (with_reducible repeat (first | refine YF ?_ _ | refine YG ?_ | refine YH ?_ _)); exact BK356.out) hb); have n3_ := YL (YD (by repeat (first | (with_reducible first | exact HB.out | apply YA | apply YB | apply YC) | exact HB.out)) hb); clear BK354; clear BK355; clear BK356; clear HB; have BK354 := n0_; have BK355 := n1_; have BK356 := n2_; have HB := n3_; clear n0_ n1_ n2_ n3_; (try clear hb); (try clear hb2); (try clear hk); (try clear hi)))
        go_meet
        case rel => exact ⟨_, (t358), (by first | rfl | (simp; done) | (simp [*]; done)), H', ⟨by have := HJ5.out; first | omega | exact Nat.le_refl _⟩, ⟨by (with_reducible repeat (first | refine YF ?_ _ | refine YG ?_ | refine YH ?_ _)); exact BK354.out⟩, ⟨by (with_reducible repeat (first | refine YF ?_ _ | refine YG ?_ | refine YH ?_ _)); exact BK355.out⟩, ⟨by (with_reducible repeat (first | refine YF ?_ _ | refine YG ?_ | refine YH ?_ _)); exact BK356.out⟩, ⟨by repeat (first | (with_reducible first | exact HB.out | apply YA | apply YB | apply YC) | exact HB.out)⟩⟩
      case rest =>
        clear HC52
        try clear c1
        try clear c2
        try clear p2
        try clear c3
        try clear c4
        try clear c5
        try clear c6
        try clear c7
        try clear c8
        try clear c9
        try clear c10
        try clear c11
        try clear c12
        try clear c13
        try clear c14
        try clear c20
        try clear c20b0
        try clear c20b1
        try clear c22
        try clear c22b0
        try clear c22b1
        try clear c23
        try clear c24
        try clear c25
        try clear c28
        try clear c32
        try clear c33
        try clear c36
        try clear c41
        try clear c42
        try clear c45
        try clear c48
        try clear c49
        try clear c53
        try clear c54
        try clear c56
        try clear c57
        try clear c58
        try clear c62
        try clear c64
        try clear c65
        try clear c66
        try clear c67
        try clear c70
        try clear c77
        try clear c78
        try clear c81
        try clear c88
        try clear c89
        try clear c92
        try clear c99
        try clear c100
        try clear c101
        try clear c104
        try clear c108
        try clear c109
        try clear c112
        try clear c117
        try clear c118
        try clear c119
        try clear c122
        try clear c123
        try clear c124
        try clear c127
        try clear c128
        try clear hcz102_0
        try clear hcz102_1
        try clear hcz102_2
        try clear hcz102_3
        try clear hcz102_4
        try clear hcz102_5
        try clear hcz105_0
        try clear hcz105_1
        try clear hcz105_2
        try clear hcz105_3
        try clear hcz105_4
        try clear hcz105_5
        try clear hcz106_0
        try clear hcz106_1
        try clear hcz106_2
        try clear hcz106_3
        try clear hcz106_4
        try clear hcz106_5
        try clear hcz110_0
        try clear hcz110_1
        try clear hcz110_2
        try clear hcz110_3
        try clear hcz110_4
        try clear hcz110_5
        try clear hcz113_0
        try clear hcz113_1
        try clear hcz113_2
        try clear hcz113_3
        try clear hcz113_4
        try clear hcz113_5
        try clear hcz114_0
        try clear hcz114_1
        try clear hcz114_2
        try clear hcz114_3
        try clear hcz114_4
        try clear hcz114_5
        try clear hcz120_0
        try clear hcz120_1
        try clear hcz120_2
        try clear hcz120_3
        try clear hcz120_4
        try clear hcz120_5
        try clear hcz125_0
        try clear hcz125_1
        try clear hcz125_2
        try clear hcz125_3
        try clear hcz125_4
        try clear hcz125_5
        try clear hcz129_0
        try clear hcz129_1
        try clear hcz129_2
        try clear hcz129_3
        try clear hcz129_4
        try clear hcz129_5
        try clear hcz12_0
        try clear hcz12_1
        try clear hcz12_2
        try clear hcz12_3
        try clear hcz12_4
        try clear hcz12_5
        try clear hcz14_0
        try clear hcz14_1
        try clear hcz14_2
        try clear hcz14_3
        try clear hcz14_4
        try clear hcz14_5
        try clear hcz16_0
        try clear hcz16_1
        try clear hcz16_2
        try clear hcz16_3
        try clear hcz16_4
        try clear hcz16_5
        try clear hcz17_0
        try clear hcz17_1
        try clear hcz17_2
        try clear hcz17_3
        try clear hcz17_4
        try clear hcz17_5
        try clear hcz26_0
        try clear hcz26_1
        try clear hcz26_2
        try clear hcz26_3
        try clear hcz26_4
        try clear hcz26_5
        try clear hcz29_0
        try clear hcz29_1
        try clear hcz29_2
        try clear hcz29_3
        try clear hcz29_4
        try clear hcz29_5
        try clear hcz31_0
        try clear hcz31_1
        try clear hcz31_2
        try clear hcz31_3
        try clear hcz31_4
        try clear hcz31_5
        try clear hcz34_0
        try clear hcz34_1
        try clear hcz34_2
        try clear hcz34_3
        try clear hcz34_4
        try clear hcz34_5
        try clear hcz37_0
        try clear hcz37_1
        try clear hcz37_2
        try clear hcz37_3
        try clear hcz37_4
        try clear hcz37_5
        try clear hcz39_0
        try clear hcz39_1
        try clear hcz39_2
        try clear hcz39_3
        try clear hcz39_4
        try clear hcz39_5
        try clear hcz40_0
        try clear hcz40_1
        try clear hcz40_2
        try clear hcz40_3
        try clear hcz40_4
        try clear hcz40_5
        try clear hcz43_0
        try clear hcz43_1
        try clear hcz43_2
        try clear hcz43_3
        try clear hcz43_4
        try clear hcz43_5
        try clear hcz46_0
        try clear hcz46_1
        try clear hcz46_2
        try clear hcz46_3
        try clear hcz46_4
        try clear hcz46_5
        try clear hcz50_0
        try clear hcz50_1
        try clear hcz50_2
        try clear hcz50_3
        try clear hcz50_4
        try clear hcz50_5
        try clear hcz59_0
        try clear hcz59_1
        try clear hcz59_2
        try clear hcz59_3
        try clear hcz59_4
        try clear hcz59_5
        try clear hcz68_0
        try clear hcz68_1
        try clear hcz68_2
        try clear hcz68_3
        try clear hcz68_4
        try clear hcz68_5
        try clear hcz71_0
        try clear hcz71_1
        try clear hcz71_2
        try clear hcz71_3
        try clear hcz71_4
        try clear hcz71_5
        try clear hcz72_0
        try clear hcz72_1
        try clear hcz72_2
        try clear hcz72_3
        try clear hcz72_4
        try clear hcz72_5
        try clear hcz74_0
        try clear hcz74_1
        try clear hcz74_2
        try clear hcz74_3
        try clear hcz74_4
        try clear hcz74_5
        try clear hcz75_0
        try clear hcz75_1
        try clear hcz75_2
        try clear hcz75_3
        try clear hcz75_4
        try clear hcz75_5
        try clear hcz79_0
        try clear hcz79_1
        try clear hcz79_2
        try clear hcz79_3
        try clear hcz79_4
        try clear hcz79_5
        try clear hcz82_0
        try clear hcz82_1
        try clear hcz82_2
        try clear hcz82_3
        try clear hcz82_4
        try clear hcz82_5
        try clear hcz83_0
        try clear hcz83_1
        try clear hcz83_2
        try clear hcz83_3
        try clear hcz83_4
        try clear hcz83_5
        try clear hcz85_0
        try clear hcz85_1
        try clear hcz85_2
        try clear hcz85_3
        try clear hcz85_4
        try clear hcz85_5
        try clear hcz86_0
        try clear hcz86_1
        try clear hcz86_2
        try clear hcz86_3
        try clear hcz86_4
        try clear hcz86_5
        try clear hcz90_0
        try clear hcz90_1
        try clear hcz90_2
        try clear hcz90_3
        try clear hcz90_4
        try clear hcz90_5
        try clear hcz93_0
        try clear hcz93_1
        try clear hcz93_2
        try clear hcz93_3
        try clear hcz93_4
        try clear hcz93_5
        try clear hcz94_0
        try clear hcz94_1
        try clear hcz94_2
        try clear hcz94_3
        try clear hcz94_4
        try clear hcz94_5
        try clear hcz96_0
        try clear hcz96_1
        try clear hcz96_2
        try clear hcz96_3
        try clear hcz96_4
        try clear hcz96_5
        try clear hcz97_0
        try clear hcz97_1
        try clear hcz97_2
        try clear hcz97_3
        try clear hcz97_4
        try clear hcz97_5
        try clear hfz102_0
        try clear hfz102_1
        try clear hfz102_2
        try clear hfz102_3
        try clear hfz102_4
        try clear hfz102_5
        try clear hfz105_0
        try clear hfz105_1
        try clear hfz105_2
        try clear hfz105_3
        try clear hfz105_4
        try clear hfz105_5
        try clear hfz106_0
        try clear hfz106_1
        try clear hfz106_2
        try clear hfz106_3
        try clear hfz106_4
        try clear hfz106_5
        try clear hfz110_0
        try clear hfz110_1
        try clear hfz110_2
        try clear hfz110_3
        try clear hfz110_4
        try clear hfz110_5
        try clear hfz113_0
        try clear hfz113_1
        try clear hfz113_2
        try clear hfz113_3
        try clear hfz113_4
        try clear hfz113_5
        try clear hfz114_0
        try clear hfz114_1
        try clear hfz114_2
        try clear hfz114_3
        try clear hfz114_4
        try clear hfz114_5
        try clear hfz120_0
        try clear hfz120_1
        try clear hfz120_2
        try clear hfz120_3
        try clear hfz120_4
        try clear hfz120_5
        try clear hfz125_0
        try clear hfz125_1
        try clear hfz125_2
        try clear hfz125_3
        try clear hfz125_4
        try clear hfz125_5
        try clear hfz129_0
        try clear hfz129_1
        try clear hfz129_2
        try clear hfz129_3
        try clear hfz129_4
        try clear hfz129_5
        try clear hfz12_0
        try clear hfz12_1
        try clear hfz12_2
        try clear hfz12_3
        try clear hfz12_4
        try clear hfz12_5
        try clear hfz14_0
        try clear hfz14_1
        try clear hfz14_2
        try clear hfz14_3
        try clear hfz14_4
        try clear hfz14_5
        try clear hfz16_0
        try clear hfz16_1
        try clear hfz16_2
        try clear hfz16_3
        try clear hfz16_4
        try clear hfz16_5
        try clear hfz17_0
        try clear hfz17_1
        try clear hfz17_2
        try clear hfz17_3
        try clear hfz17_4
        try clear hfz17_5
        try clear hfz26_0
        try clear hfz26_1
        try clear hfz26_2
        try clear hfz26_3
        try clear hfz26_4
        try clear hfz26_5
        try clear hfz29_0
        try clear hfz29_1
        try clear hfz29_2
        try clear hfz29_3
        try clear hfz29_4
        try clear hfz29_5
        try clear hfz31_0
        try clear hfz31_1
        try clear hfz31_2
        try clear hfz31_3
        try clear hfz31_4
        try clear hfz31_5
        try clear hfz34_0
        try clear hfz34_1
        try clear hfz34_2
        try clear hfz34_3
        try clear hfz34_4
        try clear hfz34_5
        try clear hfz37_0
        try clear hfz37_1
        try clear hfz37_2
        try clear hfz37_3
        try clear hfz37_4
        try clear hfz37_5
        try clear hfz39_0
        try clear hfz39_1
        try clear hfz39_2
        try clear hfz39_3
        try clear hfz39_4
        try clear hfz39_5
        try clear hfz40_0
        try clear hfz40_1
        try clear hfz40_2
        try clear hfz40_3
        try clear hfz40_4
        try clear hfz40_5
        try clear hfz43_0
        try clear hfz43_1
        try clear hfz43_2
        try clear hfz43_3
        try clear hfz43_4
        try clear hfz43_5
        try clear hfz46_0
        try clear hfz46_1
        try clear hfz46_2
        try clear hfz46_3
        try clear hfz46_4
        try clear hfz46_5
        try clear hfz50_0
        try clear hfz50_1
        try clear hfz50_2
        try clear hfz50_3
        try clear hfz50_4
        try clear hfz50_5
        try clear hfz59_0
        try clear hfz59_1
        try clear hfz59_2
        try clear hfz59_3
        try clear hfz59_4
        try clear hfz59_5
        try clear hfz68_0
        try clear hfz68_1
        try clear hfz68_2
        try clear hfz68_3
        try clear hfz68_4
        try clear hfz68_5
        try clear hfz71_0
        try clear hfz71_1
        try clear hfz71_2
        try clear hfz71_3
        try clear hfz71_4
        try clear hfz71_5
        try clear hfz72_0
        try clear hfz72_1
        try clear hfz72_2
        try clear hfz72_3
        try clear hfz72_4
        try clear hfz72_5
        try clear hfz74_0
        try clear hfz74_1
        try clear hfz74_2
        try clear hfz74_3
        try clear hfz74_4
        try clear hfz74_5
        try clear hfz75_0
        try clear hfz75_1
        try clear hfz75_2
        try clear hfz75_3
        try clear hfz75_4
        try clear hfz75_5
        try clear hfz79_0
        try clear hfz79_1
        try clear hfz79_2
        try clear hfz79_3
        try clear hfz79_4
        try clear hfz79_5
        try clear hfz82_0
        try clear hfz82_1
        try clear hfz82_2
        try clear hfz82_3
        try clear hfz82_4
        try clear hfz82_5
        try clear hfz83_0
        try clear hfz83_1
        try clear hfz83_2
        try clear hfz83_3
        try clear hfz83_4
        try clear hfz83_5
        try clear hfz85_0
        try clear hfz85_1
        try clear hfz85_2
        try clear hfz85_3
        try clear hfz85_4
        try clear hfz85_5
        try clear hfz86_0
        try clear hfz86_1
        try clear hfz86_2
        try clear hfz86_3
        try clear hfz86_4
        try clear hfz86_5
        try clear hfz90_0
        try clear hfz90_1
        try clear hfz90_2
        try clear hfz90_3
        try clear hfz90_4
        try clear hfz90_5
        try clear hfz93_0
        try clear hfz93_1
        try clear hfz93_2
        try clear hfz93_3
        try clear hfz93_4
        try clear hfz93_5
        try clear hfz94_0
        try clear hfz94_1
        try clear hfz94_2
        try clear hfz94_3
        try clear hfz94_4
        try clear hfz94_5
        try clear hfz96_0
        try clear hfz96_1
        try clear hfz96_2
        try clear hfz96_3
        try clear hfz96_4
        try clear hfz96_5
        try clear hfz97_0
        try clear hfz97_1
        try clear hfz97_2
        try clear hfz97_3
        try clear hfz97_4
        try clear hfz97_5
        try clear p2
        obtain ⟨kq, x68_51, rfl, HA, HJ51, BK354, BK355, BK356, HB⟩ := hcut
        cases kq with
        | zero => exact absurd HA.out (by simp [thalweglaw02_HeightOrder.j1])
        | succ kj51 =>
          have H := HA.out
          clear HA
          simp only [thalweglaw02_HeightOrder.j1] at H
          by_cases c131 : x68_51 = true
          · subst c131
            have H1 : (none) = some r := by rw [if_pos rfl] at H; exact H
            clear H
            have H := H1
            clear H1
            exact absurd H (by simp)
          replace c131 := Bool.eq_false_iff.mpr c131
          subst c131
          have H1 : ((height_Level.f kj51 a0_0 a0_1 a0_2 a0_3 a0_4 a0_5).bind fun bt365 => ((height_Level.f kj51 a1_0 a1_1 a1_2 a1_3 a1_4 a1_5).bind fun bt368 => ((height_Order.f kj51 bt365.1 bt365.2.1 bt365.2.2 bt368.1 bt368.2.1 bt368.2.2).bind fun t371 => ((height_Level.f kj51 a1_0 a1_1 a1_2 a1_3 a1_4 a1_5).bind fun bt372 => ((height_Level.f kj51 a0_0 a0_1 a0_2 a0_3 a0_4 a0_5).bind fun bt375 => ((height_Order.f kj51 bt372.1 bt372.2.1 bt372.2.2 bt375.1 bt375.2.1 bt375.2.2).bind fun t378 => ((thalweglaw02_awake.f kj51).bind fun t379 => (if t379 = true then (if (wrap64 (t371 + t378)) = 0 then (if x9_5 = true then (if (a0_0 == a1_0 && (a0_1 == a1_1 && (a0_2 == a1_2 && (a0_3 == a1_3 && (a0_4 == a1_4 && (a0_5 == a1_5)))))) = true then (if t371 = 0 then (some true) else (some (t357 == (decide (t371 < 0))))) else (if t357 = true then (if t371 = 0 then (some true) else (some (true == (decide (t371 < 0))))) else (if t358 = true then (if t371 = 0 then (some true) else (some (false == (decide (t371 < 0))))) else (none)))) else (some true)) else (none)) else (none))))))))) = some r := by rw [if_neg (show ¬ (false = true) by decide)] at H; exact H
          clear H
          have H := H1
          clear H1; replace H := Option.bind_eq_some_iff.mp H
          obtain ⟨⟨t365, t366, t367⟩, A1320, H⟩ := H
          replace H : ((height_Level.f kj51 a1_0 a1_1 a1_2 a1_3 a1_4 a1_5).bind fun bt368 => ((height_Order.f kj51 t365 t366 t367 bt368.1 bt368.2.1 bt368.2.2).bind fun t371 => ((height_Level.f kj51 a1_0 a1_1 a1_2 a1_3 a1_4 a1_5).bind fun bt372 => ((height_Level.f kj51 a0_0 a0_1 a0_2 a0_3 a0_4 a0_5).bind fun bt375 => ((height_Order.f kj51 bt372.1 bt372.2.1 bt372.2.2 bt375.1 bt375.2.1 bt375.2.2).bind fun t378 => ((thalweglaw02_awake.f kj51).bind fun t379 => (if t379 = true then (if (wrap64 (t371 + t378)) = 0 then (if x9_5 = true then (if (a0_0 == a1_0 && (a0_1 == a1_1 && (a0_2 == a1_2 && (a0_3 == a1_3 && (a0_4 == a1_4 && (a0_5 == a1_5)))))) = true then (if t371 = 0 then (some true) else (some (t357 == (decide (t371 < 0))))) else (if t357 = true then (if t371 = 0 then (some true) else (some (true == (decide (t371 < 0))))) else (if t358 = true then (if t371 = 0 then (some true) else (some (false == (decide (t371 < 0))))) else (none)))) else (some true)) else (none)) else (none)))))))) = some r := H
          have A132 := YL A1320; clear A1320; replace H := Option.bind_eq_some_iff.mp H
          obtain ⟨⟨t368, t369, t370⟩, A1330, H⟩ := H
          replace H : ((height_Order.f kj51 t365 t366 t367 t368 t369 t370).bind fun t371 => ((height_Level.f kj51 a1_0 a1_1 a1_2 a1_3 a1_4 a1_5).bind fun bt372 => ((height_Level.f kj51 a0_0 a0_1 a0_2 a0_3 a0_4 a0_5).bind fun bt375 => ((height_Order.f kj51 bt372.1 bt372.2.1 bt372.2.2 bt375.1 bt375.2.1 bt375.2.2).bind fun t378 => ((thalweglaw02_awake.f kj51).bind fun t379 => (if t379 = true then (if (wrap64 (t371 + t378)) = 0 then (if x9_5 = true then (if (a0_0 == a1_0 && (a0_1 == a1_1 && (a0_2 == a1_2 && (a0_3 == a1_3 && (a0_4 == a1_4 && (a0_5 == a1_5)))))) = true then (if t371 = 0 then (some true) else (some (t357 == (decide (t371 < 0))))) else (if t357 = true then (if t371 = 0 then (some true) else (some (true == (decide (t371 < 0))))) else (if t358 = true then (if t371 = 0 then (some true) else (some (false == (decide (t371 < 0))))) else (none)))) else (some true)) else (none)) else (none))))))) = some r := H
          have A133 := YL A1330; clear A1330; replace H := Option.bind_eq_some_iff.mp H; obtain ⟨t371, A1340, H⟩ := H
          replace H : ((height_Level.f kj51 a1_0 a1_1 a1_2 a1_3 a1_4 a1_5).bind fun bt372 => ((height_Level.f kj51 a0_0 a0_1 a0_2 a0_3 a0_4 a0_5).bind fun bt375 => ((height_Order.f kj51 bt372.1 bt372.2.1 bt372.2.2 bt375.1 bt375.2.1 bt375.2.2).bind fun t378 => ((thalweglaw02_awake.f kj51).bind fun t379 => (if t379 = true then (if (wrap64 (t371 + t378)) = 0 then (if x9_5 = true then (if (a0_0 == a1_0 && (a0_1 == a1_1 && (a0_2 == a1_2 && (a0_3 == a1_3 && (a0_4 == a1_4 && (a0_5 == a1_5)))))) = true then (if t371 = 0 then (some true) else (some (t357 == (decide (t371 < 0))))) else (if t357 = true then (if t371 = 0 then (some true) else (some (true == (decide (t371 < 0))))) else (if t358 = true then (if t371 = 0 then (some true) else (some (false == (decide (t371 < 0))))) else (none)))) else (some true)) else (none)) else (none)))))) = some r := H
          have A134 := YL A1340; clear A1340; replace H := Option.bind_eq_some_iff.mp H
          obtain ⟨⟨t372, t373, t374⟩, A1350, H⟩ := H
          replace H : ((height_Level.f kj51 a0_0 a0_1 a0_2 a0_3 a0_4 a0_5).bind fun bt375 => ((height_Order.f kj51 t372 t373 t374 bt375.1 bt375.2.1 bt375.2.2).bind fun t378 => ((thalweglaw02_awake.f kj51).bind fun t379 => (if t379 = true then (if (wrap64 (t371 + t378)) = 0 then (if x9_5 = true then (if (a0_0 == a1_0 && (a0_1 == a1_1 && (a0_2 == a1_2 && (a0_3 == a1_3 && (a0_4 == a1_4 && (a0_5 == a1_5)))))) = true then (if t371 = 0 then (some true) else (some (t357 == (decide (t371 < 0))))) else (if t357 = true then (if t371 = 0 then (some true) else (some (true == (decide (t371 < 0))))) else (if t358 = true then (if t371 = 0 then (some true) else (some (false == (decide (t371 < 0))))) else (none)))) else (some true)) else (none)) else (none))))) = some r := H
          have A135 := YL A1350; clear A1350; replace H := Option.bind_eq_some_iff.mp H
          obtain ⟨⟨t375, t376, t377⟩, A1360, H⟩ := H
          replace H : ((height_Order.f kj51 t372 t373 t374 t375 t376 t377).bind fun t378 => ((thalweglaw02_awake.f kj51).bind fun t379 => (if t379 = true then (if (wrap64 (t371 + t378)) = 0 then (if x9_5 = true then (if (a0_0 == a1_0 && (a0_1 == a1_1 && (a0_2 == a1_2 && (a0_3 == a1_3 && (a0_4 == a1_4 && (a0_5 == a1_5)))))) = true then (if t371 = 0 then (some true) else (some (t357 == (decide (t371 < 0))))) else (if t357 = true then (if t371 = 0 then (some true) else (some (true == (decide (t371 < 0))))) else (if t358 = true then (if t371 = 0 then (some true) else (some (false == (decide (t371 < 0))))) else (none)))) else (some true)) else (none)) else (none)))) = some r := H
          have A136 := YL A1360; clear A1360; replace H := Option.bind_eq_some_iff.mp H; obtain ⟨t378, A1370, H⟩ := H
          replace H : ((thalweglaw02_awake.f kj51).bind fun t379 => (if t379 = true then (if (wrap64 (t371 + t378)) = 0 then (if x9_5 = true then (if (a0_0 == a1_0 && (a0_1 == a1_1 && (a0_2 == a1_2 && (a0_3 == a1_3 && (a0_4 == a1_4 && (a0_5 == a1_5)))))) = true then (if t371 = 0 then (some true) else (some (t357 == (decide (t371 < 0))))) else (if t357 = true then (if t371 = 0 then (some true) else (some (true == (decide (t371 < 0))))) else (if t358 = true then (if t371 = 0 then (some true) else (some (false == (decide (t371 < 0))))) else (none)))) else (some true)) else (none)) else (none))) = some r := H
          have A137 := YL A1370; clear A1370; replace H := Option.bind_eq_some_iff.mp H; obtain ⟨t379, A1380, H⟩ := H
          replace H : (if t379 = true then (if (wrap64 (t371 + t378)) = 0 then (if x9_5 = true then (if (a0_0 == a1_0 && (a0_1 == a1_1 && (a0_2 == a1_2 && (a0_3 == a1_3 && (a0_4 == a1_4 && (a0_5 == a1_5)))))) = true then (if t371 = 0 then (some true) else (some (t357 == (decide (t371 < 0))))) else (if t357 = true then (if t371 = 0 then (some true) else (some (true == (decide (t371 < 0))))) else (if t358 = true then (if t371 = 0 then (some true) else (some (false == (decide (t371 < 0))))) else (none)))) else (some true)) else (none)) else (none)) = some r := H
          have A138 := YL A1380; clear A1380
          by_cases c139 : t379 = true
          · subst c139
            have H1 : (if (wrap64 (t371 + t378)) = 0 then (if x9_5 = true then (if (a0_0 == a1_0 && (a0_1 == a1_1 && (a0_2 == a1_2 && (a0_3 == a1_3 && (a0_4 == a1_4 && (a0_5 == a1_5)))))) = true then (if t371 = 0 then (some true) else (some (t357 == (decide (t371 < 0))))) else (if t357 = true then (if t371 = 0 then (some true) else (some (true == (decide (t371 < 0))))) else (if t358 = true then (if t371 = 0 then (some true) else (some (false == (decide (t371 < 0))))) else (none)))) else (some true)) else (none)) = some r := by rw [if_pos rfl] at H; exact H
            clear H
            have H := H1
            clear H1
            by_cases c140 : (wrap64 (t371 + t378)) = 0
            rotate_left
            · rw [if_neg c140] at H
              exact absurd H (by simp)
            rw [if_pos c140] at H
            have c140b0 : ((wrap64 (t371 + t378)) == 0) = true := beq_iff_eq.mpr c140
            have c140b1 : ((wrap64 (t371 + t378)) != 0) = false := bne_eq_false_iff_eq.mpr c140
            clear c140
            by_cases c141 : x9_5 = true
            · subst c141
              have H1 : (if (a0_0 == a1_0 && (a0_1 == a1_1 && (a0_2 == a1_2 && (a0_3 == a1_3 && (a0_4 == a1_4 && (a0_5 == a1_5)))))) = true then (if t371 = 0 then (some true) else (some (t357 == (decide (t371 < 0))))) else (if t357 = true then (if t371 = 0 then (some true) else (some (true == (decide (t371 < 0))))) else (if t358 = true then (if t371 = 0 then (some true) else (some (false == (decide (t371 < 0))))) else (none)))) = some r := by rw [if_pos rfl] at H; exact H
              clear H
              have H := H1
              clear H1
              by_cases c142 : (a0_0 == a1_0 && (a0_1 == a1_1 && (a0_2 == a1_2 && (a0_3 == a1_3 && (a0_4 == a1_4 && (a0_5 == a1_5)))))) = true
              · rw [if_pos c142] at H
                have c142b0 : (a0_0 == a1_0 && (a0_1 == a1_1 && (a0_2 == a1_2 && (a0_3 == a1_3 && (a0_4 == a1_4 && (a0_5 == a1_5)))))) = true := c142
                (try (have c142b1 : decide (a0_0 = a1_0 && (a0_1 == a1_1 && (a0_2 == a1_2 && (a0_3 == a1_3 && (a0_4 == a1_4 && (a0_5 == a1_5)))))) = true := by simpa using c142))
                (try (have c142b2 : (a0_0 == a1_0 && (a0_1 == a1_1 && (a0_2 == a1_2 && (a0_3 == a1_3 && (a0_4 == a1_4 && (a0_5 == a1_5)))))) = true := by simpa using c142))
                clear c142
                by_cases c143 : t371 = 0
                · rw [if_pos c143] at H
                  have c143b0 : (t371 == 0) = true := beq_iff_eq.mpr c143
                  have c143b1 : (t371 != 0) = false := bne_eq_false_iff_eq.mpr c143
                  clear c143
                  obtain rfl := Option.some.inj H
                  try go_wp2
                  have n0_ := YL (YG BK354.out)
                  have n1_ := YL (YG BK355.out)
                  have n2_ := YL (YG BK356.out)
                  have n3_ := YL (YC HB.out)
                  clear BK354; clear BK355; clear BK356; clear HB; have BK354 := n0_; have BK355 := n1_; have BK356 := n2_; have HB := n3_; clear n0_ n1_ n2_ n3_
                  refine start_ (n := 6) (S := fun w' => w'.cell? ⟨gb354, 0, none⟩ = some (.bool a0_0) ∧ w'.cell? ⟨gb354, 1, none⟩ = some (.int .i64 a0_1) ∧ w'.cell? ⟨gb354, 2, none⟩ = some (.int .i64 a0_2) ∧ w'.cell? ⟨gb354, 3, none⟩ = some (.int .i64 a0_3) ∧ w'.cell? ⟨gb354, 4, none⟩ = some (.int .i64 a0_4) ∧ w'.cell? ⟨gb354, 5, none⟩ = some (.int .i64 a0_5) ∧ w'.cell? ⟨gb355, 0, none⟩ = some (.bool a1_0) ∧ w'.cell? ⟨gb355, 1, none⟩ = some (.int .i64 a1_1) ∧ w'.cell? ⟨gb355, 2, none⟩ = some (.int .i64 a1_2) ∧ w'.cell? ⟨gb355, 3, none⟩ = some (.int .i64 a1_3) ∧ w'.cell? ⟨gb355, 4, none⟩ = some (.int .i64 a1_4) ∧ w'.cell? ⟨gb355, 5, none⟩ = some (.int .i64 a1_5)) (ds := []) #[false, false, false, false, false, false] (by kernel_rfl) rfl rfl ⟨(YI BK354.out 0).trans rfl, (YI BK354.out 1).trans rfl, (YI BK354.out 2).trans rfl, (YI BK354.out 3).trans rfl, (YI BK354.out 4).trans rfl, (YI BK354.out 5).trans rfl, (YI BK355.out 0).trans rfl, (YI BK355.out 1).trans rfl, (YI BK355.out 2).trans rfl, (YI BK355.out 3).trans rfl, (YI BK355.out 4).trans rfl, (YI BK355.out 5).trans rfl⟩ (fun hHeld => ?_)
                  generalize wc.drew = w144 at BK354 BK355 BK356 HB hHeld ⊢
                  refine take_ (i := 0) (N := some 69) (v := ?_) (a' := ?_) #[true, false, false, false, false, false] rfl rfl (by kernel_rfl) (fun _ _ _ h => h) (Or.inl ⟨by rfl, ?_⟩) hHeld ?_ ?_
                  rotate_left
                  · rintro w' ⟨s0, s1, s2, s3, s4, s5, s6, s7, s8, s9, s10, s11⟩
                    go_simp; with_reducible rfl
                  rotate_left
                  · simp only [Act.put, YM, YN, YO, i64_w, i32_w]
                    rfl
                  refine take_ (i := 2) (N := some 71) (v := ?_) (a' := ?_) #[true, false, true, false, false, false] rfl rfl (by kernel_rfl) (fun _ _ _ h => h) (Or.inl ⟨by rfl, ?_⟩) hHeld ?_ ?_
                  rotate_left
                  · rintro w' ⟨s0, s1, s2, s3, s4, s5, s6, s7, s8, s9, s10, s11⟩
                    go_simp; with_reducible rfl
                  rotate_left
                  · simp only [Act.put, YM, YN, YO, i64_w, i32_w]
                    rfl
                  refine one_ (i := 1) (N := some 70) #[true, true, true, false, false, false] rfl rfl (by kernel_rfl) (by decide) (fun K hK => ?_)
                  refine goes_ Try.func16 (by kernel_rfl) rfl #[.agg #[.bool a0_0, .int .i64 a0_1, .int .i64 a0_2, .int .i64 a0_3, .int .i64 a0_4, .int .i64 a0_5]] (by rfl) rfl rfl (by (try simp only [YP, List.map_cons, List.map_nil]); first | done | rfl | (simp only [YR, YQ]; rfl)) ?_
                  with_reducible refine (height_Level.calls kj51 a0_0 a0_1 a0_2 a0_3 a0_4 a0_5 t365 t366 t367 _ A132.out).mono ?_
                  rintro e w145 ⟨rfl, hb⟩
                  refine ⟨_, rfl, ?_⟩
                  have n0_ := YL (YK (g := gb354) (by (with_reducible repeat (first | refine YF ?_ _ | refine YG ?_ | refine YH ?_ _)); exact BK354.out) hb)
                  have n1_ := YL (YK (g := gb355) (by (with_reducible repeat (first | refine YF ?_ _ | refine YG ?_ | refine YH ?_ _)); exact BK355.out) hb)
                  have n2_ := YL (YK (g := gb356) (by (with_reducible repeat (first | refine YF ?_ _ | refine YG ?_ | refine YH ?_ _)); exact BK356.out) hb)
                  have n3_ := YL (YD (by repeat (first | (with_reducible first | exact HB.out | apply YA | apply YB | apply YC) | exact HB.out)) hb)
                  clear BK354; clear BK355; clear BK356; clear HB; have BK354 := n0_; have BK355 := n1_; have BK356 := n2_; have HB := n3_; clear n0_ n1_ n2_ n3_; (try clear hb); (try clear hb2); (try clear hk); (try clear hi)
                  refine hK.out _ _ ⟨(YI BK354.out 0).trans rfl, (YI BK354.out 1).trans rfl, (YI BK354.out 2).trans rfl, (YI BK354.out 3).trans rfl, (YI BK354.out 4).trans rfl, (YI BK354.out 5).trans rfl, (YI BK355.out 0).trans rfl, (YI BK355.out 1).trans rfl, (YI BK355.out 2).trans rfl, (YI BK355.out 3).trans rfl, (YI BK355.out 4).trans rfl, (YI BK355.out 5).trans rfl⟩ (fun hHeld => ?_)
                  clear hK K
                  refine norm_ (a' := ?_) ?_ ?_
                  rotate_left
                  · show Act.put _ (some 70) _ = _
                    simp only [Act.put, YM, YN, YO, i64_w, i32_w]
                    rfl
                  refine one_ (i := 3) (N := some 72) #[true, true, true, true, false, false] rfl rfl (by kernel_rfl) (by decide) (fun K hK => ?_)
                  refine goes_ Try.func16 (by kernel_rfl) rfl #[.agg #[.bool a1_0, .int .i64 a1_1, .int .i64 a1_2, .int .i64 a1_3, .int .i64 a1_4, .int .i64 a1_5]] (by rfl) rfl rfl (by (try simp only [YP, List.map_cons, List.map_nil]); first | done | rfl | (simp only [YR, YQ]; rfl)) ?_
                  with_reducible refine (height_Level.calls kj51 a1_0 a1_1 a1_2 a1_3 a1_4 a1_5 t368 t369 t370 _ A133.out).mono ?_
                  rintro e w146 ⟨rfl, hb⟩
                  refine ⟨_, rfl, ?_⟩
                  have n0_ := YL (YK (g := gb354) (by (with_reducible repeat (first | refine YF ?_ _ | refine YG ?_ | refine YH ?_ _)); exact BK354.out) hb)
                  have n1_ := YL (YK (g := gb355) (by (with_reducible repeat (first | refine YF ?_ _ | refine YG ?_ | refine YH ?_ _)); exact BK355.out) hb)
                  have n2_ := YL (YK (g := gb356) (by (with_reducible repeat (first | refine YF ?_ _ | refine YG ?_ | refine YH ?_ _)); exact BK356.out) hb)
                  have n3_ := YL (YD (by repeat (first | (with_reducible first | exact HB.out | apply YA | apply YB | apply YC) | exact HB.out)) hb)
                  clear BK354; clear BK355; clear BK356; clear HB; have BK354 := n0_; have BK355 := n1_; have BK356 := n2_; have HB := n3_; clear n0_ n1_ n2_ n3_; (try clear hb); (try clear hb2); (try clear hk); (try clear hi)
                  refine hK.out _ _ ⟨(YI BK354.out 0).trans rfl, (YI BK354.out 1).trans rfl, (YI BK354.out 2).trans rfl, (YI BK354.out 3).trans rfl, (YI BK354.out 4).trans rfl, (YI BK354.out 5).trans rfl, (YI BK355.out 0).trans rfl, (YI BK355.out 1).trans rfl, (YI BK355.out 2).trans rfl, (YI BK355.out 3).trans rfl, (YI BK355.out 4).trans rfl, (YI BK355.out 5).trans rfl⟩ (fun hHeld => ?_)
                  clear hK K
                  refine norm_ (a' := ?_) ?_ ?_
                  rotate_left
                  · show Act.put _ (some 72) _ = _
                    simp only [Act.put, YM, YN, YO, i64_w, i32_w]
                    rfl
                  refine one_ (i := 4) (N := some 73) #[true, true, true, true, true, false] rfl rfl (by kernel_rfl) (by decide) (fun K hK => ?_)
                  refine goes_ Try.func18 (by kernel_rfl) rfl #[.agg #[.int .i64 t365, .int .i64 t366, .int .i64 t367], .agg #[.int .i64 t368, .int .i64 t369, .int .i64 t370]] (by rfl) rfl rfl (by (try simp only [YP, List.map_cons, List.map_nil]); first | done | rfl | (simp only [YR, YQ]; rfl)) ?_
                  with_reducible refine (height_Order.calls kj51 t365 t366 t367 t368 t369 t370 t371 _ A134.out).mono ?_
                  rintro e w147 ⟨rfl, hb⟩
                  refine ⟨_, rfl, ?_⟩
                  have n0_ := YL (YK (g := gb354) (by (with_reducible repeat (first | refine YF ?_ _ | refine YG ?_ | refine YH ?_ _)); exact BK354.out) hb)
                  have n1_ := YL (YK (g := gb355) (by (with_reducible repeat (first | refine YF ?_ _ | refine YG ?_ | refine YH ?_ _)); exact BK355.out) hb)
                  have n2_ := YL (YK (g := gb356) (by (with_reducible repeat (first | refine YF ?_ _ | refine YG ?_ | refine YH ?_ _)); exact BK356.out) hb)
                  have n3_ := YL (YD (by repeat (first | (with_reducible first | exact HB.out | apply YA | apply YB | apply YC) | exact HB.out)) hb)
                  clear BK354; clear BK355; clear BK356; clear HB; have BK354 := n0_; have BK355 := n1_; have BK356 := n2_; have HB := n3_; clear n0_ n1_ n2_ n3_; (try clear hb); (try clear hb2); (try clear hk); (try clear hi)
                  refine hK.out _ _ ⟨(YI BK354.out 0).trans rfl, (YI BK354.out 1).trans rfl, (YI BK354.out 2).trans rfl, (YI BK354.out 3).trans rfl, (YI BK354.out 4).trans rfl, (YI BK354.out 5).trans rfl, (YI BK355.out 0).trans rfl, (YI BK355.out 1).trans rfl, (YI BK355.out 2).trans rfl, (YI BK355.out 3).trans rfl, (YI BK355.out 4).trans rfl, (YI BK355.out 5).trans rfl⟩ (fun hHeld => ?_)
                  clear hK K
                  refine norm_ (a' := ?_) ?_ ?_
                  rotate_left
                  · show Act.put _ (some 73) _ = _
                    simp only [Act.put, YM, YN, YO, i64_w, i32_w]
                    rfl
                  refine pure_ (i := 5) (N := some 10) (v := ?_) (a' := ?_) #[true, true, true, true, true, true] rfl rfl (by kernel_rfl) (fun _ _ _ h => h) (Or.inl ⟨by rfl, ?_⟩) ?_ ?_
                  rotate_left
                  · intro w'
                    go_simp; with_reducible rfl
                  rotate_left
                  · simp only [Act.put, YM, YN, YO, i64_w, i32_w]
                    rfl
                  refine done_ (by kernel_rfl) ?_
                  try go_wp2
                  have n0_ := YL (YG BK354.out)
                  have n1_ := YL (YG BK355.out)
                  have n2_ := YL (YG BK356.out)
                  have n3_ := YL (YC HB.out)
                  clear BK354; clear BK355; clear BK356; clear HB; have BK354 := n0_; have BK355 := n1_; have BK356 := n2_; have HB := n3_; clear n0_ n1_ n2_ n3_
                  refine start_ (n := 6) (S := fun w' => w'.cell? ⟨gb355, 0, none⟩ = some (.bool a1_0) ∧ w'.cell? ⟨gb355, 1, none⟩ = some (.int .i64 a1_1) ∧ w'.cell? ⟨gb355, 2, none⟩ = some (.int .i64 a1_2) ∧ w'.cell? ⟨gb355, 3, none⟩ = some (.int .i64 a1_3) ∧ w'.cell? ⟨gb355, 4, none⟩ = some (.int .i64 a1_4) ∧ w'.cell? ⟨gb355, 5, none⟩ = some (.int .i64 a1_5) ∧ w'.cell? ⟨gb354, 0, none⟩ = some (.bool a0_0) ∧ w'.cell? ⟨gb354, 1, none⟩ = some (.int .i64 a0_1) ∧ w'.cell? ⟨gb354, 2, none⟩ = some (.int .i64 a0_2) ∧ w'.cell? ⟨gb354, 3, none⟩ = some (.int .i64 a0_3) ∧ w'.cell? ⟨gb354, 4, none⟩ = some (.int .i64 a0_4) ∧ w'.cell? ⟨gb354, 5, none⟩ = some (.int .i64 a0_5)) (ds := []) #[false, false, false, false, false, false] (by kernel_rfl) rfl rfl ⟨(YI BK355.out 0).trans rfl, (YI BK355.out 1).trans rfl, (YI BK355.out 2).trans rfl, (YI BK355.out 3).trans rfl, (YI BK355.out 4).trans rfl, (YI BK355.out 5).trans rfl, (YI BK354.out 0).trans rfl, (YI BK354.out 1).trans rfl, (YI BK354.out 2).trans rfl, (YI BK354.out 3).trans rfl, (YI BK354.out 4).trans rfl, (YI BK354.out 5).trans rfl⟩ (fun hHeld => ?_)
                  generalize w147.drew = w148 at BK354 BK355 BK356 HB hHeld ⊢
                  refine take_ (i := 0) (N := some 74) (v := ?_) (a' := ?_) #[true, false, false, false, false, false] rfl rfl (by kernel_rfl) (fun _ _ _ h => h) (Or.inl ⟨by rfl, ?_⟩) hHeld ?_ ?_
                  rotate_left
                  · rintro w' ⟨s0, s1, s2, s3, s4, s5, s6, s7, s8, s9, s10, s11⟩
                    go_simp; with_reducible rfl
                  rotate_left
                  · simp only [Act.put, YM, YN, YO, i64_w, i32_w]
                    rfl
                  refine take_ (i := 2) (N := some 76) (v := ?_) (a' := ?_) #[true, false, true, false, false, false] rfl rfl (by kernel_rfl) (fun _ _ _ h => h) (Or.inl ⟨by rfl, ?_⟩) hHeld ?_ ?_
                  rotate_left
                  · rintro w' ⟨s0, s1, s2, s3, s4, s5, s6, s7, s8, s9, s10, s11⟩
                    go_simp; with_reducible rfl
                  rotate_left
                  · simp only [Act.put, YM, YN, YO, i64_w, i32_w]
                    rfl
                  refine one_ (i := 1) (N := some 75) #[true, true, true, false, false, false] rfl rfl (by kernel_rfl) (by decide) (fun K hK => ?_)
                  refine goes_ Try.func16 (by kernel_rfl) rfl #[.agg #[.bool a1_0, .int .i64 a1_1, .int .i64 a1_2, .int .i64 a1_3, .int .i64 a1_4, .int .i64 a1_5]] (by rfl) rfl rfl (by (try simp only [YP, List.map_cons, List.map_nil]); first | done | rfl | (simp only [YR, YQ]; rfl)) ?_
                  with_reducible refine (height_Level.calls kj51 a1_0 a1_1 a1_2 a1_3 a1_4 a1_5 t372 t373 t374 _ A135.out).mono ?_
                  rintro e w149 ⟨rfl, hb⟩
                  refine ⟨_, rfl, ?_⟩
                  have n0_ := YL (YK (g := gb354) (by (with_reducible repeat (first | refine YF ?_ _ | refine YG ?_ | refine YH ?_ _)); exact BK354.out) hb)
                  have n1_ := YL (YK (g := gb355) (by (with_reducible repeat (first | refine YF ?_ _ | refine YG ?_ | refine YH ?_ _)); exact BK355.out) hb)
                  have n2_ := YL (YK (g := gb356) (by (with_reducible repeat (first | refine YF ?_ _ | refine YG ?_ | refine YH ?_ _)); exact BK356.out) hb)
                  have n3_ := YL (YD (by repeat (first | (with_reducible first | exact HB.out | apply YA | apply YB | apply YC) | exact HB.out)) hb)
                  clear BK354; clear BK355; clear BK356; clear HB; have BK354 := n0_; have BK355 := n1_; have BK356 := n2_; have HB := n3_; clear n0_ n1_ n2_ n3_; (try clear hb); (try clear hb2); (try clear hk); (try clear hi)
                  refine hK.out _ _ ⟨(YI BK355.out 0).trans rfl, (YI BK355.out 1).trans rfl, (YI BK355.out 2).trans rfl, (YI BK355.out 3).trans rfl, (YI BK355.out 4).trans rfl, (YI BK355.out 5).trans rfl, (YI BK354.out 0).trans rfl, (YI BK354.out 1).trans rfl, (YI BK354.out 2).trans rfl, (YI BK354.out 3).trans rfl, (YI BK354.out 4).trans rfl, (YI BK354.out 5).trans rfl⟩ (fun hHeld => ?_)
                  clear hK K
                  refine norm_ (a' := ?_) ?_ ?_
                  rotate_left
                  · show Act.put _ (some 75) _ = _
                    simp only [Act.put, YM, YN, YO, i64_w, i32_w]
                    rfl
                  refine one_ (i := 3) (N := some 77) #[true, true, true, true, false, false] rfl rfl (by kernel_rfl) (by decide) (fun K hK => ?_)
                  refine goes_ Try.func16 (by kernel_rfl) rfl #[.agg #[.bool a0_0, .int .i64 a0_1, .int .i64 a0_2, .int .i64 a0_3, .int .i64 a0_4, .int .i64 a0_5]] (by rfl) rfl rfl (by (try simp only [YP, List.map_cons, List.map_nil]); first | done | rfl | (simp only [YR, YQ]; rfl)) ?_
                  with_reducible refine (height_Level.calls kj51 a0_0 a0_1 a0_2 a0_3 a0_4 a0_5 t375 t376 t377 _ A136.out).mono ?_
                  rintro e w150 ⟨rfl, hb⟩
                  refine ⟨_, rfl, ?_⟩
                  have n0_ := YL (YK (g := gb354) (by (with_reducible repeat (first | refine YF ?_ _ | refine YG ?_ | refine YH ?_ _)); exact BK354.out) hb)
                  have n1_ := YL (YK (g := gb355) (by (with_reducible repeat (first | refine YF ?_ _ | refine YG ?_ | refine YH ?_ _)); exact BK355.out) hb)
                  have n2_ := YL (YK (g := gb356) (by (with_reducible repeat (first | refine YF ?_ _ | refine YG ?_ | refine YH ?_ _)); exact BK356.out) hb)
                  have n3_ := YL (YD (by repeat (first | (with_reducible first | exact HB.out | apply YA | apply YB | apply YC) | exact HB.out)) hb)
                  clear BK354; clear BK355; clear BK356; clear HB; have BK354 := n0_; have BK355 := n1_; have BK356 := n2_; have HB := n3_; clear n0_ n1_ n2_ n3_; (try clear hb); (try clear hb2); (try clear hk); (try clear hi)
                  refine hK.out _ _ ⟨(YI BK355.out 0).trans rfl, (YI BK355.out 1).trans rfl, (YI BK355.out 2).trans rfl, (YI BK355.out 3).trans rfl, (YI BK355.out 4).trans rfl, (YI BK355.out 5).trans rfl, (YI BK354.out 0).trans rfl, (YI BK354.out 1).trans rfl, (YI BK354.out 2).trans rfl, (YI BK354.out 3).trans rfl, (YI BK354.out 4).trans rfl, (YI BK354.out 5).trans rfl⟩ (fun hHeld => ?_)
                  clear hK K
                  refine norm_ (a' := ?_) ?_ ?_
                  rotate_left
                  · show Act.put _ (some 77) _ = _
                    simp only [Act.put, YM, YN, YO, i64_w, i32_w]
                    rfl
                  refine one_ (i := 4) (N := some 78) #[true, true, true, true, true, false] rfl rfl (by kernel_rfl) (by decide) (fun K hK => ?_)
                  refine goes_ Try.func18 (by kernel_rfl) rfl #[.agg #[.int .i64 t372, .int .i64 t373, .int .i64 t374], .agg #[.int .i64 t375, .int .i64 t376, .int .i64 t377]] (by rfl) rfl rfl (by (try simp only [YP, List.map_cons, List.map_nil]); first | done | rfl | (simp only [YR, YQ]; rfl)) ?_
                  with_reducible refine (height_Order.calls kj51 t372 t373 t374 t375 t376 t377 t378 _ A137.out).mono ?_
                  rintro e w151 ⟨rfl, hb⟩
                  refine ⟨_, rfl, ?_⟩
                  have n0_ := YL (YK (g := gb354) (by (with_reducible repeat (first | refine YF ?_ _ | refine YG ?_ | refine YH ?_ _)); exact BK354.out) hb)
                  have n1_ := YL (YK (g := gb355) (by (with_reducible repeat (first | refine YF ?_ _ | refine YG ?_ | refine YH ?_ _)); exact BK355.out) hb)
                  have n2_ := YL (YK (g := gb356) (by (with_reducible repeat (first | refine YF ?_ _ | refine YG ?_ | refine YH ?_ _)); exact BK356.out) hb)
                  have n3_ := YL (YD (by repeat (first | (with_reducible first | exact HB.out | apply YA | apply YB | apply YC) | exact HB.out)) hb)
                  clear BK354; clear BK355; clear BK356; clear HB; have BK354 := n0_; have BK355 := n1_; have BK356 := n2_; have HB := n3_; clear n0_ n1_ n2_ n3_; (try clear hb); (try clear hb2); (try clear hk); (try clear hi)
                  refine hK.out _ _ ⟨(YI BK355.out 0).trans rfl, (YI BK355.out 1).trans rfl, (YI BK355.out 2).trans rfl, (YI BK355.out 3).trans rfl, (YI BK355.out 4).trans rfl, (YI BK355.out 5).trans rfl, (YI BK354.out 0).trans rfl, (YI BK354.out 1).trans rfl, (YI BK354.out 2).trans rfl, (YI BK354.out 3).trans rfl, (YI BK354.out 4).trans rfl, (YI BK354.out 5).trans rfl⟩ (fun hHeld => ?_)
                  clear hK K
                  refine norm_ (a' := ?_) ?_ ?_
                  rotate_left
                  · show Act.put _ (some 78) _ = _
                    simp only [Act.put, YM, YN, YO, i64_w, i32_w]
                    rfl
                  refine pure_ (i := 5) (N := some 11) (v := ?_) (a' := ?_) #[true, true, true, true, true, true] rfl rfl (by kernel_rfl) (fun _ _ _ h => h) (Or.inl ⟨by rfl, ?_⟩) ?_ ?_
                  rotate_left
                  · intro w'
                    go_simp; with_reducible rfl
                  rotate_left
                  · simp only [Act.put, YM, YN, YO, i64_w, i32_w]
                    rfl
                  refine done_ (by kernel_rfl) ?_
                  try go_wp2_with (first | ((with_reducible refine gate_callee (f := 20) rfl ?_); refine goesL_ (some 79) rfl rfl Try.func20 (by kernel_rfl) rfl #[] rfl (by (try simp only [YP, List.map_cons, List.map_nil]); first | done | rfl | (simp only [YR, YQ]; rfl)) ?_; (with_reducible refine (thalweglaw02_awake.calls kj51  true _ A138.out).mono ?_); rintro e w152 ⟨rfl, hb⟩; refine ⟨_, rfl, ?_⟩; have n0_ := YL (YK (g := gb354) (by (with_reducible repeat (first | refine YF ?_ _ | refine YG ?_ | refine YH ?_ _)); exact BK354.out) hb); have n1_ := YL (YK (g := gb355) (by (with_reducible repeat (first | refine YF ?_ _ | refine YG ?_ | refine YH ?_ _)); exact BK355.out) hb); have n2_ := YL (YK (g := gb356) (by (with_reducible repeat (first | refine YF ?_ _ | refine YG ?_ | refine YH ?_ _)); exact BK356.out) hb); have n3_ := YL (YD (by repeat (first | (with_reducible first | exact HB.out | apply YA | apply YB | apply YC) | exact HB.out)) hb); clear BK354; clear BK355; clear BK356; clear HB; have BK354 := n0_; have BK355 := n1_; have BK356 := n2_; have HB := n3_; clear n0_ n1_ n2_ n3_; (try clear hb); (try clear hb2); (try clear hk); (try clear hi); have hnb153 := NB354_355.out; have hnc153 := NB355_354.out; have hnb154 := NB354_356.out; have hnc154 := NB356_354.out; have hcz155_0 : w152.cell? ⟨gb354, 0, none⟩ = some (.bool a0_0) := (YI BK354.out 0).trans rfl; have hcz155_1 : w152.cell? ⟨gb354, 1, none⟩ = some (.int .i64 a0_1) := (YI BK354.out 1).trans rfl; have hcz155_2 : w152.cell? ⟨gb354, 2, none⟩ = some (.int .i64 a0_2) := (YI BK354.out 2).trans rfl; have hcz155_3 : w152.cell? ⟨gb354, 3, none⟩ = some (.int .i64 a0_3) := (YI BK354.out 3).trans rfl; have hcz155_4 : w152.cell? ⟨gb354, 4, none⟩ = some (.int .i64 a0_4) := (YI BK354.out 4).trans rfl; have hcz155_5 : w152.cell? ⟨gb354, 5, none⟩ = some (.int .i64 a0_5) := (YI BK354.out 5).trans rfl; have hfz155_0 := YJ BK354.out 0; have hfz155_1 := YJ BK354.out 1; have hfz155_2 := YJ BK354.out 2; have hfz155_3 := YJ BK354.out 3; have hfz155_4 := YJ BK354.out 4; have hfz155_5 := YJ BK354.out 5; have hnb156 := NB355_356.out; have hnc156 := NB356_355.out; have hcz157_0 : w152.cell? ⟨gb355, 0, none⟩ = some (.bool a1_0) := (YI BK355.out 0).trans rfl; have hcz157_1 : w152.cell? ⟨gb355, 1, none⟩ = some (.int .i64 a1_1) := (YI BK355.out 1).trans rfl; have hcz157_2 : w152.cell? ⟨gb355, 2, none⟩ = some (.int .i64 a1_2) := (YI BK355.out 2).trans rfl; have hcz157_3 : w152.cell? ⟨gb355, 3, none⟩ = some (.int .i64 a1_3) := (YI BK355.out 3).trans rfl; have hcz157_4 : w152.cell? ⟨gb355, 4, none⟩ = some (.int .i64 a1_4) := (YI BK355.out 4).trans rfl; have hcz157_5 : w152.cell? ⟨gb355, 5, none⟩ = some (.int .i64 a1_5) := (YI BK355.out 5).trans rfl; have hfz157_0 := YJ BK355.out 0; have hfz157_1 := YJ BK355.out 1; have hfz157_2 := YJ BK355.out 2; have hfz157_3 := YJ BK355.out 3; have hfz157_4 := YJ BK355.out 4; have hfz157_5 := YJ BK355.out 5))
                  go_ret
                  exact ⟨by first | rfl | (simp [errW_none, errW_some] <;> rfl) | (simp [*, errW_none, errW_some] <;> rfl), by repeat (first | (with_reducible first | exact HB.out | apply YA | apply YB | apply YC) | exact HB.out)⟩
                rw [if_neg c143] at H
                have c143b0 : (t371 == 0) = false := beq_eq_false_iff_ne.mpr c143
                have c143b1 : (t371 != 0) = true := bne_iff_ne.mpr c143
                obtain rfl := Option.some.inj H
                try go_wp2
                have n0_ := YL (YG BK354.out)
                have n1_ := YL (YG BK355.out)
                have n2_ := YL (YG BK356.out)
                have n3_ := YL (YC HB.out)
                clear BK354; clear BK355; clear BK356; clear HB; have BK354 := n0_; have BK355 := n1_; have BK356 := n2_; have HB := n3_; clear n0_ n1_ n2_ n3_
                refine start_ (n := 6) (S := fun w' => w'.cell? ⟨gb354, 0, none⟩ = some (.bool a0_0) ∧ w'.cell? ⟨gb354, 1, none⟩ = some (.int .i64 a0_1) ∧ w'.cell? ⟨gb354, 2, none⟩ = some (.int .i64 a0_2) ∧ w'.cell? ⟨gb354, 3, none⟩ = some (.int .i64 a0_3) ∧ w'.cell? ⟨gb354, 4, none⟩ = some (.int .i64 a0_4) ∧ w'.cell? ⟨gb354, 5, none⟩ = some (.int .i64 a0_5) ∧ w'.cell? ⟨gb355, 0, none⟩ = some (.bool a1_0) ∧ w'.cell? ⟨gb355, 1, none⟩ = some (.int .i64 a1_1) ∧ w'.cell? ⟨gb355, 2, none⟩ = some (.int .i64 a1_2) ∧ w'.cell? ⟨gb355, 3, none⟩ = some (.int .i64 a1_3) ∧ w'.cell? ⟨gb355, 4, none⟩ = some (.int .i64 a1_4) ∧ w'.cell? ⟨gb355, 5, none⟩ = some (.int .i64 a1_5)) (ds := []) #[false, false, false, false, false, false] (by kernel_rfl) rfl rfl ⟨(YI BK354.out 0).trans rfl, (YI BK354.out 1).trans rfl, (YI BK354.out 2).trans rfl, (YI BK354.out 3).trans rfl, (YI BK354.out 4).trans rfl, (YI BK354.out 5).trans rfl, (YI BK355.out 0).trans rfl, (YI BK355.out 1).trans rfl, (YI BK355.out 2).trans rfl, (YI BK355.out 3).trans rfl, (YI BK355.out 4).trans rfl, (YI BK355.out 5).trans rfl⟩ (fun hHeld => ?_)
                generalize wc.drew = w158 at BK354 BK355 BK356 HB hHeld ⊢
                refine take_ (i := 0) (N := some 69) (v := ?_) (a' := ?_) #[true, false, false, false, false, false] rfl rfl (by kernel_rfl) (fun _ _ _ h => h) (Or.inl ⟨by rfl, ?_⟩) hHeld ?_ ?_
                rotate_left
                · rintro w' ⟨s0, s1, s2, s3, s4, s5, s6, s7, s8, s9, s10, s11⟩
                  go_simp; with_reducible rfl
                rotate_left
                · simp only [Act.put, YM, YN, YO, i64_w, i32_w]
                  rfl
                refine take_ (i := 2) (N := some 71) (v := ?_) (a' := ?_) #[true, false, true, false, false, false] rfl rfl (by kernel_rfl) (fun _ _ _ h => h) (Or.inl ⟨by rfl, ?_⟩) hHeld ?_ ?_
                rotate_left
                · rintro w' ⟨s0, s1, s2, s3, s4, s5, s6, s7, s8, s9, s10, s11⟩
                  go_simp; with_reducible rfl
                rotate_left
                · simp only [Act.put, YM, YN, YO, i64_w, i32_w]
                  rfl
                refine one_ (i := 1) (N := some 70) #[true, true, true, false, false, false] rfl rfl (by kernel_rfl) (by decide) (fun K hK => ?_)
                refine goes_ Try.func16 (by kernel_rfl) rfl #[.agg #[.bool a0_0, .int .i64 a0_1, .int .i64 a0_2, .int .i64 a0_3, .int .i64 a0_4, .int .i64 a0_5]] (by rfl) rfl rfl (by (try simp only [YP, List.map_cons, List.map_nil]); first | done | rfl | (simp only [YR, YQ]; rfl)) ?_
                with_reducible refine (height_Level.calls kj51 a0_0 a0_1 a0_2 a0_3 a0_4 a0_5 t365 t366 t367 _ A132.out).mono ?_
                rintro e w159 ⟨rfl, hb⟩
                refine ⟨_, rfl, ?_⟩
                have n0_ := YL (YK (g := gb354) (by (with_reducible repeat (first | refine YF ?_ _ | refine YG ?_ | refine YH ?_ _)); exact BK354.out) hb)
                have n1_ := YL (YK (g := gb355) (by (with_reducible repeat (first | refine YF ?_ _ | refine YG ?_ | refine YH ?_ _)); exact BK355.out) hb)
                have n2_ := YL (YK (g := gb356) (by (with_reducible repeat (first | refine YF ?_ _ | refine YG ?_ | refine YH ?_ _)); exact BK356.out) hb)
                have n3_ := YL (YD (by repeat (first | (with_reducible first | exact HB.out | apply YA | apply YB | apply YC) | exact HB.out)) hb)
                clear BK354; clear BK355; clear BK356; clear HB; have BK354 := n0_; have BK355 := n1_; have BK356 := n2_; have HB := n3_; clear n0_ n1_ n2_ n3_; (try clear hb); (try clear hb2); (try clear hk); (try clear hi)
                refine hK.out _ _ ⟨(YI BK354.out 0).trans rfl, (YI BK354.out 1).trans rfl, (YI BK354.out 2).trans rfl, (YI BK354.out 3).trans rfl, (YI BK354.out 4).trans rfl, (YI BK354.out 5).trans rfl, (YI BK355.out 0).trans rfl, (YI BK355.out 1).trans rfl, (YI BK355.out 2).trans rfl, (YI BK355.out 3).trans rfl, (YI BK355.out 4).trans rfl, (YI BK355.out 5).trans rfl⟩ (fun hHeld => ?_)
                clear hK K
                refine norm_ (a' := ?_) ?_ ?_
                rotate_left
                · show Act.put _ (some 70) _ = _
                  simp only [Act.put, YM, YN, YO, i64_w, i32_w]
                  rfl
                refine one_ (i := 3) (N := some 72) #[true, true, true, true, false, false] rfl rfl (by kernel_rfl) (by decide) (fun K hK => ?_)
                refine goes_ Try.func16 (by kernel_rfl) rfl #[.agg #[.bool a1_0, .int .i64 a1_1, .int .i64 a1_2, .int .i64 a1_3, .int .i64 a1_4, .int .i64 a1_5]] (by rfl) rfl rfl (by (try simp only [YP, List.map_cons, List.map_nil]); first | done | rfl | (simp only [YR, YQ]; rfl)) ?_
                with_reducible refine (height_Level.calls kj51 a1_0 a1_1 a1_2 a1_3 a1_4 a1_5 t368 t369 t370 _ A133.out).mono ?_
                rintro e w160 ⟨rfl, hb⟩
                refine ⟨_, rfl, ?_⟩
                have n0_ := YL (YK (g := gb354) (by (with_reducible repeat (first | refine YF ?_ _ | refine YG ?_ | refine YH ?_ _)); exact BK354.out) hb)
                have n1_ := YL (YK (g := gb355) (by (with_reducible repeat (first | refine YF ?_ _ | refine YG ?_ | refine YH ?_ _)); exact BK355.out) hb)
                have n2_ := YL (YK (g := gb356) (by (with_reducible repeat (first | refine YF ?_ _ | refine YG ?_ | refine YH ?_ _)); exact BK356.out) hb)
                have n3_ := YL (YD (by repeat (first | (with_reducible first | exact HB.out | apply YA | apply YB | apply YC) | exact HB.out)) hb)
                clear BK354; clear BK355; clear BK356; clear HB; have BK354 := n0_; have BK355 := n1_; have BK356 := n2_; have HB := n3_; clear n0_ n1_ n2_ n3_; (try clear hb); (try clear hb2); (try clear hk); (try clear hi)
                refine hK.out _ _ ⟨(YI BK354.out 0).trans rfl, (YI BK354.out 1).trans rfl, (YI BK354.out 2).trans rfl, (YI BK354.out 3).trans rfl, (YI BK354.out 4).trans rfl, (YI BK354.out 5).trans rfl, (YI BK355.out 0).trans rfl, (YI BK355.out 1).trans rfl, (YI BK355.out 2).trans rfl, (YI BK355.out 3).trans rfl, (YI BK355.out 4).trans rfl, (YI BK355.out 5).trans rfl⟩ (fun hHeld => ?_)
                clear hK K
                refine norm_ (a' := ?_) ?_ ?_
                rotate_left
                · show Act.put _ (some 72) _ = _
                  simp only [Act.put, YM, YN, YO, i64_w, i32_w]
                  rfl
                refine one_ (i := 4) (N := some 73) #[true, true, true, true, true, false] rfl rfl (by kernel_rfl) (by decide) (fun K hK => ?_)
                refine goes_ Try.func18 (by kernel_rfl) rfl #[.agg #[.int .i64 t365, .int .i64 t366, .int .i64 t367], .agg #[.int .i64 t368, .int .i64 t369, .int .i64 t370]] (by rfl) rfl rfl (by (try simp only [YP, List.map_cons, List.map_nil]); first | done | rfl | (simp only [YR, YQ]; rfl)) ?_
                with_reducible refine (height_Order.calls kj51 t365 t366 t367 t368 t369 t370 t371 _ A134.out).mono ?_
                rintro e w161 ⟨rfl, hb⟩
                refine ⟨_, rfl, ?_⟩
                have n0_ := YL (YK (g := gb354) (by (with_reducible repeat (first | refine YF ?_ _ | refine YG ?_ | refine YH ?_ _)); exact BK354.out) hb)
                have n1_ := YL (YK (g := gb355) (by (with_reducible repeat (first | refine YF ?_ _ | refine YG ?_ | refine YH ?_ _)); exact BK355.out) hb)
                have n2_ := YL (YK (g := gb356) (by (with_reducible repeat (first | refine YF ?_ _ | refine YG ?_ | refine YH ?_ _)); exact BK356.out) hb)
                have n3_ := YL (YD (by repeat (first | (with_reducible first | exact HB.out | apply YA | apply YB | apply YC) | exact HB.out)) hb)
                clear BK354; clear BK355; clear BK356; clear HB; have BK354 := n0_; have BK355 := n1_; have BK356 := n2_; have HB := n3_; clear n0_ n1_ n2_ n3_; (try clear hb); (try clear hb2); (try clear hk); (try clear hi)
                refine hK.out _ _ ⟨(YI BK354.out 0).trans rfl, (YI BK354.out 1).trans rfl, (YI BK354.out 2).trans rfl, (YI BK354.out 3).trans rfl, (YI BK354.out 4).trans rfl, (YI BK354.out 5).trans rfl, (YI BK355.out 0).trans rfl, (YI BK355.out 1).trans rfl, (YI BK355.out 2).trans rfl, (YI BK355.out 3).trans rfl, (YI BK355.out 4).trans rfl, (YI BK355.out 5).trans rfl⟩ (fun hHeld => ?_)
                clear hK K
                refine norm_ (a' := ?_) ?_ ?_
                rotate_left
                · show Act.put _ (some 73) _ = _
                  simp only [Act.put, YM, YN, YO, i64_w, i32_w]
                  rfl
                refine pure_ (i := 5) (N := some 10) (v := ?_) (a' := ?_) #[true, true, true, true, true, true] rfl rfl (by kernel_rfl) (fun _ _ _ h => h) (Or.inl ⟨by rfl, ?_⟩) ?_ ?_
                rotate_left
                · intro w'
                  go_simp; with_reducible rfl
                rotate_left
                · simp only [Act.put, YM, YN, YO, i64_w, i32_w]
                  rfl
                refine done_ (by kernel_rfl) ?_
                try go_wp2
                have n0_ := YL (YG BK354.out)
                have n1_ := YL (YG BK355.out)
                have n2_ := YL (YG BK356.out)
                have n3_ := YL (YC HB.out)
                clear BK354; clear BK355; clear BK356; clear HB; have BK354 := n0_; have BK355 := n1_; have BK356 := n2_; have HB := n3_; clear n0_ n1_ n2_ n3_
                refine start_ (n := 6) (S := fun w' => w'.cell? ⟨gb355, 0, none⟩ = some (.bool a1_0) ∧ w'.cell? ⟨gb355, 1, none⟩ = some (.int .i64 a1_1) ∧ w'.cell? ⟨gb355, 2, none⟩ = some (.int .i64 a1_2) ∧ w'.cell? ⟨gb355, 3, none⟩ = some (.int .i64 a1_3) ∧ w'.cell? ⟨gb355, 4, none⟩ = some (.int .i64 a1_4) ∧ w'.cell? ⟨gb355, 5, none⟩ = some (.int .i64 a1_5) ∧ w'.cell? ⟨gb354, 0, none⟩ = some (.bool a0_0) ∧ w'.cell? ⟨gb354, 1, none⟩ = some (.int .i64 a0_1) ∧ w'.cell? ⟨gb354, 2, none⟩ = some (.int .i64 a0_2) ∧ w'.cell? ⟨gb354, 3, none⟩ = some (.int .i64 a0_3) ∧ w'.cell? ⟨gb354, 4, none⟩ = some (.int .i64 a0_4) ∧ w'.cell? ⟨gb354, 5, none⟩ = some (.int .i64 a0_5)) (ds := []) #[false, false, false, false, false, false] (by kernel_rfl) rfl rfl ⟨(YI BK355.out 0).trans rfl, (YI BK355.out 1).trans rfl, (YI BK355.out 2).trans rfl, (YI BK355.out 3).trans rfl, (YI BK355.out 4).trans rfl, (YI BK355.out 5).trans rfl, (YI BK354.out 0).trans rfl, (YI BK354.out 1).trans rfl, (YI BK354.out 2).trans rfl, (YI BK354.out 3).trans rfl, (YI BK354.out 4).trans rfl, (YI BK354.out 5).trans rfl⟩ (fun hHeld => ?_)
                generalize w161.drew = w162 at BK354 BK355 BK356 HB hHeld ⊢
                refine take_ (i := 0) (N := some 74) (v := ?_) (a' := ?_) #[true, false, false, false, false, false] rfl rfl (by kernel_rfl) (fun _ _ _ h => h) (Or.inl ⟨by rfl, ?_⟩) hHeld ?_ ?_
                rotate_left
                · rintro w' ⟨s0, s1, s2, s3, s4, s5, s6, s7, s8, s9, s10, s11⟩
                  go_simp; with_reducible rfl
                rotate_left
                · simp only [Act.put, YM, YN, YO, i64_w, i32_w]
                  rfl
                refine take_ (i := 2) (N := some 76) (v := ?_) (a' := ?_) #[true, false, true, false, false, false] rfl rfl (by kernel_rfl) (fun _ _ _ h => h) (Or.inl ⟨by rfl, ?_⟩) hHeld ?_ ?_
                rotate_left
                · rintro w' ⟨s0, s1, s2, s3, s4, s5, s6, s7, s8, s9, s10, s11⟩
                  go_simp; with_reducible rfl
                rotate_left
                · simp only [Act.put, YM, YN, YO, i64_w, i32_w]
                  rfl
                refine one_ (i := 1) (N := some 75) #[true, true, true, false, false, false] rfl rfl (by kernel_rfl) (by decide) (fun K hK => ?_)
                refine goes_ Try.func16 (by kernel_rfl) rfl #[.agg #[.bool a1_0, .int .i64 a1_1, .int .i64 a1_2, .int .i64 a1_3, .int .i64 a1_4, .int .i64 a1_5]] (by rfl) rfl rfl (by (try simp only [YP, List.map_cons, List.map_nil]); first | done | rfl | (simp only [YR, YQ]; rfl)) ?_
                with_reducible refine (height_Level.calls kj51 a1_0 a1_1 a1_2 a1_3 a1_4 a1_5 t372 t373 t374 _ A135.out).mono ?_
                rintro e w163 ⟨rfl, hb⟩
                refine ⟨_, rfl, ?_⟩
                have n0_ := YL (YK (g := gb354) (by (with_reducible repeat (first | refine YF ?_ _ | refine YG ?_ | refine YH ?_ _)); exact BK354.out) hb)
                have n1_ := YL (YK (g := gb355) (by (with_reducible repeat (first | refine YF ?_ _ | refine YG ?_ | refine YH ?_ _)); exact BK355.out) hb)
                have n2_ := YL (YK (g := gb356) (by (with_reducible repeat (first | refine YF ?_ _ | refine YG ?_ | refine YH ?_ _)); exact BK356.out) hb)
                have n3_ := YL (YD (by repeat (first | (with_reducible first | exact HB.out | apply YA | apply YB | apply YC) | exact HB.out)) hb)
                clear BK354; clear BK355; clear BK356; clear HB; have BK354 := n0_; have BK355 := n1_; have BK356 := n2_; have HB := n3_; clear n0_ n1_ n2_ n3_; (try clear hb); (try clear hb2); (try clear hk); (try clear hi)
                refine hK.out _ _ ⟨(YI BK355.out 0).trans rfl, (YI BK355.out 1).trans rfl, (YI BK355.out 2).trans rfl, (YI BK355.out 3).trans rfl, (YI BK355.out 4).trans rfl, (YI BK355.out 5).trans rfl, (YI BK354.out 0).trans rfl, (YI BK354.out 1).trans rfl, (YI BK354.out 2).trans rfl, (YI BK354.out 3).trans rfl, (YI BK354.out 4).trans rfl, (YI BK354.out 5).trans rfl⟩ (fun hHeld => ?_)
                clear hK K
                refine norm_ (a' := ?_) ?_ ?_
                rotate_left
                · show Act.put _ (some 75) _ = _
                  simp only [Act.put, YM, YN, YO, i64_w, i32_w]
                  rfl
                refine one_ (i := 3) (N := some 77) #[true, true, true, true, false, false] rfl rfl (by kernel_rfl) (by decide) (fun K hK => ?_)
                refine goes_ Try.func16 (by kernel_rfl) rfl #[.agg #[.bool a0_0, .int .i64 a0_1, .int .i64 a0_2, .int .i64 a0_3, .int .i64 a0_4, .int .i64 a0_5]] (by rfl) rfl rfl (by (try simp only [YP, List.map_cons, List.map_nil]); first | done | rfl | (simp only [YR, YQ]; rfl)) ?_
                with_reducible refine (height_Level.calls kj51 a0_0 a0_1 a0_2 a0_3 a0_4 a0_5 t375 t376 t377 _ A136.out).mono ?_
                rintro e w164 ⟨rfl, hb⟩
                refine ⟨_, rfl, ?_⟩
                have n0_ := YL (YK (g := gb354) (by (with_reducible repeat (first | refine YF ?_ _ | refine YG ?_ | refine YH ?_ _)); exact BK354.out) hb)
                have n1_ := YL (YK (g := gb355) (by (with_reducible repeat (first | refine YF ?_ _ | refine YG ?_ | refine YH ?_ _)); exact BK355.out) hb)
                have n2_ := YL (YK (g := gb356) (by (with_reducible repeat (first | refine YF ?_ _ | refine YG ?_ | refine YH ?_ _)); exact BK356.out) hb)
                have n3_ := YL (YD (by repeat (first | (with_reducible first | exact HB.out | apply YA | apply YB | apply YC) | exact HB.out)) hb)
                clear BK354; clear BK355; clear BK356; clear HB; have BK354 := n0_; have BK355 := n1_; have BK356 := n2_; have HB := n3_; clear n0_ n1_ n2_ n3_; (try clear hb); (try clear hb2); (try clear hk); (try clear hi)
                refine hK.out _ _ ⟨(YI BK355.out 0).trans rfl, (YI BK355.out 1).trans rfl, (YI BK355.out 2).trans rfl, (YI BK355.out 3).trans rfl, (YI BK355.out 4).trans rfl, (YI BK355.out 5).trans rfl, (YI BK354.out 0).trans rfl, (YI BK354.out 1).trans rfl, (YI BK354.out 2).trans rfl, (YI BK354.out 3).trans rfl, (YI BK354.out 4).trans rfl, (YI BK354.out 5).trans rfl⟩ (fun hHeld => ?_)
                clear hK K
                refine norm_ (a' := ?_) ?_ ?_
                rotate_left
                · show Act.put _ (some 77) _ = _
                  simp only [Act.put, YM, YN, YO, i64_w, i32_w]
                  rfl
                refine one_ (i := 4) (N := some 78) #[true, true, true, true, true, false] rfl rfl (by kernel_rfl) (by decide) (fun K hK => ?_)
                refine goes_ Try.func18 (by kernel_rfl) rfl #[.agg #[.int .i64 t372, .int .i64 t373, .int .i64 t374], .agg #[.int .i64 t375, .int .i64 t376, .int .i64 t377]] (by rfl) rfl rfl (by (try simp only [YP, List.map_cons, List.map_nil]); first | done | rfl | (simp only [YR, YQ]; rfl)) ?_
                with_reducible refine (height_Order.calls kj51 t372 t373 t374 t375 t376 t377 t378 _ A137.out).mono ?_
                rintro e w165 ⟨rfl, hb⟩
                refine ⟨_, rfl, ?_⟩
                have n0_ := YL (YK (g := gb354) (by (with_reducible repeat (first | refine YF ?_ _ | refine YG ?_ | refine YH ?_ _)); exact BK354.out) hb)
                have n1_ := YL (YK (g := gb355) (by (with_reducible repeat (first | refine YF ?_ _ | refine YG ?_ | refine YH ?_ _)); exact BK355.out) hb)
                have n2_ := YL (YK (g := gb356) (by (with_reducible repeat (first | refine YF ?_ _ | refine YG ?_ | refine YH ?_ _)); exact BK356.out) hb)
                have n3_ := YL (YD (by repeat (first | (with_reducible first | exact HB.out | apply YA | apply YB | apply YC) | exact HB.out)) hb)
                clear BK354; clear BK355; clear BK356; clear HB; have BK354 := n0_; have BK355 := n1_; have BK356 := n2_; have HB := n3_; clear n0_ n1_ n2_ n3_; (try clear hb); (try clear hb2); (try clear hk); (try clear hi)
                refine hK.out _ _ ⟨(YI BK355.out 0).trans rfl, (YI BK355.out 1).trans rfl, (YI BK355.out 2).trans rfl, (YI BK355.out 3).trans rfl, (YI BK355.out 4).trans rfl, (YI BK355.out 5).trans rfl, (YI BK354.out 0).trans rfl, (YI BK354.out 1).trans rfl, (YI BK354.out 2).trans rfl, (YI BK354.out 3).trans rfl, (YI BK354.out 4).trans rfl, (YI BK354.out 5).trans rfl⟩ (fun hHeld => ?_)
                clear hK K
                refine norm_ (a' := ?_) ?_ ?_
                rotate_left
                · show Act.put _ (some 78) _ = _
                  simp only [Act.put, YM, YN, YO, i64_w, i32_w]
                  rfl
                refine pure_ (i := 5) (N := some 11) (v := ?_) (a' := ?_) #[true, true, true, true, true, true] rfl rfl (by kernel_rfl) (fun _ _ _ h => h) (Or.inl ⟨by rfl, ?_⟩) ?_ ?_
                rotate_left
                · intro w'
                  go_simp; with_reducible rfl
                rotate_left
                · simp only [Act.put, YM, YN, YO, i64_w, i32_w]
                  rfl
                refine done_ (by kernel_rfl) ?_
                try go_wp2_with (first | ((with_reducible refine gate_callee (f := 20) rfl ?_); refine goesL_ (some 79) rfl rfl Try.func20 (by kernel_rfl) rfl #[] rfl (by (try simp only [YP, List.map_cons, List.map_nil]); first | done | rfl | (simp only [YR, YQ]; rfl)) ?_; (with_reducible refine (thalweglaw02_awake.calls kj51  true _ A138.out).mono ?_); rintro e w166 ⟨rfl, hb⟩; refine ⟨_, rfl, ?_⟩; have n0_ := YL (YK (g := gb354) (by (with_reducible repeat (first | refine YF ?_ _ | refine YG ?_ | refine YH ?_ _)); exact BK354.out) hb); have n1_ := YL (YK (g := gb355) (by (with_reducible repeat (first | refine YF ?_ _ | refine YG ?_ | refine YH ?_ _)); exact BK355.out) hb); have n2_ := YL (YK (g := gb356) (by (with_reducible repeat (first | refine YF ?_ _ | refine YG ?_ | refine YH ?_ _)); exact BK356.out) hb); have n3_ := YL (YD (by repeat (first | (with_reducible first | exact HB.out | apply YA | apply YB | apply YC) | exact HB.out)) hb); clear BK354; clear BK355; clear BK356; clear HB; have BK354 := n0_; have BK355 := n1_; have BK356 := n2_; have HB := n3_; clear n0_ n1_ n2_ n3_; (try clear hb); (try clear hb2); (try clear hk); (try clear hi); have hnb167 := NB354_355.out; have hnc167 := NB355_354.out; have hnb168 := NB354_356.out; have hnc168 := NB356_354.out; have hcz169_0 : w166.cell? ⟨gb354, 0, none⟩ = some (.bool a0_0) := (YI BK354.out 0).trans rfl; have hcz169_1 : w166.cell? ⟨gb354, 1, none⟩ = some (.int .i64 a0_1) := (YI BK354.out 1).trans rfl; have hcz169_2 : w166.cell? ⟨gb354, 2, none⟩ = some (.int .i64 a0_2) := (YI BK354.out 2).trans rfl; have hcz169_3 : w166.cell? ⟨gb354, 3, none⟩ = some (.int .i64 a0_3) := (YI BK354.out 3).trans rfl; have hcz169_4 : w166.cell? ⟨gb354, 4, none⟩ = some (.int .i64 a0_4) := (YI BK354.out 4).trans rfl; have hcz169_5 : w166.cell? ⟨gb354, 5, none⟩ = some (.int .i64 a0_5) := (YI BK354.out 5).trans rfl; have hfz169_0 := YJ BK354.out 0; have hfz169_1 := YJ BK354.out 1; have hfz169_2 := YJ BK354.out 2; have hfz169_3 := YJ BK354.out 3; have hfz169_4 := YJ BK354.out 4; have hfz169_5 := YJ BK354.out 5; have hnb170 := NB355_356.out; have hnc170 := NB356_355.out; have hcz171_0 : w166.cell? ⟨gb355, 0, none⟩ = some (.bool a1_0) := (YI BK355.out 0).trans rfl; have hcz171_1 : w166.cell? ⟨gb355, 1, none⟩ = some (.int .i64 a1_1) := (YI BK355.out 1).trans rfl; have hcz171_2 : w166.cell? ⟨gb355, 2, none⟩ = some (.int .i64 a1_2) := (YI BK355.out 2).trans rfl; have hcz171_3 : w166.cell? ⟨gb355, 3, none⟩ = some (.int .i64 a1_3) := (YI BK355.out 3).trans rfl; have hcz171_4 : w166.cell? ⟨gb355, 4, none⟩ = some (.int .i64 a1_4) := (YI BK355.out 4).trans rfl; have hcz171_5 : w166.cell? ⟨gb355, 5, none⟩ = some (.int .i64 a1_5) := (YI BK355.out 5).trans rfl; have hfz171_0 := YJ BK355.out 0; have hfz171_1 := YJ BK355.out 1; have hfz171_2 := YJ BK355.out 2; have hfz171_3 := YJ BK355.out 3; have hfz171_4 := YJ BK355.out 4; have hfz171_5 := YJ BK355.out 5))
                go_ret
                exact ⟨by first | rfl | (simp [errW_none, errW_some] <;> rfl) | (simp [*, errW_none, errW_some] <;> rfl), by repeat (first | (with_reducible first | exact HB.out | apply YA | apply YB | apply YC) | exact HB.out)⟩
              rw [if_neg c142] at H
              have c142b0 : (a0_0 == a1_0 && (a0_1 == a1_1 && (a0_2 == a1_2 && (a0_3 == a1_3 && (a0_4 == a1_4 && (a0_5 == a1_5)))))) = false := by simpa using c142
              (try (have c142b1 : decide (a0_0 = a1_0 && (a0_1 == a1_1 && (a0_2 == a1_2 && (a0_3 == a1_3 && (a0_4 == a1_4 && (a0_5 == a1_5)))))) = false := by simpa using c142))
              (try (have c142b2 : (a0_0 == a1_0 && (a0_1 == a1_1 && (a0_2 == a1_2 && (a0_3 == a1_3 && (a0_4 == a1_4 && (a0_5 == a1_5)))))) = false := by simpa using c142))
              (try (have c142b3 : ¬ (a0_0 = a1_0 && (a0_1 == a1_1 && (a0_2 == a1_2 && (a0_3 == a1_3 && (a0_4 == a1_4 && (a0_5 == a1_5)))))) := by simpa using c142))
              clear c142
              by_cases c172 : t357 = true
              · subst c172
                have H1 : (if t371 = 0 then (some true) else (some (true == (decide (t371 < 0))))) = some r := by rw [if_pos rfl] at H; exact H
                clear H
                have H := H1
                clear H1
                by_cases c173 : t371 = 0
                · rw [if_pos c173] at H
                  have c173b0 : (t371 == 0) = true := beq_iff_eq.mpr c173
                  have c173b1 : (t371 != 0) = false := bne_eq_false_iff_eq.mpr c173
                  clear c173
                  obtain rfl := Option.some.inj H
                  try go_wp2
                  have n0_ := YL (YG BK354.out)
                  have n1_ := YL (YG BK355.out)
                  have n2_ := YL (YG BK356.out)
                  have n3_ := YL (YC HB.out)
                  clear BK354; clear BK355; clear BK356; clear HB; have BK354 := n0_; have BK355 := n1_; have BK356 := n2_; have HB := n3_; clear n0_ n1_ n2_ n3_
                  refine start_ (n := 6) (S := fun w' => w'.cell? ⟨gb354, 0, none⟩ = some (.bool a0_0) ∧ w'.cell? ⟨gb354, 1, none⟩ = some (.int .i64 a0_1) ∧ w'.cell? ⟨gb354, 2, none⟩ = some (.int .i64 a0_2) ∧ w'.cell? ⟨gb354, 3, none⟩ = some (.int .i64 a0_3) ∧ w'.cell? ⟨gb354, 4, none⟩ = some (.int .i64 a0_4) ∧ w'.cell? ⟨gb354, 5, none⟩ = some (.int .i64 a0_5) ∧ w'.cell? ⟨gb355, 0, none⟩ = some (.bool a1_0) ∧ w'.cell? ⟨gb355, 1, none⟩ = some (.int .i64 a1_1) ∧ w'.cell? ⟨gb355, 2, none⟩ = some (.int .i64 a1_2) ∧ w'.cell? ⟨gb355, 3, none⟩ = some (.int .i64 a1_3) ∧ w'.cell? ⟨gb355, 4, none⟩ = some (.int .i64 a1_4) ∧ w'.cell? ⟨gb355, 5, none⟩ = some (.int .i64 a1_5)) (ds := []) #[false, false, false, false, false, false] (by kernel_rfl) rfl rfl ⟨(YI BK354.out 0).trans rfl, (YI BK354.out 1).trans rfl, (YI BK354.out 2).trans rfl, (YI BK354.out 3).trans rfl, (YI BK354.out 4).trans rfl, (YI BK354.out 5).trans rfl, (YI BK355.out 0).trans rfl, (YI BK355.out 1).trans rfl, (YI BK355.out 2).trans rfl, (YI BK355.out 3).trans rfl, (YI BK355.out 4).trans rfl, (YI BK355.out 5).trans rfl⟩ (fun hHeld => ?_)
                  generalize wc.drew = w174 at BK354 BK355 BK356 HB hHeld ⊢
                  refine take_ (i := 0) (N := some 69) (v := ?_) (a' := ?_) #[true, false, false, false, false, false] rfl rfl (by kernel_rfl) (fun _ _ _ h => h) (Or.inl ⟨by rfl, ?_⟩) hHeld ?_ ?_
                  rotate_left
                  · rintro w' ⟨s0, s1, s2, s3, s4, s5, s6, s7, s8, s9, s10, s11⟩
                    go_simp; with_reducible rfl
                  rotate_left
                  · simp only [Act.put, YM, YN, YO, i64_w, i32_w]
                    rfl
                  refine take_ (i := 2) (N := some 71) (v := ?_) (a' := ?_) #[true, false, true, false, false, false] rfl rfl (by kernel_rfl) (fun _ _ _ h => h) (Or.inl ⟨by rfl, ?_⟩) hHeld ?_ ?_
                  rotate_left
                  · rintro w' ⟨s0, s1, s2, s3, s4, s5, s6, s7, s8, s9, s10, s11⟩
                    go_simp; with_reducible rfl
                  rotate_left
                  · simp only [Act.put, YM, YN, YO, i64_w, i32_w]
                    rfl
                  refine one_ (i := 1) (N := some 70) #[true, true, true, false, false, false] rfl rfl (by kernel_rfl) (by decide) (fun K hK => ?_)
                  refine goes_ Try.func16 (by kernel_rfl) rfl #[.agg #[.bool a0_0, .int .i64 a0_1, .int .i64 a0_2, .int .i64 a0_3, .int .i64 a0_4, .int .i64 a0_5]] (by rfl) rfl rfl (by (try simp only [YP, List.map_cons, List.map_nil]); first | done | rfl | (simp only [YR, YQ]; rfl)) ?_
                  with_reducible refine (height_Level.calls kj51 a0_0 a0_1 a0_2 a0_3 a0_4 a0_5 t365 t366 t367 _ A132.out).mono ?_
                  rintro e w175 ⟨rfl, hb⟩
                  refine ⟨_, rfl, ?_⟩
                  have n0_ := YL (YK (g := gb354) (by (with_reducible repeat (first | refine YF ?_ _ | refine YG ?_ | refine YH ?_ _)); exact BK354.out) hb)
                  have n1_ := YL (YK (g := gb355) (by (with_reducible repeat (first | refine YF ?_ _ | refine YG ?_ | refine YH ?_ _)); exact BK355.out) hb)
                  have n2_ := YL (YK (g := gb356) (by (with_reducible repeat (first | refine YF ?_ _ | refine YG ?_ | refine YH ?_ _)); exact BK356.out) hb)
                  have n3_ := YL (YD (by repeat (first | (with_reducible first | exact HB.out | apply YA | apply YB | apply YC) | exact HB.out)) hb)
                  clear BK354; clear BK355; clear BK356; clear HB; have BK354 := n0_; have BK355 := n1_; have BK356 := n2_; have HB := n3_; clear n0_ n1_ n2_ n3_; (try clear hb); (try clear hb2); (try clear hk); (try clear hi)
                  refine hK.out _ _ ⟨(YI BK354.out 0).trans rfl, (YI BK354.out 1).trans rfl, (YI BK354.out 2).trans rfl, (YI BK354.out 3).trans rfl, (YI BK354.out 4).trans rfl, (YI BK354.out 5).trans rfl, (YI BK355.out 0).trans rfl, (YI BK355.out 1).trans rfl, (YI BK355.out 2).trans rfl, (YI BK355.out 3).trans rfl, (YI BK355.out 4).trans rfl, (YI BK355.out 5).trans rfl⟩ (fun hHeld => ?_)
                  clear hK K
                  refine norm_ (a' := ?_) ?_ ?_
                  rotate_left
                  · show Act.put _ (some 70) _ = _
                    simp only [Act.put, YM, YN, YO, i64_w, i32_w]
                    rfl
                  refine one_ (i := 3) (N := some 72) #[true, true, true, true, false, false] rfl rfl (by kernel_rfl) (by decide) (fun K hK => ?_)
                  refine goes_ Try.func16 (by kernel_rfl) rfl #[.agg #[.bool a1_0, .int .i64 a1_1, .int .i64 a1_2, .int .i64 a1_3, .int .i64 a1_4, .int .i64 a1_5]] (by rfl) rfl rfl (by (try simp only [YP, List.map_cons, List.map_nil]); first | done | rfl | (simp only [YR, YQ]; rfl)) ?_
                  with_reducible refine (height_Level.calls kj51 a1_0 a1_1 a1_2 a1_3 a1_4 a1_5 t368 t369 t370 _ A133.out).mono ?_
                  rintro e w176 ⟨rfl, hb⟩
                  refine ⟨_, rfl, ?_⟩
                  have n0_ := YL (YK (g := gb354) (by (with_reducible repeat (first | refine YF ?_ _ | refine YG ?_ | refine YH ?_ _)); exact BK354.out) hb)
                  have n1_ := YL (YK (g := gb355) (by (with_reducible repeat (first | refine YF ?_ _ | refine YG ?_ | refine YH ?_ _)); exact BK355.out) hb)
                  have n2_ := YL (YK (g := gb356) (by (with_reducible repeat (first | refine YF ?_ _ | refine YG ?_ | refine YH ?_ _)); exact BK356.out) hb)
                  have n3_ := YL (YD (by repeat (first | (with_reducible first | exact HB.out | apply YA | apply YB | apply YC) | exact HB.out)) hb)
                  clear BK354; clear BK355; clear BK356; clear HB; have BK354 := n0_; have BK355 := n1_; have BK356 := n2_; have HB := n3_; clear n0_ n1_ n2_ n3_; (try clear hb); (try clear hb2); (try clear hk); (try clear hi)
                  refine hK.out _ _ ⟨(YI BK354.out 0).trans rfl, (YI BK354.out 1).trans rfl, (YI BK354.out 2).trans rfl, (YI BK354.out 3).trans rfl, (YI BK354.out 4).trans rfl, (YI BK354.out 5).trans rfl, (YI BK355.out 0).trans rfl, (YI BK355.out 1).trans rfl, (YI BK355.out 2).trans rfl, (YI BK355.out 3).trans rfl, (YI BK355.out 4).trans rfl, (YI BK355.out 5).trans rfl⟩ (fun hHeld => ?_)
                  clear hK K
                  refine norm_ (a' := ?_) ?_ ?_
                  rotate_left
                  · show Act.put _ (some 72) _ = _
                    simp only [Act.put, YM, YN, YO, i64_w, i32_w]
                    rfl
                  refine one_ (i := 4) (N := some 73) #[true, true, true, true, true, false] rfl rfl (by kernel_rfl) (by decide) (fun K hK => ?_)
                  refine goes_ Try.func18 (by kernel_rfl) rfl #[.agg #[.int .i64 t365, .int .i64 t366, .int .i64 t367], .agg #[.int .i64 t368, .int .i64 t369, .int .i64 t370]] (by rfl) rfl rfl (by (try simp only [YP, List.map_cons, List.map_nil]); first | done | rfl | (simp only [YR, YQ]; rfl)) ?_
                  with_reducible refine (height_Order.calls kj51 t365 t366 t367 t368 t369 t370 t371 _ A134.out).mono ?_
                  rintro e w177 ⟨rfl, hb⟩
                  refine ⟨_, rfl, ?_⟩
                  have n0_ := YL (YK (g := gb354) (by (with_reducible repeat (first | refine YF ?_ _ | refine YG ?_ | refine YH ?_ _)); exact BK354.out) hb)
                  have n1_ := YL (YK (g := gb355) (by (with_reducible repeat (first | refine YF ?_ _ | refine YG ?_ | refine YH ?_ _)); exact BK355.out) hb)
                  have n2_ := YL (YK (g := gb356) (by (with_reducible repeat (first | refine YF ?_ _ | refine YG ?_ | refine YH ?_ _)); exact BK356.out) hb)
                  have n3_ := YL (YD (by repeat (first | (with_reducible first | exact HB.out | apply YA | apply YB | apply YC) | exact HB.out)) hb)
                  clear BK354; clear BK355; clear BK356; clear HB; have BK354 := n0_; have BK355 := n1_; have BK356 := n2_; have HB := n3_; clear n0_ n1_ n2_ n3_; (try clear hb); (try clear hb2); (try clear hk); (try clear hi)
                  refine hK.out _ _ ⟨(YI BK354.out 0).trans rfl, (YI BK354.out 1).trans rfl, (YI BK354.out 2).trans rfl, (YI BK354.out 3).trans rfl, (YI BK354.out 4).trans rfl, (YI BK354.out 5).trans rfl, (YI BK355.out 0).trans rfl, (YI BK355.out 1).trans rfl, (YI BK355.out 2).trans rfl, (YI BK355.out 3).trans rfl, (YI BK355.out 4).trans rfl, (YI BK355.out 5).trans rfl⟩ (fun hHeld => ?_)
                  clear hK K
                  refine norm_ (a' := ?_) ?_ ?_
                  rotate_left
                  · show Act.put _ (some 73) _ = _
                    simp only [Act.put, YM, YN, YO, i64_w, i32_w]
                    rfl
                  refine pure_ (i := 5) (N := some 10) (v := ?_) (a' := ?_) #[true, true, true, true, true, true] rfl rfl (by kernel_rfl) (fun _ _ _ h => h) (Or.inl ⟨by rfl, ?_⟩) ?_ ?_
                  rotate_left
                  · intro w'
                    go_simp; with_reducible rfl
                  rotate_left
                  · simp only [Act.put, YM, YN, YO, i64_w, i32_w]
                    rfl
                  refine done_ (by kernel_rfl) ?_
                  try go_wp2
                  have n0_ := YL (YG BK354.out)
                  have n1_ := YL (YG BK355.out)
                  have n2_ := YL (YG BK356.out)
                  have n3_ := YL (YC HB.out)
                  clear BK354; clear BK355; clear BK356; clear HB; have BK354 := n0_; have BK355 := n1_; have BK356 := n2_; have HB := n3_; clear n0_ n1_ n2_ n3_
                  refine start_ (n := 6) (S := fun w' => w'.cell? ⟨gb355, 0, none⟩ = some (.bool a1_0) ∧ w'.cell? ⟨gb355, 1, none⟩ = some (.int .i64 a1_1) ∧ w'.cell? ⟨gb355, 2, none⟩ = some (.int .i64 a1_2) ∧ w'.cell? ⟨gb355, 3, none⟩ = some (.int .i64 a1_3) ∧ w'.cell? ⟨gb355, 4, none⟩ = some (.int .i64 a1_4) ∧ w'.cell? ⟨gb355, 5, none⟩ = some (.int .i64 a1_5) ∧ w'.cell? ⟨gb354, 0, none⟩ = some (.bool a0_0) ∧ w'.cell? ⟨gb354, 1, none⟩ = some (.int .i64 a0_1) ∧ w'.cell? ⟨gb354, 2, none⟩ = some (.int .i64 a0_2) ∧ w'.cell? ⟨gb354, 3, none⟩ = some (.int .i64 a0_3) ∧ w'.cell? ⟨gb354, 4, none⟩ = some (.int .i64 a0_4) ∧ w'.cell? ⟨gb354, 5, none⟩ = some (.int .i64 a0_5)) (ds := []) #[false, false, false, false, false, false] (by kernel_rfl) rfl rfl ⟨(YI BK355.out 0).trans rfl, (YI BK355.out 1).trans rfl, (YI BK355.out 2).trans rfl, (YI BK355.out 3).trans rfl, (YI BK355.out 4).trans rfl, (YI BK355.out 5).trans rfl, (YI BK354.out 0).trans rfl, (YI BK354.out 1).trans rfl, (YI BK354.out 2).trans rfl, (YI BK354.out 3).trans rfl, (YI BK354.out 4).trans rfl, (YI BK354.out 5).trans rfl⟩ (fun hHeld => ?_)
                  generalize w177.drew = w178 at BK354 BK355 BK356 HB hHeld ⊢
                  refine take_ (i := 0) (N := some 74) (v := ?_) (a' := ?_) #[true, false, false, false, false, false] rfl rfl (by kernel_rfl) (fun _ _ _ h => h) (Or.inl ⟨by rfl, ?_⟩) hHeld ?_ ?_
                  rotate_left
                  · rintro w' ⟨s0, s1, s2, s3, s4, s5, s6, s7, s8, s9, s10, s11⟩
                    go_simp; with_reducible rfl
                  rotate_left
                  · simp only [Act.put, YM, YN, YO, i64_w, i32_w]
                    rfl
                  refine take_ (i := 2) (N := some 76) (v := ?_) (a' := ?_) #[true, false, true, false, false, false] rfl rfl (by kernel_rfl) (fun _ _ _ h => h) (Or.inl ⟨by rfl, ?_⟩) hHeld ?_ ?_
                  rotate_left
                  · rintro w' ⟨s0, s1, s2, s3, s4, s5, s6, s7, s8, s9, s10, s11⟩
                    go_simp; with_reducible rfl
                  rotate_left
                  · simp only [Act.put, YM, YN, YO, i64_w, i32_w]
                    rfl
                  refine one_ (i := 1) (N := some 75) #[true, true, true, false, false, false] rfl rfl (by kernel_rfl) (by decide) (fun K hK => ?_)
                  refine goes_ Try.func16 (by kernel_rfl) rfl #[.agg #[.bool a1_0, .int .i64 a1_1, .int .i64 a1_2, .int .i64 a1_3, .int .i64 a1_4, .int .i64 a1_5]] (by rfl) rfl rfl (by (try simp only [YP, List.map_cons, List.map_nil]); first | done | rfl | (simp only [YR, YQ]; rfl)) ?_
                  with_reducible refine (height_Level.calls kj51 a1_0 a1_1 a1_2 a1_3 a1_4 a1_5 t372 t373 t374 _ A135.out).mono ?_
                  rintro e w179 ⟨rfl, hb⟩
                  refine ⟨_, rfl, ?_⟩
                  have n0_ := YL (YK (g := gb354) (by (with_reducible repeat (first | refine YF ?_ _ | refine YG ?_ | refine YH ?_ _)); exact BK354.out) hb)
                  have n1_ := YL (YK (g := gb355) (by (with_reducible repeat (first | refine YF ?_ _ | refine YG ?_ | refine YH ?_ _)); exact BK355.out) hb)
                  have n2_ := YL (YK (g := gb356) (by (with_reducible repeat (first | refine YF ?_ _ | refine YG ?_ | refine YH ?_ _)); exact BK356.out) hb)
                  have n3_ := YL (YD (by repeat (first | (with_reducible first | exact HB.out | apply YA | apply YB | apply YC) | exact HB.out)) hb)
                  clear BK354; clear BK355; clear BK356; clear HB; have BK354 := n0_; have BK355 := n1_; have BK356 := n2_; have HB := n3_; clear n0_ n1_ n2_ n3_; (try clear hb); (try clear hb2); (try clear hk); (try clear hi)
                  refine hK.out _ _ ⟨(YI BK355.out 0).trans rfl, (YI BK355.out 1).trans rfl, (YI BK355.out 2).trans rfl, (YI BK355.out 3).trans rfl, (YI BK355.out 4).trans rfl, (YI BK355.out 5).trans rfl, (YI BK354.out 0).trans rfl, (YI BK354.out 1).trans rfl, (YI BK354.out 2).trans rfl, (YI BK354.out 3).trans rfl, (YI BK354.out 4).trans rfl, (YI BK354.out 5).trans rfl⟩ (fun hHeld => ?_)
                  clear hK K
                  refine norm_ (a' := ?_) ?_ ?_
                  rotate_left
                  · show Act.put _ (some 75) _ = _
                    simp only [Act.put, YM, YN, YO, i64_w, i32_w]
                    rfl
                  refine one_ (i := 3) (N := some 77) #[true, true, true, true, false, false] rfl rfl (by kernel_rfl) (by decide) (fun K hK => ?_)
                  refine goes_ Try.func16 (by kernel_rfl) rfl #[.agg #[.bool a0_0, .int .i64 a0_1, .int .i64 a0_2, .int .i64 a0_3, .int .i64 a0_4, .int .i64 a0_5]] (by rfl) rfl rfl (by (try simp only [YP, List.map_cons, List.map_nil]); first | done | rfl | (simp only [YR, YQ]; rfl)) ?_
                  with_reducible refine (height_Level.calls kj51 a0_0 a0_1 a0_2 a0_3 a0_4 a0_5 t375 t376 t377 _ A136.out).mono ?_
                  rintro e w180 ⟨rfl, hb⟩
                  refine ⟨_, rfl, ?_⟩
                  have n0_ := YL (YK (g := gb354) (by (with_reducible repeat (first | refine YF ?_ _ | refine YG ?_ | refine YH ?_ _)); exact BK354.out) hb)
                  have n1_ := YL (YK (g := gb355) (by (with_reducible repeat (first | refine YF ?_ _ | refine YG ?_ | refine YH ?_ _)); exact BK355.out) hb)
                  have n2_ := YL (YK (g := gb356) (by (with_reducible repeat (first | refine YF ?_ _ | refine YG ?_ | refine YH ?_ _)); exact BK356.out) hb)
                  have n3_ := YL (YD (by repeat (first | (with_reducible first | exact HB.out | apply YA | apply YB | apply YC) | exact HB.out)) hb)
                  clear BK354; clear BK355; clear BK356; clear HB; have BK354 := n0_; have BK355 := n1_; have BK356 := n2_; have HB := n3_; clear n0_ n1_ n2_ n3_; (try clear hb); (try clear hb2); (try clear hk); (try clear hi)
                  refine hK.out _ _ ⟨(YI BK355.out 0).trans rfl, (YI BK355.out 1).trans rfl, (YI BK355.out 2).trans rfl, (YI BK355.out 3).trans rfl, (YI BK355.out 4).trans rfl, (YI BK355.out 5).trans rfl, (YI BK354.out 0).trans rfl, (YI BK354.out 1).trans rfl, (YI BK354.out 2).trans rfl, (YI BK354.out 3).trans rfl, (YI BK354.out 4).trans rfl, (YI BK354.out 5).trans rfl⟩ (fun hHeld => ?_)
                  clear hK K
                  refine norm_ (a' := ?_) ?_ ?_
                  rotate_left
                  · show Act.put _ (some 77) _ = _
                    simp only [Act.put, YM, YN, YO, i64_w, i32_w]
                    rfl
                  refine one_ (i := 4) (N := some 78) #[true, true, true, true, true, false] rfl rfl (by kernel_rfl) (by decide) (fun K hK => ?_)
                  refine goes_ Try.func18 (by kernel_rfl) rfl #[.agg #[.int .i64 t372, .int .i64 t373, .int .i64 t374], .agg #[.int .i64 t375, .int .i64 t376, .int .i64 t377]] (by rfl) rfl rfl (by (try simp only [YP, List.map_cons, List.map_nil]); first | done | rfl | (simp only [YR, YQ]; rfl)) ?_
                  with_reducible refine (height_Order.calls kj51 t372 t373 t374 t375 t376 t377 t378 _ A137.out).mono ?_
                  rintro e w181 ⟨rfl, hb⟩
                  refine ⟨_, rfl, ?_⟩
                  have n0_ := YL (YK (g := gb354) (by (with_reducible repeat (first | refine YF ?_ _ | refine YG ?_ | refine YH ?_ _)); exact BK354.out) hb)
                  have n1_ := YL (YK (g := gb355) (by (with_reducible repeat (first | refine YF ?_ _ | refine YG ?_ | refine YH ?_ _)); exact BK355.out) hb)
                  have n2_ := YL (YK (g := gb356) (by (with_reducible repeat (first | refine YF ?_ _ | refine YG ?_ | refine YH ?_ _)); exact BK356.out) hb)
                  have n3_ := YL (YD (by repeat (first | (with_reducible first | exact HB.out | apply YA | apply YB | apply YC) | exact HB.out)) hb)
                  clear BK354; clear BK355; clear BK356; clear HB; have BK354 := n0_; have BK355 := n1_; have BK356 := n2_; have HB := n3_; clear n0_ n1_ n2_ n3_; (try clear hb); (try clear hb2); (try clear hk); (try clear hi)
                  refine hK.out _ _ ⟨(YI BK355.out 0).trans rfl, (YI BK355.out 1).trans rfl, (YI BK355.out 2).trans rfl, (YI BK355.out 3).trans rfl, (YI BK355.out 4).trans rfl, (YI BK355.out 5).trans rfl, (YI BK354.out 0).trans rfl, (YI BK354.out 1).trans rfl, (YI BK354.out 2).trans rfl, (YI BK354.out 3).trans rfl, (YI BK354.out 4).trans rfl, (YI BK354.out 5).trans rfl⟩ (fun hHeld => ?_)
                  clear hK K
                  refine norm_ (a' := ?_) ?_ ?_
                  rotate_left
                  · show Act.put _ (some 78) _ = _
                    simp only [Act.put, YM, YN, YO, i64_w, i32_w]
                    rfl
                  refine pure_ (i := 5) (N := some 11) (v := ?_) (a' := ?_) #[true, true, true, true, true, true] rfl rfl (by kernel_rfl) (fun _ _ _ h => h) (Or.inl ⟨by rfl, ?_⟩) ?_ ?_
                  rotate_left
                  · intro w'
                    go_simp; with_reducible rfl
                  rotate_left
                  · simp only [Act.put, YM, YN, YO, i64_w, i32_w]
                    rfl
                  refine done_ (by kernel_rfl) ?_
                  try go_wp2_with (first | ((with_reducible refine gate_callee (f := 20) rfl ?_); refine goesL_ (some 79) rfl rfl Try.func20 (by kernel_rfl) rfl #[] rfl (by (try simp only [YP, List.map_cons, List.map_nil]); first | done | rfl | (simp only [YR, YQ]; rfl)) ?_; (with_reducible refine (thalweglaw02_awake.calls kj51  true _ A138.out).mono ?_); rintro e w182 ⟨rfl, hb⟩; refine ⟨_, rfl, ?_⟩; have n0_ := YL (YK (g := gb354) (by (with_reducible repeat (first | refine YF ?_ _ | refine YG ?_ | refine YH ?_ _)); exact BK354.out) hb); have n1_ := YL (YK (g := gb355) (by (with_reducible repeat (first | refine YF ?_ _ | refine YG ?_ | refine YH ?_ _)); exact BK355.out) hb); have n2_ := YL (YK (g := gb356) (by (with_reducible repeat (first | refine YF ?_ _ | refine YG ?_ | refine YH ?_ _)); exact BK356.out) hb); have n3_ := YL (YD (by repeat (first | (with_reducible first | exact HB.out | apply YA | apply YB | apply YC) | exact HB.out)) hb); clear BK354; clear BK355; clear BK356; clear HB; have BK354 := n0_; have BK355 := n1_; have BK356 := n2_; have HB := n3_; clear n0_ n1_ n2_ n3_; (try clear hb); (try clear hb2); (try clear hk); (try clear hi); have hnb183 := NB354_355.out; have hnc183 := NB355_354.out; have hnb184 := NB354_356.out; have hnc184 := NB356_354.out; have hcz185_0 : w182.cell? ⟨gb354, 0, none⟩ = some (.bool a0_0) := (YI BK354.out 0).trans rfl; have hcz185_1 : w182.cell? ⟨gb354, 1, none⟩ = some (.int .i64 a0_1) := (YI BK354.out 1).trans rfl; have hcz185_2 : w182.cell? ⟨gb354, 2, none⟩ = some (.int .i64 a0_2) := (YI BK354.out 2).trans rfl; have hcz185_3 : w182.cell? ⟨gb354, 3, none⟩ = some (.int .i64 a0_3) := (YI BK354.out 3).trans rfl; have hcz185_4 : w182.cell? ⟨gb354, 4, none⟩ = some (.int .i64 a0_4) := (YI BK354.out 4).trans rfl; have hcz185_5 : w182.cell? ⟨gb354, 5, none⟩ = some (.int .i64 a0_5) := (YI BK354.out 5).trans rfl; have hfz185_0 := YJ BK354.out 0; have hfz185_1 := YJ BK354.out 1; have hfz185_2 := YJ BK354.out 2; have hfz185_3 := YJ BK354.out 3; have hfz185_4 := YJ BK354.out 4; have hfz185_5 := YJ BK354.out 5; have hnb186 := NB355_356.out; have hnc186 := NB356_355.out; have hcz187_0 : w182.cell? ⟨gb355, 0, none⟩ = some (.bool a1_0) := (YI BK355.out 0).trans rfl; have hcz187_1 : w182.cell? ⟨gb355, 1, none⟩ = some (.int .i64 a1_1) := (YI BK355.out 1).trans rfl; have hcz187_2 : w182.cell? ⟨gb355, 2, none⟩ = some (.int .i64 a1_2) := (YI BK355.out 2).trans rfl; have hcz187_3 : w182.cell? ⟨gb355, 3, none⟩ = some (.int .i64 a1_3) := (YI BK355.out 3).trans rfl; have hcz187_4 : w182.cell? ⟨gb355, 4, none⟩ = some (.int .i64 a1_4) := (YI BK355.out 4).trans rfl; have hcz187_5 : w182.cell? ⟨gb355, 5, none⟩ = some (.int .i64 a1_5) := (YI BK355.out 5).trans rfl; have hfz187_0 := YJ BK355.out 0; have hfz187_1 := YJ BK355.out 1; have hfz187_2 := YJ BK355.out 2; have hfz187_3 := YJ BK355.out 3; have hfz187_4 := YJ BK355.out 4; have hfz187_5 := YJ BK355.out 5))
                  go_ret
                  exact ⟨by first | rfl | (simp [errW_none, errW_some] <;> rfl) | (simp [*, errW_none, errW_some] <;> rfl), by repeat (first | (with_reducible first | exact HB.out | apply YA | apply YB | apply YC) | exact HB.out)⟩
                rw [if_neg c173] at H
                have c173b0 : (t371 == 0) = false := beq_eq_false_iff_ne.mpr c173
                have c173b1 : (t371 != 0) = true := bne_iff_ne.mpr c173
                obtain rfl := Option.some.inj H
                try go_wp2
                have n0_ := YL (YG BK354.out)
                have n1_ := YL (YG BK355.out)
                have n2_ := YL (YG BK356.out)
                have n3_ := YL (YC HB.out)
                clear BK354; clear BK355; clear BK356; clear HB; have BK354 := n0_; have BK355 := n1_; have BK356 := n2_; have HB := n3_; clear n0_ n1_ n2_ n3_
                refine start_ (n := 6) (S := fun w' => w'.cell? ⟨gb354, 0, none⟩ = some (.bool a0_0) ∧ w'.cell? ⟨gb354, 1, none⟩ = some (.int .i64 a0_1) ∧ w'.cell? ⟨gb354, 2, none⟩ = some (.int .i64 a0_2) ∧ w'.cell? ⟨gb354, 3, none⟩ = some (.int .i64 a0_3) ∧ w'.cell? ⟨gb354, 4, none⟩ = some (.int .i64 a0_4) ∧ w'.cell? ⟨gb354, 5, none⟩ = some (.int .i64 a0_5) ∧ w'.cell? ⟨gb355, 0, none⟩ = some (.bool a1_0) ∧ w'.cell? ⟨gb355, 1, none⟩ = some (.int .i64 a1_1) ∧ w'.cell? ⟨gb355, 2, none⟩ = some (.int .i64 a1_2) ∧ w'.cell? ⟨gb355, 3, none⟩ = some (.int .i64 a1_3) ∧ w'.cell? ⟨gb355, 4, none⟩ = some (.int .i64 a1_4) ∧ w'.cell? ⟨gb355, 5, none⟩ = some (.int .i64 a1_5)) (ds := []) #[false, false, false, false, false, false] (by kernel_rfl) rfl rfl ⟨(YI BK354.out 0).trans rfl, (YI BK354.out 1).trans rfl, (YI BK354.out 2).trans rfl, (YI BK354.out 3).trans rfl, (YI BK354.out 4).trans rfl, (YI BK354.out 5).trans rfl, (YI BK355.out 0).trans rfl, (YI BK355.out 1).trans rfl, (YI BK355.out 2).trans rfl, (YI BK355.out 3).trans rfl, (YI BK355.out 4).trans rfl, (YI BK355.out 5).trans rfl⟩ (fun hHeld => ?_)
                generalize wc.drew = w188 at BK354 BK355 BK356 HB hHeld ⊢
                refine take_ (i := 0) (N := some 69) (v := ?_) (a' := ?_) #[true, false, false, false, false, false] rfl rfl (by kernel_rfl) (fun _ _ _ h => h) (Or.inl ⟨by rfl, ?_⟩) hHeld ?_ ?_
                rotate_left
                · rintro w' ⟨s0, s1, s2, s3, s4, s5, s6, s7, s8, s9, s10, s11⟩
                  go_simp; with_reducible rfl
                rotate_left
                · simp only [Act.put, YM, YN, YO, i64_w, i32_w]
                  rfl
                refine take_ (i := 2) (N := some 71) (v := ?_) (a' := ?_) #[true, false, true, false, false, false] rfl rfl (by kernel_rfl) (fun _ _ _ h => h) (Or.inl ⟨by rfl, ?_⟩) hHeld ?_ ?_
                rotate_left
                · rintro w' ⟨s0, s1, s2, s3, s4, s5, s6, s7, s8, s9, s10, s11⟩
                  go_simp; with_reducible rfl
                rotate_left
                · simp only [Act.put, YM, YN, YO, i64_w, i32_w]
                  rfl
                refine one_ (i := 1) (N := some 70) #[true, true, true, false, false, false] rfl rfl (by kernel_rfl) (by decide) (fun K hK => ?_)
                refine goes_ Try.func16 (by kernel_rfl) rfl #[.agg #[.bool a0_0, .int .i64 a0_1, .int .i64 a0_2, .int .i64 a0_3, .int .i64 a0_4, .int .i64 a0_5]] (by rfl) rfl rfl (by (try simp only [YP, List.map_cons, List.map_nil]); first | done | rfl | (simp only [YR, YQ]; rfl)) ?_
                with_reducible refine (height_Level.calls kj51 a0_0 a0_1 a0_2 a0_3 a0_4 a0_5 t365 t366 t367 _ A132.out).mono ?_
                rintro e w189 ⟨rfl, hb⟩
                refine ⟨_, rfl, ?_⟩
                have n0_ := YL (YK (g := gb354) (by (with_reducible repeat (first | refine YF ?_ _ | refine YG ?_ | refine YH ?_ _)); exact BK354.out) hb)
                have n1_ := YL (YK (g := gb355) (by (with_reducible repeat (first | refine YF ?_ _ | refine YG ?_ | refine YH ?_ _)); exact BK355.out) hb)
                have n2_ := YL (YK (g := gb356) (by (with_reducible repeat (first | refine YF ?_ _ | refine YG ?_ | refine YH ?_ _)); exact BK356.out) hb)
                have n3_ := YL (YD (by repeat (first | (with_reducible first | exact HB.out | apply YA | apply YB | apply YC) | exact HB.out)) hb)
                clear BK354; clear BK355; clear BK356; clear HB; have BK354 := n0_; have BK355 := n1_; have BK356 := n2_; have HB := n3_; clear n0_ n1_ n2_ n3_; (try clear hb); (try clear hb2); (try clear hk); (try clear hi)
                refine hK.out _ _ ⟨(YI BK354.out 0).trans rfl, (YI BK354.out 1).trans rfl, (YI BK354.out 2).trans rfl, (YI BK354.out 3).trans rfl, (YI BK354.out 4).trans rfl, (YI BK354.out 5).trans rfl, (YI BK355.out 0).trans rfl, (YI BK355.out 1).trans rfl, (YI BK355.out 2).trans rfl, (YI BK355.out 3).trans rfl, (YI BK355.out 4).trans rfl, (YI BK355.out 5).trans rfl⟩ (fun hHeld => ?_)
                clear hK K
                refine norm_ (a' := ?_) ?_ ?_
                rotate_left
                · show Act.put _ (some 70) _ = _
                  simp only [Act.put, YM, YN, YO, i64_w, i32_w]
                  rfl
                refine one_ (i := 3) (N := some 72) #[true, true, true, true, false, false] rfl rfl (by kernel_rfl) (by decide) (fun K hK => ?_)
                refine goes_ Try.func16 (by kernel_rfl) rfl #[.agg #[.bool a1_0, .int .i64 a1_1, .int .i64 a1_2, .int .i64 a1_3, .int .i64 a1_4, .int .i64 a1_5]] (by rfl) rfl rfl (by (try simp only [YP, List.map_cons, List.map_nil]); first | done | rfl | (simp only [YR, YQ]; rfl)) ?_
                with_reducible refine (height_Level.calls kj51 a1_0 a1_1 a1_2 a1_3 a1_4 a1_5 t368 t369 t370 _ A133.out).mono ?_
                rintro e w190 ⟨rfl, hb⟩
                refine ⟨_, rfl, ?_⟩
                have n0_ := YL (YK (g := gb354) (by (with_reducible repeat (first | refine YF ?_ _ | refine YG ?_ | refine YH ?_ _)); exact BK354.out) hb)
                have n1_ := YL (YK (g := gb355) (by (with_reducible repeat (first | refine YF ?_ _ | refine YG ?_ | refine YH ?_ _)); exact BK355.out) hb)
                have n2_ := YL (YK (g := gb356) (by (with_reducible repeat (first | refine YF ?_ _ | refine YG ?_ | refine YH ?_ _)); exact BK356.out) hb)
                have n3_ := YL (YD (by repeat (first | (with_reducible first | exact HB.out | apply YA | apply YB | apply YC) | exact HB.out)) hb)
                clear BK354; clear BK355; clear BK356; clear HB; have BK354 := n0_; have BK355 := n1_; have BK356 := n2_; have HB := n3_; clear n0_ n1_ n2_ n3_; (try clear hb); (try clear hb2); (try clear hk); (try clear hi)
                refine hK.out _ _ ⟨(YI BK354.out 0).trans rfl, (YI BK354.out 1).trans rfl, (YI BK354.out 2).trans rfl, (YI BK354.out 3).trans rfl, (YI BK354.out 4).trans rfl, (YI BK354.out 5).trans rfl, (YI BK355.out 0).trans rfl, (YI BK355.out 1).trans rfl, (YI BK355.out 2).trans rfl, (YI BK355.out 3).trans rfl, (YI BK355.out 4).trans rfl, (YI BK355.out 5).trans rfl⟩ (fun hHeld => ?_)
                clear hK K
                refine norm_ (a' := ?_) ?_ ?_
                rotate_left
                · show Act.put _ (some 72) _ = _
                  simp only [Act.put, YM, YN, YO, i64_w, i32_w]
                  rfl
                refine one_ (i := 4) (N := some 73) #[true, true, true, true, true, false] rfl rfl (by kernel_rfl) (by decide) (fun K hK => ?_)
                refine goes_ Try.func18 (by kernel_rfl) rfl #[.agg #[.int .i64 t365, .int .i64 t366, .int .i64 t367], .agg #[.int .i64 t368, .int .i64 t369, .int .i64 t370]] (by rfl) rfl rfl (by (try simp only [YP, List.map_cons, List.map_nil]); first | done | rfl | (simp only [YR, YQ]; rfl)) ?_
                with_reducible refine (height_Order.calls kj51 t365 t366 t367 t368 t369 t370 t371 _ A134.out).mono ?_
                rintro e w191 ⟨rfl, hb⟩
                refine ⟨_, rfl, ?_⟩
                have n0_ := YL (YK (g := gb354) (by (with_reducible repeat (first | refine YF ?_ _ | refine YG ?_ | refine YH ?_ _)); exact BK354.out) hb)
                have n1_ := YL (YK (g := gb355) (by (with_reducible repeat (first | refine YF ?_ _ | refine YG ?_ | refine YH ?_ _)); exact BK355.out) hb)
                have n2_ := YL (YK (g := gb356) (by (with_reducible repeat (first | refine YF ?_ _ | refine YG ?_ | refine YH ?_ _)); exact BK356.out) hb)
                have n3_ := YL (YD (by repeat (first | (with_reducible first | exact HB.out | apply YA | apply YB | apply YC) | exact HB.out)) hb)
                clear BK354; clear BK355; clear BK356; clear HB; have BK354 := n0_; have BK355 := n1_; have BK356 := n2_; have HB := n3_; clear n0_ n1_ n2_ n3_; (try clear hb); (try clear hb2); (try clear hk); (try clear hi)
                refine hK.out _ _ ⟨(YI BK354.out 0).trans rfl, (YI BK354.out 1).trans rfl, (YI BK354.out 2).trans rfl, (YI BK354.out 3).trans rfl, (YI BK354.out 4).trans rfl, (YI BK354.out 5).trans rfl, (YI BK355.out 0).trans rfl, (YI BK355.out 1).trans rfl, (YI BK355.out 2).trans rfl, (YI BK355.out 3).trans rfl, (YI BK355.out 4).trans rfl, (YI BK355.out 5).trans rfl⟩ (fun hHeld => ?_)
                clear hK K
                refine norm_ (a' := ?_) ?_ ?_
                rotate_left
                · show Act.put _ (some 73) _ = _
                  simp only [Act.put, YM, YN, YO, i64_w, i32_w]
                  rfl
                refine pure_ (i := 5) (N := some 10) (v := ?_) (a' := ?_) #[true, true, true, true, true, true] rfl rfl (by kernel_rfl) (fun _ _ _ h => h) (Or.inl ⟨by rfl, ?_⟩) ?_ ?_
                rotate_left
                · intro w'
                  go_simp; with_reducible rfl
                rotate_left
                · simp only [Act.put, YM, YN, YO, i64_w, i32_w]
                  rfl
                refine done_ (by kernel_rfl) ?_
                try go_wp2
                have n0_ := YL (YG BK354.out)
                have n1_ := YL (YG BK355.out)
                have n2_ := YL (YG BK356.out)
                have n3_ := YL (YC HB.out)
                clear BK354; clear BK355; clear BK356; clear HB; have BK354 := n0_; have BK355 := n1_; have BK356 := n2_; have HB := n3_; clear n0_ n1_ n2_ n3_
                refine start_ (n := 6) (S := fun w' => w'.cell? ⟨gb355, 0, none⟩ = some (.bool a1_0) ∧ w'.cell? ⟨gb355, 1, none⟩ = some (.int .i64 a1_1) ∧ w'.cell? ⟨gb355, 2, none⟩ = some (.int .i64 a1_2) ∧ w'.cell? ⟨gb355, 3, none⟩ = some (.int .i64 a1_3) ∧ w'.cell? ⟨gb355, 4, none⟩ = some (.int .i64 a1_4) ∧ w'.cell? ⟨gb355, 5, none⟩ = some (.int .i64 a1_5) ∧ w'.cell? ⟨gb354, 0, none⟩ = some (.bool a0_0) ∧ w'.cell? ⟨gb354, 1, none⟩ = some (.int .i64 a0_1) ∧ w'.cell? ⟨gb354, 2, none⟩ = some (.int .i64 a0_2) ∧ w'.cell? ⟨gb354, 3, none⟩ = some (.int .i64 a0_3) ∧ w'.cell? ⟨gb354, 4, none⟩ = some (.int .i64 a0_4) ∧ w'.cell? ⟨gb354, 5, none⟩ = some (.int .i64 a0_5)) (ds := []) #[false, false, false, false, false, false] (by kernel_rfl) rfl rfl ⟨(YI BK355.out 0).trans rfl, (YI BK355.out 1).trans rfl, (YI BK355.out 2).trans rfl, (YI BK355.out 3).trans rfl, (YI BK355.out 4).trans rfl, (YI BK355.out 5).trans rfl, (YI BK354.out 0).trans rfl, (YI BK354.out 1).trans rfl, (YI BK354.out 2).trans rfl, (YI BK354.out 3).trans rfl, (YI BK354.out 4).trans rfl, (YI BK354.out 5).trans rfl⟩ (fun hHeld => ?_)
                generalize w191.drew = w192 at BK354 BK355 BK356 HB hHeld ⊢
                refine take_ (i := 0) (N := some 74) (v := ?_) (a' := ?_) #[true, false, false, false, false, false] rfl rfl (by kernel_rfl) (fun _ _ _ h => h) (Or.inl ⟨by rfl, ?_⟩) hHeld ?_ ?_
                rotate_left
                · rintro w' ⟨s0, s1, s2, s3, s4, s5, s6, s7, s8, s9, s10, s11⟩
                  go_simp; with_reducible rfl
                rotate_left
                · simp only [Act.put, YM, YN, YO, i64_w, i32_w]
                  rfl
                refine take_ (i := 2) (N := some 76) (v := ?_) (a' := ?_) #[true, false, true, false, false, false] rfl rfl (by kernel_rfl) (fun _ _ _ h => h) (Or.inl ⟨by rfl, ?_⟩) hHeld ?_ ?_
                rotate_left
                · rintro w' ⟨s0, s1, s2, s3, s4, s5, s6, s7, s8, s9, s10, s11⟩
                  go_simp; with_reducible rfl
                rotate_left
                · simp only [Act.put, YM, YN, YO, i64_w, i32_w]
                  rfl
                refine one_ (i := 1) (N := some 75) #[true, true, true, false, false, false] rfl rfl (by kernel_rfl) (by decide) (fun K hK => ?_)
                refine goes_ Try.func16 (by kernel_rfl) rfl #[.agg #[.bool a1_0, .int .i64 a1_1, .int .i64 a1_2, .int .i64 a1_3, .int .i64 a1_4, .int .i64 a1_5]] (by rfl) rfl rfl (by (try simp only [YP, List.map_cons, List.map_nil]); first | done | rfl | (simp only [YR, YQ]; rfl)) ?_
                with_reducible refine (height_Level.calls kj51 a1_0 a1_1 a1_2 a1_3 a1_4 a1_5 t372 t373 t374 _ A135.out).mono ?_
                rintro e w193 ⟨rfl, hb⟩
                refine ⟨_, rfl, ?_⟩
                have n0_ := YL (YK (g := gb354) (by (with_reducible repeat (first | refine YF ?_ _ | refine YG ?_ | refine YH ?_ _)); exact BK354.out) hb)
                have n1_ := YL (YK (g := gb355) (by (with_reducible repeat (first | refine YF ?_ _ | refine YG ?_ | refine YH ?_ _)); exact BK355.out) hb)
                have n2_ := YL (YK (g := gb356) (by (with_reducible repeat (first | refine YF ?_ _ | refine YG ?_ | refine YH ?_ _)); exact BK356.out) hb)
                have n3_ := YL (YD (by repeat (first | (with_reducible first | exact HB.out | apply YA | apply YB | apply YC) | exact HB.out)) hb)
                clear BK354; clear BK355; clear BK356; clear HB; have BK354 := n0_; have BK355 := n1_; have BK356 := n2_; have HB := n3_; clear n0_ n1_ n2_ n3_; (try clear hb); (try clear hb2); (try clear hk); (try clear hi)
                refine hK.out _ _ ⟨(YI BK355.out 0).trans rfl, (YI BK355.out 1).trans rfl, (YI BK355.out 2).trans rfl, (YI BK355.out 3).trans rfl, (YI BK355.out 4).trans rfl, (YI BK355.out 5).trans rfl, (YI BK354.out 0).trans rfl, (YI BK354.out 1).trans rfl, (YI BK354.out 2).trans rfl, (YI BK354.out 3).trans rfl, (YI BK354.out 4).trans rfl, (YI BK354.out 5).trans rfl⟩ (fun hHeld => ?_)
                clear hK K
                refine norm_ (a' := ?_) ?_ ?_
                rotate_left
                · show Act.put _ (some 75) _ = _
                  simp only [Act.put, YM, YN, YO, i64_w, i32_w]
                  rfl
                refine one_ (i := 3) (N := some 77) #[true, true, true, true, false, false] rfl rfl (by kernel_rfl) (by decide) (fun K hK => ?_)
                refine goes_ Try.func16 (by kernel_rfl) rfl #[.agg #[.bool a0_0, .int .i64 a0_1, .int .i64 a0_2, .int .i64 a0_3, .int .i64 a0_4, .int .i64 a0_5]] (by rfl) rfl rfl (by (try simp only [YP, List.map_cons, List.map_nil]); first | done | rfl | (simp only [YR, YQ]; rfl)) ?_
                with_reducible refine (height_Level.calls kj51 a0_0 a0_1 a0_2 a0_3 a0_4 a0_5 t375 t376 t377 _ A136.out).mono ?_
                rintro e w194 ⟨rfl, hb⟩
                refine ⟨_, rfl, ?_⟩
                have n0_ := YL (YK (g := gb354) (by (with_reducible repeat (first | refine YF ?_ _ | refine YG ?_ | refine YH ?_ _)); exact BK354.out) hb)
                have n1_ := YL (YK (g := gb355) (by (with_reducible repeat (first | refine YF ?_ _ | refine YG ?_ | refine YH ?_ _)); exact BK355.out) hb)
                have n2_ := YL (YK (g := gb356) (by (with_reducible repeat (first | refine YF ?_ _ | refine YG ?_ | refine YH ?_ _)); exact BK356.out) hb)
                have n3_ := YL (YD (by repeat (first | (with_reducible first | exact HB.out | apply YA | apply YB | apply YC) | exact HB.out)) hb)
                clear BK354; clear BK355; clear BK356; clear HB; have BK354 := n0_; have BK355 := n1_; have BK356 := n2_; have HB := n3_; clear n0_ n1_ n2_ n3_; (try clear hb); (try clear hb2); (try clear hk); (try clear hi)
                refine hK.out _ _ ⟨(YI BK355.out 0).trans rfl, (YI BK355.out 1).trans rfl, (YI BK355.out 2).trans rfl, (YI BK355.out 3).trans rfl, (YI BK355.out 4).trans rfl, (YI BK355.out 5).trans rfl, (YI BK354.out 0).trans rfl, (YI BK354.out 1).trans rfl, (YI BK354.out 2).trans rfl, (YI BK354.out 3).trans rfl, (YI BK354.out 4).trans rfl, (YI BK354.out 5).trans rfl⟩ (fun hHeld => ?_)
                clear hK K
                refine norm_ (a' := ?_) ?_ ?_
                rotate_left
                · show Act.put _ (some 77) _ = _
                  simp only [Act.put, YM, YN, YO, i64_w, i32_w]
                  rfl
                refine one_ (i := 4) (N := some 78) #[true, true, true, true, true, false] rfl rfl (by kernel_rfl) (by decide) (fun K hK => ?_)
                refine goes_ Try.func18 (by kernel_rfl) rfl #[.agg #[.int .i64 t372, .int .i64 t373, .int .i64 t374], .agg #[.int .i64 t375, .int .i64 t376, .int .i64 t377]] (by rfl) rfl rfl (by (try simp only [YP, List.map_cons, List.map_nil]); first | done | rfl | (simp only [YR, YQ]; rfl)) ?_
                with_reducible refine (height_Order.calls kj51 t372 t373 t374 t375 t376 t377 t378 _ A137.out).mono ?_
                rintro e w195 ⟨rfl, hb⟩
                refine ⟨_, rfl, ?_⟩
                have n0_ := YL (YK (g := gb354) (by (with_reducible repeat (first | refine YF ?_ _ | refine YG ?_ | refine YH ?_ _)); exact BK354.out) hb)
                have n1_ := YL (YK (g := gb355) (by (with_reducible repeat (first | refine YF ?_ _ | refine YG ?_ | refine YH ?_ _)); exact BK355.out) hb)
                have n2_ := YL (YK (g := gb356) (by (with_reducible repeat (first | refine YF ?_ _ | refine YG ?_ | refine YH ?_ _)); exact BK356.out) hb)
                have n3_ := YL (YD (by repeat (first | (with_reducible first | exact HB.out | apply YA | apply YB | apply YC) | exact HB.out)) hb)
                clear BK354; clear BK355; clear BK356; clear HB; have BK354 := n0_; have BK355 := n1_; have BK356 := n2_; have HB := n3_; clear n0_ n1_ n2_ n3_; (try clear hb); (try clear hb2); (try clear hk); (try clear hi)
                refine hK.out _ _ ⟨(YI BK355.out 0).trans rfl, (YI BK355.out 1).trans rfl, (YI BK355.out 2).trans rfl, (YI BK355.out 3).trans rfl, (YI BK355.out 4).trans rfl, (YI BK355.out 5).trans rfl, (YI BK354.out 0).trans rfl, (YI BK354.out 1).trans rfl, (YI BK354.out 2).trans rfl, (YI BK354.out 3).trans rfl, (YI BK354.out 4).trans rfl, (YI BK354.out 5).trans rfl⟩ (fun hHeld => ?_)
                clear hK K
                refine norm_ (a' := ?_) ?_ ?_
                rotate_left
                · show Act.put _ (some 78) _ = _
                  simp only [Act.put, YM, YN, YO, i64_w, i32_w]
                  rfl
                refine pure_ (i := 5) (N := some 11) (v := ?_) (a' := ?_) #[true, true, true, true, true, true] rfl rfl (by kernel_rfl) (fun _ _ _ h => h) (Or.inl ⟨by rfl, ?_⟩) ?_ ?_
                rotate_left
                · intro w'
                  go_simp; with_reducible rfl
                rotate_left
                · simp only [Act.put, YM, YN, YO, i64_w, i32_w]
                  rfl
                refine done_ (by kernel_rfl) ?_
                try go_wp2_with (first | ((with_reducible refine gate_callee (f := 20) rfl ?_); refine goesL_ (some 79) rfl rfl Try.func20 (by kernel_rfl) rfl #[] rfl (by (try simp only [YP, List.map_cons, List.map_nil]); first | done | rfl | (simp only [YR, YQ]; rfl)) ?_; (with_reducible refine (thalweglaw02_awake.calls kj51  true _ A138.out).mono ?_); rintro e w196 ⟨rfl, hb⟩; refine ⟨_, rfl, ?_⟩; have n0_ := YL (YK (g := gb354) (by (with_reducible repeat (first | refine YF ?_ _ | refine YG ?_ | refine YH ?_ _)); exact BK354.out) hb); have n1_ := YL (YK (g := gb355) (by (with_reducible repeat (first | refine YF ?_ _ | refine YG ?_ | refine YH ?_ _)); exact BK355.out) hb); have n2_ := YL (YK (g := gb356) (by (with_reducible repeat (first | refine YF ?_ _ | refine YG ?_ | refine YH ?_ _)); exact BK356.out) hb); have n3_ := YL (YD (by repeat (first | (with_reducible first | exact HB.out | apply YA | apply YB | apply YC) | exact HB.out)) hb); clear BK354; clear BK355; clear BK356; clear HB; have BK354 := n0_; have BK355 := n1_; have BK356 := n2_; have HB := n3_; clear n0_ n1_ n2_ n3_; (try clear hb); (try clear hb2); (try clear hk); (try clear hi); have hnb197 := NB354_355.out; have hnc197 := NB355_354.out; have hnb198 := NB354_356.out; have hnc198 := NB356_354.out; have hcz199_0 : w196.cell? ⟨gb354, 0, none⟩ = some (.bool a0_0) := (YI BK354.out 0).trans rfl; have hcz199_1 : w196.cell? ⟨gb354, 1, none⟩ = some (.int .i64 a0_1) := (YI BK354.out 1).trans rfl; have hcz199_2 : w196.cell? ⟨gb354, 2, none⟩ = some (.int .i64 a0_2) := (YI BK354.out 2).trans rfl; have hcz199_3 : w196.cell? ⟨gb354, 3, none⟩ = some (.int .i64 a0_3) := (YI BK354.out 3).trans rfl; have hcz199_4 : w196.cell? ⟨gb354, 4, none⟩ = some (.int .i64 a0_4) := (YI BK354.out 4).trans rfl; have hcz199_5 : w196.cell? ⟨gb354, 5, none⟩ = some (.int .i64 a0_5) := (YI BK354.out 5).trans rfl; have hfz199_0 := YJ BK354.out 0; have hfz199_1 := YJ BK354.out 1; have hfz199_2 := YJ BK354.out 2; have hfz199_3 := YJ BK354.out 3; have hfz199_4 := YJ BK354.out 4; have hfz199_5 := YJ BK354.out 5; have hnb200 := NB355_356.out; have hnc200 := NB356_355.out; have hcz201_0 : w196.cell? ⟨gb355, 0, none⟩ = some (.bool a1_0) := (YI BK355.out 0).trans rfl; have hcz201_1 : w196.cell? ⟨gb355, 1, none⟩ = some (.int .i64 a1_1) := (YI BK355.out 1).trans rfl; have hcz201_2 : w196.cell? ⟨gb355, 2, none⟩ = some (.int .i64 a1_2) := (YI BK355.out 2).trans rfl; have hcz201_3 : w196.cell? ⟨gb355, 3, none⟩ = some (.int .i64 a1_3) := (YI BK355.out 3).trans rfl; have hcz201_4 : w196.cell? ⟨gb355, 4, none⟩ = some (.int .i64 a1_4) := (YI BK355.out 4).trans rfl; have hcz201_5 : w196.cell? ⟨gb355, 5, none⟩ = some (.int .i64 a1_5) := (YI BK355.out 5).trans rfl; have hfz201_0 := YJ BK355.out 0; have hfz201_1 := YJ BK355.out 1; have hfz201_2 := YJ BK355.out 2; have hfz201_3 := YJ BK355.out 3; have hfz201_4 := YJ BK355.out 4; have hfz201_5 := YJ BK355.out 5))
                go_ret
                exact ⟨by first | rfl | (simp [errW_none, errW_some] <;> rfl) | (simp [*, errW_none, errW_some] <;> rfl), by repeat (first | (with_reducible first | exact HB.out | apply YA | apply YB | apply YC) | exact HB.out)⟩
              replace c172 := Bool.eq_false_iff.mpr c172
              subst c172
              have H1 : (if t358 = true then (if t371 = 0 then (some true) else (some (false == (decide (t371 < 0))))) else (none)) = some r := by rw [if_neg (show ¬ (false = true) by decide)] at H; exact H
              clear H
              have H := H1
              clear H1
              by_cases c202 : t358 = true
              · subst c202
                have H1 : (if t371 = 0 then (some true) else (some (false == (decide (t371 < 0))))) = some r := by rw [if_pos rfl] at H; exact H
                clear H
                have H := H1
                clear H1
                by_cases c203 : t371 = 0
                · rw [if_pos c203] at H
                  have c203b0 : (t371 == 0) = true := beq_iff_eq.mpr c203
                  have c203b1 : (t371 != 0) = false := bne_eq_false_iff_eq.mpr c203
                  clear c203
                  obtain rfl := Option.some.inj H
                  try go_wp2
                  have n0_ := YL (YG BK354.out)
                  have n1_ := YL (YG BK355.out)
                  have n2_ := YL (YG BK356.out)
                  have n3_ := YL (YC HB.out)
                  clear BK354; clear BK355; clear BK356; clear HB; have BK354 := n0_; have BK355 := n1_; have BK356 := n2_; have HB := n3_; clear n0_ n1_ n2_ n3_
                  refine start_ (n := 6) (S := fun w' => w'.cell? ⟨gb354, 0, none⟩ = some (.bool a0_0) ∧ w'.cell? ⟨gb354, 1, none⟩ = some (.int .i64 a0_1) ∧ w'.cell? ⟨gb354, 2, none⟩ = some (.int .i64 a0_2) ∧ w'.cell? ⟨gb354, 3, none⟩ = some (.int .i64 a0_3) ∧ w'.cell? ⟨gb354, 4, none⟩ = some (.int .i64 a0_4) ∧ w'.cell? ⟨gb354, 5, none⟩ = some (.int .i64 a0_5) ∧ w'.cell? ⟨gb355, 0, none⟩ = some (.bool a1_0) ∧ w'.cell? ⟨gb355, 1, none⟩ = some (.int .i64 a1_1) ∧ w'.cell? ⟨gb355, 2, none⟩ = some (.int .i64 a1_2) ∧ w'.cell? ⟨gb355, 3, none⟩ = some (.int .i64 a1_3) ∧ w'.cell? ⟨gb355, 4, none⟩ = some (.int .i64 a1_4) ∧ w'.cell? ⟨gb355, 5, none⟩ = some (.int .i64 a1_5)) (ds := []) #[false, false, false, false, false, false] (by kernel_rfl) rfl rfl ⟨(YI BK354.out 0).trans rfl, (YI BK354.out 1).trans rfl, (YI BK354.out 2).trans rfl, (YI BK354.out 3).trans rfl, (YI BK354.out 4).trans rfl, (YI BK354.out 5).trans rfl, (YI BK355.out 0).trans rfl, (YI BK355.out 1).trans rfl, (YI BK355.out 2).trans rfl, (YI BK355.out 3).trans rfl, (YI BK355.out 4).trans rfl, (YI BK355.out 5).trans rfl⟩ (fun hHeld => ?_)
                  generalize wc.drew = w204 at BK354 BK355 BK356 HB hHeld ⊢
                  refine take_ (i := 0) (N := some 69) (v := ?_) (a' := ?_) #[true, false, false, false, false, false] rfl rfl (by kernel_rfl) (fun _ _ _ h => h) (Or.inl ⟨by rfl, ?_⟩) hHeld ?_ ?_
                  rotate_left
                  · rintro w' ⟨s0, s1, s2, s3, s4, s5, s6, s7, s8, s9, s10, s11⟩
                    go_simp; with_reducible rfl
                  rotate_left
                  · simp only [Act.put, YM, YN, YO, i64_w, i32_w]
                    rfl
                  refine take_ (i := 2) (N := some 71) (v := ?_) (a' := ?_) #[true, false, true, false, false, false] rfl rfl (by kernel_rfl) (fun _ _ _ h => h) (Or.inl ⟨by rfl, ?_⟩) hHeld ?_ ?_
                  rotate_left
                  · rintro w' ⟨s0, s1, s2, s3, s4, s5, s6, s7, s8, s9, s10, s11⟩
                    go_simp; with_reducible rfl
                  rotate_left
                  · simp only [Act.put, YM, YN, YO, i64_w, i32_w]
                    rfl
                  refine one_ (i := 1) (N := some 70) #[true, true, true, false, false, false] rfl rfl (by kernel_rfl) (by decide) (fun K hK => ?_)
                  refine goes_ Try.func16 (by kernel_rfl) rfl #[.agg #[.bool a0_0, .int .i64 a0_1, .int .i64 a0_2, .int .i64 a0_3, .int .i64 a0_4, .int .i64 a0_5]] (by rfl) rfl rfl (by (try simp only [YP, List.map_cons, List.map_nil]); first | done | rfl | (simp only [YR, YQ]; rfl)) ?_
                  with_reducible refine (height_Level.calls kj51 a0_0 a0_1 a0_2 a0_3 a0_4 a0_5 t365 t366 t367 _ A132.out).mono ?_
                  rintro e w205 ⟨rfl, hb⟩
                  refine ⟨_, rfl, ?_⟩
                  have n0_ := YL (YK (g := gb354) (by (with_reducible repeat (first | refine YF ?_ _ | refine YG ?_ | refine YH ?_ _)); exact BK354.out) hb)
                  have n1_ := YL (YK (g := gb355) (by (with_reducible repeat (first | refine YF ?_ _ | refine YG ?_ | refine YH ?_ _)); exact BK355.out) hb)
                  have n2_ := YL (YK (g := gb356) (by (with_reducible repeat (first | refine YF ?_ _ | refine YG ?_ | refine YH ?_ _)); exact BK356.out) hb)
                  have n3_ := YL (YD (by repeat (first | (with_reducible first | exact HB.out | apply YA | apply YB | apply YC) | exact HB.out)) hb)
                  clear BK354; clear BK355; clear BK356; clear HB; have BK354 := n0_; have BK355 := n1_; have BK356 := n2_; have HB := n3_; clear n0_ n1_ n2_ n3_; (try clear hb); (try clear hb2); (try clear hk); (try clear hi)
                  refine hK.out _ _ ⟨(YI BK354.out 0).trans rfl, (YI BK354.out 1).trans rfl, (YI BK354.out 2).trans rfl, (YI BK354.out 3).trans rfl, (YI BK354.out 4).trans rfl, (YI BK354.out 5).trans rfl, (YI BK355.out 0).trans rfl, (YI BK355.out 1).trans rfl, (YI BK355.out 2).trans rfl, (YI BK355.out 3).trans rfl, (YI BK355.out 4).trans rfl, (YI BK355.out 5).trans rfl⟩ (fun hHeld => ?_)
                  clear hK K
                  refine norm_ (a' := ?_) ?_ ?_
                  rotate_left
                  · show Act.put _ (some 70) _ = _
                    simp only [Act.put, YM, YN, YO, i64_w, i32_w]
                    rfl
                  refine one_ (i := 3) (N := some 72) #[true, true, true, true, false, false] rfl rfl (by kernel_rfl) (by decide) (fun K hK => ?_)
                  refine goes_ Try.func16 (by kernel_rfl) rfl #[.agg #[.bool a1_0, .int .i64 a1_1, .int .i64 a1_2, .int .i64 a1_3, .int .i64 a1_4, .int .i64 a1_5]] (by rfl) rfl rfl (by (try simp only [YP, List.map_cons, List.map_nil]); first | done | rfl | (simp only [YR, YQ]; rfl)) ?_
                  with_reducible refine (height_Level.calls kj51 a1_0 a1_1 a1_2 a1_3 a1_4 a1_5 t368 t369 t370 _ A133.out).mono ?_
                  rintro e w206 ⟨rfl, hb⟩
                  refine ⟨_, rfl, ?_⟩
                  have n0_ := YL (YK (g := gb354) (by (with_reducible repeat (first | refine YF ?_ _ | refine YG ?_ | refine YH ?_ _)); exact BK354.out) hb)
                  have n1_ := YL (YK (g := gb355) (by (with_reducible repeat (first | refine YF ?_ _ | refine YG ?_ | refine YH ?_ _)); exact BK355.out) hb)
                  have n2_ := YL (YK (g := gb356) (by (with_reducible repeat (first | refine YF ?_ _ | refine YG ?_ | refine YH ?_ _)); exact BK356.out) hb)
                  have n3_ := YL (YD (by repeat (first | (with_reducible first | exact HB.out | apply YA | apply YB | apply YC) | exact HB.out)) hb)
                  clear BK354; clear BK355; clear BK356; clear HB; have BK354 := n0_; have BK355 := n1_; have BK356 := n2_; have HB := n3_; clear n0_ n1_ n2_ n3_; (try clear hb); (try clear hb2); (try clear hk); (try clear hi)
                  refine hK.out _ _ ⟨(YI BK354.out 0).trans rfl, (YI BK354.out 1).trans rfl, (YI BK354.out 2).trans rfl, (YI BK354.out 3).trans rfl, (YI BK354.out 4).trans rfl, (YI BK354.out 5).trans rfl, (YI BK355.out 0).trans rfl, (YI BK355.out 1).trans rfl, (YI BK355.out 2).trans rfl, (YI BK355.out 3).trans rfl, (YI BK355.out 4).trans rfl, (YI BK355.out 5).trans rfl⟩ (fun hHeld => ?_)
                  clear hK K
                  refine norm_ (a' := ?_) ?_ ?_
                  rotate_left
                  · show Act.put _ (some 72) _ = _
                    simp only [Act.put, YM, YN, YO, i64_w, i32_w]
                    rfl
                  refine one_ (i := 4) (N := some 73) #[true, true, true, true, true, false] rfl rfl (by kernel_rfl) (by decide) (fun K hK => ?_)
                  refine goes_ Try.func18 (by kernel_rfl) rfl #[.agg #[.int .i64 t365, .int .i64 t366, .int .i64 t367], .agg #[.int .i64 t368, .int .i64 t369, .int .i64 t370]] (by rfl) rfl rfl (by (try simp only [YP, List.map_cons, List.map_nil]); first | done | rfl | (simp only [YR, YQ]; rfl)) ?_
                  with_reducible refine (height_Order.calls kj51 t365 t366 t367 t368 t369 t370 t371 _ A134.out).mono ?_
                  rintro e w207 ⟨rfl, hb⟩
                  refine ⟨_, rfl, ?_⟩
                  have n0_ := YL (YK (g := gb354) (by (with_reducible repeat (first | refine YF ?_ _ | refine YG ?_ | refine YH ?_ _)); exact BK354.out) hb)
                  have n1_ := YL (YK (g := gb355) (by (with_reducible repeat (first | refine YF ?_ _ | refine YG ?_ | refine YH ?_ _)); exact BK355.out) hb)
                  have n2_ := YL (YK (g := gb356) (by (with_reducible repeat (first | refine YF ?_ _ | refine YG ?_ | refine YH ?_ _)); exact BK356.out) hb)
                  have n3_ := YL (YD (by repeat (first | (with_reducible first | exact HB.out | apply YA | apply YB | apply YC) | exact HB.out)) hb)
                  clear BK354; clear BK355; clear BK356; clear HB; have BK354 := n0_; have BK355 := n1_; have BK356 := n2_; have HB := n3_; clear n0_ n1_ n2_ n3_; (try clear hb); (try clear hb2); (try clear hk); (try clear hi)
                  refine hK.out _ _ ⟨(YI BK354.out 0).trans rfl, (YI BK354.out 1).trans rfl, (YI BK354.out 2).trans rfl, (YI BK354.out 3).trans rfl, (YI BK354.out 4).trans rfl, (YI BK354.out 5).trans rfl, (YI BK355.out 0).trans rfl, (YI BK355.out 1).trans rfl, (YI BK355.out 2).trans rfl, (YI BK355.out 3).trans rfl, (YI BK355.out 4).trans rfl, (YI BK355.out 5).trans rfl⟩ (fun hHeld => ?_)
                  clear hK K
                  refine norm_ (a' := ?_) ?_ ?_
                  rotate_left
                  · show Act.put _ (some 73) _ = _
                    simp only [Act.put, YM, YN, YO, i64_w, i32_w]
                    rfl
                  refine pure_ (i := 5) (N := some 10) (v := ?_) (a' := ?_) #[true, true, true, true, true, true] rfl rfl (by kernel_rfl) (fun _ _ _ h => h) (Or.inl ⟨by rfl, ?_⟩) ?_ ?_
                  rotate_left
                  · intro w'
                    go_simp; with_reducible rfl
                  rotate_left
                  · simp only [Act.put, YM, YN, YO, i64_w, i32_w]
                    rfl
                  refine done_ (by kernel_rfl) ?_
                  try go_wp2
                  have n0_ := YL (YG BK354.out)
                  have n1_ := YL (YG BK355.out)
                  have n2_ := YL (YG BK356.out)
                  have n3_ := YL (YC HB.out)
                  clear BK354; clear BK355; clear BK356; clear HB; have BK354 := n0_; have BK355 := n1_; have BK356 := n2_; have HB := n3_; clear n0_ n1_ n2_ n3_
                  refine start_ (n := 6) (S := fun w' => w'.cell? ⟨gb355, 0, none⟩ = some (.bool a1_0) ∧ w'.cell? ⟨gb355, 1, none⟩ = some (.int .i64 a1_1) ∧ w'.cell? ⟨gb355, 2, none⟩ = some (.int .i64 a1_2) ∧ w'.cell? ⟨gb355, 3, none⟩ = some (.int .i64 a1_3) ∧ w'.cell? ⟨gb355, 4, none⟩ = some (.int .i64 a1_4) ∧ w'.cell? ⟨gb355, 5, none⟩ = some (.int .i64 a1_5) ∧ w'.cell? ⟨gb354, 0, none⟩ = some (.bool a0_0) ∧ w'.cell? ⟨gb354, 1, none⟩ = some (.int .i64 a0_1) ∧ w'.cell? ⟨gb354, 2, none⟩ = some (.int .i64 a0_2) ∧ w'.cell? ⟨gb354, 3, none⟩ = some (.int .i64 a0_3) ∧ w'.cell? ⟨gb354, 4, none⟩ = some (.int .i64 a0_4) ∧ w'.cell? ⟨gb354, 5, none⟩ = some (.int .i64 a0_5)) (ds := []) #[false, false, false, false, false, false] (by kernel_rfl) rfl rfl ⟨(YI BK355.out 0).trans rfl, (YI BK355.out 1).trans rfl, (YI BK355.out 2).trans rfl, (YI BK355.out 3).trans rfl, (YI BK355.out 4).trans rfl, (YI BK355.out 5).trans rfl, (YI BK354.out 0).trans rfl, (YI BK354.out 1).trans rfl, (YI BK354.out 2).trans rfl, (YI BK354.out 3).trans rfl, (YI BK354.out 4).trans rfl, (YI BK354.out 5).trans rfl⟩ (fun hHeld => ?_)
                  generalize w207.drew = w208 at BK354 BK355 BK356 HB hHeld ⊢
                  refine take_ (i := 0) (N := some 74) (v := ?_) (a' := ?_) #[true, false, false, false, false, false] rfl rfl (by kernel_rfl) (fun _ _ _ h => h) (Or.inl ⟨by rfl, ?_⟩) hHeld ?_ ?_
                  rotate_left
                  · rintro w' ⟨s0, s1, s2, s3, s4, s5, s6, s7, s8, s9, s10, s11⟩
                    go_simp; with_reducible rfl
                  rotate_left
                  · simp only [Act.put, YM, YN, YO, i64_w, i32_w]
                    rfl
                  refine take_ (i := 2) (N := some 76) (v := ?_) (a' := ?_) #[true, false, true, false, false, false] rfl rfl (by kernel_rfl) (fun _ _ _ h => h) (Or.inl ⟨by rfl, ?_⟩) hHeld ?_ ?_
                  rotate_left
                  · rintro w' ⟨s0, s1, s2, s3, s4, s5, s6, s7, s8, s9, s10, s11⟩
                    go_simp; with_reducible rfl
                  rotate_left
                  · simp only [Act.put, YM, YN, YO, i64_w, i32_w]
                    rfl
                  refine one_ (i := 1) (N := some 75) #[true, true, true, false, false, false] rfl rfl (by kernel_rfl) (by decide) (fun K hK => ?_)
                  refine goes_ Try.func16 (by kernel_rfl) rfl #[.agg #[.bool a1_0, .int .i64 a1_1, .int .i64 a1_2, .int .i64 a1_3, .int .i64 a1_4, .int .i64 a1_5]] (by rfl) rfl rfl (by (try simp only [YP, List.map_cons, List.map_nil]); first | done | rfl | (simp only [YR, YQ]; rfl)) ?_
                  with_reducible refine (height_Level.calls kj51 a1_0 a1_1 a1_2 a1_3 a1_4 a1_5 t372 t373 t374 _ A135.out).mono ?_
                  rintro e w209 ⟨rfl, hb⟩
                  refine ⟨_, rfl, ?_⟩
                  have n0_ := YL (YK (g := gb354) (by (with_reducible repeat (first | refine YF ?_ _ | refine YG ?_ | refine YH ?_ _)); exact BK354.out) hb)
                  have n1_ := YL (YK (g := gb355) (by (with_reducible repeat (first | refine YF ?_ _ | refine YG ?_ | refine YH ?_ _)); exact BK355.out) hb)
                  have n2_ := YL (YK (g := gb356) (by (with_reducible repeat (first | refine YF ?_ _ | refine YG ?_ | refine YH ?_ _)); exact BK356.out) hb)
                  have n3_ := YL (YD (by repeat (first | (with_reducible first | exact HB.out | apply YA | apply YB | apply YC) | exact HB.out)) hb)
                  clear BK354; clear BK355; clear BK356; clear HB; have BK354 := n0_; have BK355 := n1_; have BK356 := n2_; have HB := n3_; clear n0_ n1_ n2_ n3_; (try clear hb); (try clear hb2); (try clear hk); (try clear hi)
                  refine hK.out _ _ ⟨(YI BK355.out 0).trans rfl, (YI BK355.out 1).trans rfl, (YI BK355.out 2).trans rfl, (YI BK355.out 3).trans rfl, (YI BK355.out 4).trans rfl, (YI BK355.out 5).trans rfl, (YI BK354.out 0).trans rfl, (YI BK354.out 1).trans rfl, (YI BK354.out 2).trans rfl, (YI BK354.out 3).trans rfl, (YI BK354.out 4).trans rfl, (YI BK354.out 5).trans rfl⟩ (fun hHeld => ?_)
                  clear hK K
                  refine norm_ (a' := ?_) ?_ ?_
                  rotate_left
                  · show Act.put _ (some 75) _ = _
                    simp only [Act.put, YM, YN, YO, i64_w, i32_w]
                    rfl
                  refine one_ (i := 3) (N := some 77) #[true, true, true, true, false, false] rfl rfl (by kernel_rfl) (by decide) (fun K hK => ?_)
                  refine goes_ Try.func16 (by kernel_rfl) rfl #[.agg #[.bool a0_0, .int .i64 a0_1, .int .i64 a0_2, .int .i64 a0_3, .int .i64 a0_4, .int .i64 a0_5]] (by rfl) rfl rfl (by (try simp only [YP, List.map_cons, List.map_nil]); first | done | rfl | (simp only [YR, YQ]; rfl)) ?_
                  with_reducible refine (height_Level.calls kj51 a0_0 a0_1 a0_2 a0_3 a0_4 a0_5 t375 t376 t377 _ A136.out).mono ?_
                  rintro e w210 ⟨rfl, hb⟩
                  refine ⟨_, rfl, ?_⟩
                  have n0_ := YL (YK (g := gb354) (by (with_reducible repeat (first | refine YF ?_ _ | refine YG ?_ | refine YH ?_ _)); exact BK354.out) hb)
                  have n1_ := YL (YK (g := gb355) (by (with_reducible repeat (first | refine YF ?_ _ | refine YG ?_ | refine YH ?_ _)); exact BK355.out) hb)
                  have n2_ := YL (YK (g := gb356) (by (with_reducible repeat (first | refine YF ?_ _ | refine YG ?_ | refine YH ?_ _)); exact BK356.out) hb)
                  have n3_ := YL (YD (by repeat (first | (with_reducible first | exact HB.out | apply YA | apply YB | apply YC) | exact HB.out)) hb)
                  clear BK354; clear BK355; clear BK356; clear HB; have BK354 := n0_; have BK355 := n1_; have BK356 := n2_; have HB := n3_; clear n0_ n1_ n2_ n3_; (try clear hb); (try clear hb2); (try clear hk); (try clear hi)
                  refine hK.out _ _ ⟨(YI BK355.out 0).trans rfl, (YI BK355.out 1).trans rfl, (YI BK355.out 2).trans rfl, (YI BK355.out 3).trans rfl, (YI BK355.out 4).trans rfl, (YI BK355.out 5).trans rfl, (YI BK354.out 0).trans rfl, (YI BK354.out 1).trans rfl, (YI BK354.out 2).trans rfl, (YI BK354.out 3).trans rfl, (YI BK354.out 4).trans rfl, (YI BK354.out 5).trans rfl⟩ (fun hHeld => ?_)
                  clear hK K
                  refine norm_ (a' := ?_) ?_ ?_
                  rotate_left
                  · show Act.put _ (some 77) _ = _
                    simp only [Act.put, YM, YN, YO, i64_w, i32_w]
                    rfl
                  refine one_ (i := 4) (N := some 78) #[true, true, true, true, true, false] rfl rfl (by kernel_rfl) (by decide) (fun K hK => ?_)
                  refine goes_ Try.func18 (by kernel_rfl) rfl #[.agg #[.int .i64 t372, .int .i64 t373, .int .i64 t374], .agg #[.int .i64 t375, .int .i64 t376, .int .i64 t377]] (by rfl) rfl rfl (by (try simp only [YP, List.map_cons, List.map_nil]); first | done | rfl | (simp only [YR, YQ]; rfl)) ?_
                  with_reducible refine (height_Order.calls kj51 t372 t373 t374 t375 t376 t377 t378 _ A137.out).mono ?_
                  rintro e w211 ⟨rfl, hb⟩
                  refine ⟨_, rfl, ?_⟩
                  have n0_ := YL (YK (g := gb354) (by (with_reducible repeat (first | refine YF ?_ _ | refine YG ?_ | refine YH ?_ _)); exact BK354.out) hb)
                  have n1_ := YL (YK (g := gb355) (by (with_reducible repeat (first | refine YF ?_ _ | refine YG ?_ | refine YH ?_ _)); exact BK355.out) hb)
                  have n2_ := YL (YK (g := gb356) (by (with_reducible repeat (first | refine YF ?_ _ | refine YG ?_ | refine YH ?_ _)); exact BK356.out) hb)
                  have n3_ := YL (YD (by repeat (first | (with_reducible first | exact HB.out | apply YA | apply YB | apply YC) | exact HB.out)) hb)
                  clear BK354; clear BK355; clear BK356; clear HB; have BK354 := n0_; have BK355 := n1_; have BK356 := n2_; have HB := n3_; clear n0_ n1_ n2_ n3_; (try clear hb); (try clear hb2); (try clear hk); (try clear hi)
                  refine hK.out _ _ ⟨(YI BK355.out 0).trans rfl, (YI BK355.out 1).trans rfl, (YI BK355.out 2).trans rfl, (YI BK355.out 3).trans rfl, (YI BK355.out 4).trans rfl, (YI BK355.out 5).trans rfl, (YI BK354.out 0).trans rfl, (YI BK354.out 1).trans rfl, (YI BK354.out 2).trans rfl, (YI BK354.out 3).trans rfl, (YI BK354.out 4).trans rfl, (YI BK354.out 5).trans rfl⟩ (fun hHeld => ?_)
                  clear hK K
                  refine norm_ (a' := ?_) ?_ ?_
                  rotate_left
                  · show Act.put _ (some 78) _ = _
                    simp only [Act.put, YM, YN, YO, i64_w, i32_w]
                    rfl
                  refine pure_ (i := 5) (N := some 11) (v := ?_) (a' := ?_) #[true, true, true, true, true, true] rfl rfl (by kernel_rfl) (fun _ _ _ h => h) (Or.inl ⟨by rfl, ?_⟩) ?_ ?_
                  rotate_left
                  · intro w'
                    go_simp; with_reducible rfl
                  rotate_left
                  · simp only [Act.put, YM, YN, YO, i64_w, i32_w]
                    rfl
                  refine done_ (by kernel_rfl) ?_
                  try go_wp2_with (first | ((with_reducible refine gate_callee (f := 20) rfl ?_); refine goesL_ (some 79) rfl rfl Try.func20 (by kernel_rfl) rfl #[] rfl (by (try simp only [YP, List.map_cons, List.map_nil]); first | done | rfl | (simp only [YR, YQ]; rfl)) ?_; (with_reducible refine (thalweglaw02_awake.calls kj51  true _ A138.out).mono ?_); rintro e w212 ⟨rfl, hb⟩; refine ⟨_, rfl, ?_⟩; have n0_ := YL (YK (g := gb354) (by (with_reducible repeat (first | refine YF ?_ _ | refine YG ?_ | refine YH ?_ _)); exact BK354.out) hb); have n1_ := YL (YK (g := gb355) (by (with_reducible repeat (first | refine YF ?_ _ | refine YG ?_ | refine YH ?_ _)); exact BK355.out) hb); have n2_ := YL (YK (g := gb356) (by (with_reducible repeat (first | refine YF ?_ _ | refine YG ?_ | refine YH ?_ _)); exact BK356.out) hb); have n3_ := YL (YD (by repeat (first | (with_reducible first | exact HB.out | apply YA | apply YB | apply YC) | exact HB.out)) hb); clear BK354; clear BK355; clear BK356; clear HB; have BK354 := n0_; have BK355 := n1_; have BK356 := n2_; have HB := n3_; clear n0_ n1_ n2_ n3_; (try clear hb); (try clear hb2); (try clear hk); (try clear hi); have hnb213 := NB354_355.out; have hnc213 := NB355_354.out; have hnb214 := NB354_356.out; have hnc214 := NB356_354.out; have hcz215_0 : w212.cell? ⟨gb354, 0, none⟩ = some (.bool a0_0) := (YI BK354.out 0).trans rfl; have hcz215_1 : w212.cell? ⟨gb354, 1, none⟩ = some (.int .i64 a0_1) := (YI BK354.out 1).trans rfl; have hcz215_2 : w212.cell? ⟨gb354, 2, none⟩ = some (.int .i64 a0_2) := (YI BK354.out 2).trans rfl; have hcz215_3 : w212.cell? ⟨gb354, 3, none⟩ = some (.int .i64 a0_3) := (YI BK354.out 3).trans rfl; have hcz215_4 : w212.cell? ⟨gb354, 4, none⟩ = some (.int .i64 a0_4) := (YI BK354.out 4).trans rfl; have hcz215_5 : w212.cell? ⟨gb354, 5, none⟩ = some (.int .i64 a0_5) := (YI BK354.out 5).trans rfl; have hfz215_0 := YJ BK354.out 0; have hfz215_1 := YJ BK354.out 1; have hfz215_2 := YJ BK354.out 2; have hfz215_3 := YJ BK354.out 3; have hfz215_4 := YJ BK354.out 4; have hfz215_5 := YJ BK354.out 5; have hnb216 := NB355_356.out; have hnc216 := NB356_355.out; have hcz217_0 : w212.cell? ⟨gb355, 0, none⟩ = some (.bool a1_0) := (YI BK355.out 0).trans rfl; have hcz217_1 : w212.cell? ⟨gb355, 1, none⟩ = some (.int .i64 a1_1) := (YI BK355.out 1).trans rfl; have hcz217_2 : w212.cell? ⟨gb355, 2, none⟩ = some (.int .i64 a1_2) := (YI BK355.out 2).trans rfl; have hcz217_3 : w212.cell? ⟨gb355, 3, none⟩ = some (.int .i64 a1_3) := (YI BK355.out 3).trans rfl; have hcz217_4 : w212.cell? ⟨gb355, 4, none⟩ = some (.int .i64 a1_4) := (YI BK355.out 4).trans rfl; have hcz217_5 : w212.cell? ⟨gb355, 5, none⟩ = some (.int .i64 a1_5) := (YI BK355.out 5).trans rfl; have hfz217_0 := YJ BK355.out 0; have hfz217_1 := YJ BK355.out 1; have hfz217_2 := YJ BK355.out 2; have hfz217_3 := YJ BK355.out 3; have hfz217_4 := YJ BK355.out 4; have hfz217_5 := YJ BK355.out 5))
                  go_ret
                  exact ⟨by first | rfl | (simp [errW_none, errW_some] <;> rfl) | (simp [*, errW_none, errW_some] <;> rfl), by repeat (first | (with_reducible first | exact HB.out | apply YA | apply YB | apply YC) | exact HB.out)⟩
                rw [if_neg c203] at H
                have c203b0 : (t371 == 0) = false := beq_eq_false_iff_ne.mpr c203
                have c203b1 : (t371 != 0) = true := bne_iff_ne.mpr c203
                obtain rfl := Option.some.inj H
                try go_wp2
                have n0_ := YL (YG BK354.out)
                have n1_ := YL (YG BK355.out)
                have n2_ := YL (YG BK356.out)
                have n3_ := YL (YC HB.out)
                clear BK354; clear BK355; clear BK356; clear HB; have BK354 := n0_; have BK355 := n1_; have BK356 := n2_; have HB := n3_; clear n0_ n1_ n2_ n3_
                refine start_ (n := 6) (S := fun w' => w'.cell? ⟨gb354, 0, none⟩ = some (.bool a0_0) ∧ w'.cell? ⟨gb354, 1, none⟩ = some (.int .i64 a0_1) ∧ w'.cell? ⟨gb354, 2, none⟩ = some (.int .i64 a0_2) ∧ w'.cell? ⟨gb354, 3, none⟩ = some (.int .i64 a0_3) ∧ w'.cell? ⟨gb354, 4, none⟩ = some (.int .i64 a0_4) ∧ w'.cell? ⟨gb354, 5, none⟩ = some (.int .i64 a0_5) ∧ w'.cell? ⟨gb355, 0, none⟩ = some (.bool a1_0) ∧ w'.cell? ⟨gb355, 1, none⟩ = some (.int .i64 a1_1) ∧ w'.cell? ⟨gb355, 2, none⟩ = some (.int .i64 a1_2) ∧ w'.cell? ⟨gb355, 3, none⟩ = some (.int .i64 a1_3) ∧ w'.cell? ⟨gb355, 4, none⟩ = some (.int .i64 a1_4) ∧ w'.cell? ⟨gb355, 5, none⟩ = some (.int .i64 a1_5)) (ds := []) #[false, false, false, false, false, false] (by kernel_rfl) rfl rfl ⟨(YI BK354.out 0).trans rfl, (YI BK354.out 1).trans rfl, (YI BK354.out 2).trans rfl, (YI BK354.out 3).trans rfl, (YI BK354.out 4).trans rfl, (YI BK354.out 5).trans rfl, (YI BK355.out 0).trans rfl, (YI BK355.out 1).trans rfl, (YI BK355.out 2).trans rfl, (YI BK355.out 3).trans rfl, (YI BK355.out 4).trans rfl, (YI BK355.out 5).trans rfl⟩ (fun hHeld => ?_)
                generalize wc.drew = w218 at BK354 BK355 BK356 HB hHeld ⊢
                refine take_ (i := 0) (N := some 69) (v := ?_) (a' := ?_) #[true, false, false, false, false, false] rfl rfl (by kernel_rfl) (fun _ _ _ h => h) (Or.inl ⟨by rfl, ?_⟩) hHeld ?_ ?_
                rotate_left
                · rintro w' ⟨s0, s1, s2, s3, s4, s5, s6, s7, s8, s9, s10, s11⟩
                  go_simp; with_reducible rfl
                rotate_left
                · simp only [Act.put, YM, YN, YO, i64_w, i32_w]
                  rfl
                refine take_ (i := 2) (N := some 71) (v := ?_) (a' := ?_) #[true, false, true, false, false, false] rfl rfl (by kernel_rfl) (fun _ _ _ h => h) (Or.inl ⟨by rfl, ?_⟩) hHeld ?_ ?_
                rotate_left
                · rintro w' ⟨s0, s1, s2, s3, s4, s5, s6, s7, s8, s9, s10, s11⟩
                  go_simp; with_reducible rfl
                rotate_left
                · simp only [Act.put, YM, YN, YO, i64_w, i32_w]
                  rfl
                refine one_ (i := 1) (N := some 70) #[true, true, true, false, false, false] rfl rfl (by kernel_rfl) (by decide) (fun K hK => ?_)
                refine goes_ Try.func16 (by kernel_rfl) rfl #[.agg #[.bool a0_0, .int .i64 a0_1, .int .i64 a0_2, .int .i64 a0_3, .int .i64 a0_4, .int .i64 a0_5]] (by rfl) rfl rfl (by (try simp only [YP, List.map_cons, List.map_nil]); first | done | rfl | (simp only [YR, YQ]; rfl)) ?_
                with_reducible refine (height_Level.calls kj51 a0_0 a0_1 a0_2 a0_3 a0_4 a0_5 t365 t366 t367 _ A132.out).mono ?_
                rintro e w219 ⟨rfl, hb⟩
                refine ⟨_, rfl, ?_⟩
                have n0_ := YL (YK (g := gb354) (by (with_reducible repeat (first | refine YF ?_ _ | refine YG ?_ | refine YH ?_ _)); exact BK354.out) hb)
                have n1_ := YL (YK (g := gb355) (by (with_reducible repeat (first | refine YF ?_ _ | refine YG ?_ | refine YH ?_ _)); exact BK355.out) hb)
                have n2_ := YL (YK (g := gb356) (by (with_reducible repeat (first | refine YF ?_ _ | refine YG ?_ | refine YH ?_ _)); exact BK356.out) hb)
                have n3_ := YL (YD (by repeat (first | (with_reducible first | exact HB.out | apply YA | apply YB | apply YC) | exact HB.out)) hb)
                clear BK354; clear BK355; clear BK356; clear HB; have BK354 := n0_; have BK355 := n1_; have BK356 := n2_; have HB := n3_; clear n0_ n1_ n2_ n3_; (try clear hb); (try clear hb2); (try clear hk); (try clear hi)
                refine hK.out _ _ ⟨(YI BK354.out 0).trans rfl, (YI BK354.out 1).trans rfl, (YI BK354.out 2).trans rfl, (YI BK354.out 3).trans rfl, (YI BK354.out 4).trans rfl, (YI BK354.out 5).trans rfl, (YI BK355.out 0).trans rfl, (YI BK355.out 1).trans rfl, (YI BK355.out 2).trans rfl, (YI BK355.out 3).trans rfl, (YI BK355.out 4).trans rfl, (YI BK355.out 5).trans rfl⟩ (fun hHeld => ?_)
                clear hK K
                refine norm_ (a' := ?_) ?_ ?_
                rotate_left
                · show Act.put _ (some 70) _ = _
                  simp only [Act.put, YM, YN, YO, i64_w, i32_w]
                  rfl
                refine one_ (i := 3) (N := some 72) #[true, true, true, true, false, false] rfl rfl (by kernel_rfl) (by decide) (fun K hK => ?_)
                refine goes_ Try.func16 (by kernel_rfl) rfl #[.agg #[.bool a1_0, .int .i64 a1_1, .int .i64 a1_2, .int .i64 a1_3, .int .i64 a1_4, .int .i64 a1_5]] (by rfl) rfl rfl (by (try simp only [YP, List.map_cons, List.map_nil]); first | done | rfl | (simp only [YR, YQ]; rfl)) ?_
                with_reducible refine (height_Level.calls kj51 a1_0 a1_1 a1_2 a1_3 a1_4 a1_5 t368 t369 t370 _ A133.out).mono ?_
                rintro e w220 ⟨rfl, hb⟩
                refine ⟨_, rfl, ?_⟩
                have n0_ := YL (YK (g := gb354) (by (with_reducible repeat (first | refine YF ?_ _ | refine YG ?_ | refine YH ?_ _)); exact BK354.out) hb)
                have n1_ := YL (YK (g := gb355) (by (with_reducible repeat (first | refine YF ?_ _ | refine YG ?_ | refine YH ?_ _)); exact BK355.out) hb)
                have n2_ := YL (YK (g := gb356) (by (with_reducible repeat (first | refine YF ?_ _ | refine YG ?_ | refine YH ?_ _)); exact BK356.out) hb)
                have n3_ := YL (YD (by repeat (first | (with_reducible first | exact HB.out | apply YA | apply YB | apply YC) | exact HB.out)) hb)
                clear BK354; clear BK355; clear BK356; clear HB; have BK354 := n0_; have BK355 := n1_; have BK356 := n2_; have HB := n3_; clear n0_ n1_ n2_ n3_; (try clear hb); (try clear hb2); (try clear hk); (try clear hi)
                refine hK.out _ _ ⟨(YI BK354.out 0).trans rfl, (YI BK354.out 1).trans rfl, (YI BK354.out 2).trans rfl, (YI BK354.out 3).trans rfl, (YI BK354.out 4).trans rfl, (YI BK354.out 5).trans rfl, (YI BK355.out 0).trans rfl, (YI BK355.out 1).trans rfl, (YI BK355.out 2).trans rfl, (YI BK355.out 3).trans rfl, (YI BK355.out 4).trans rfl, (YI BK355.out 5).trans rfl⟩ (fun hHeld => ?_)
                clear hK K
                refine norm_ (a' := ?_) ?_ ?_
                rotate_left
                · show Act.put _ (some 72) _ = _
                  simp only [Act.put, YM, YN, YO, i64_w, i32_w]
                  rfl
                refine one_ (i := 4) (N := some 73) #[true, true, true, true, true, false] rfl rfl (by kernel_rfl) (by decide) (fun K hK => ?_)
                refine goes_ Try.func18 (by kernel_rfl) rfl #[.agg #[.int .i64 t365, .int .i64 t366, .int .i64 t367], .agg #[.int .i64 t368, .int .i64 t369, .int .i64 t370]] (by rfl) rfl rfl (by (try simp only [YP, List.map_cons, List.map_nil]); first | done | rfl | (simp only [YR, YQ]; rfl)) ?_
                with_reducible refine (height_Order.calls kj51 t365 t366 t367 t368 t369 t370 t371 _ A134.out).mono ?_
                rintro e w221 ⟨rfl, hb⟩
                refine ⟨_, rfl, ?_⟩
                have n0_ := YL (YK (g := gb354) (by (with_reducible repeat (first | refine YF ?_ _ | refine YG ?_ | refine YH ?_ _)); exact BK354.out) hb)
                have n1_ := YL (YK (g := gb355) (by (with_reducible repeat (first | refine YF ?_ _ | refine YG ?_ | refine YH ?_ _)); exact BK355.out) hb)
                have n2_ := YL (YK (g := gb356) (by (with_reducible repeat (first | refine YF ?_ _ | refine YG ?_ | refine YH ?_ _)); exact BK356.out) hb)
                have n3_ := YL (YD (by repeat (first | (with_reducible first | exact HB.out | apply YA | apply YB | apply YC) | exact HB.out)) hb)
                clear BK354; clear BK355; clear BK356; clear HB; have BK354 := n0_; have BK355 := n1_; have BK356 := n2_; have HB := n3_; clear n0_ n1_ n2_ n3_; (try clear hb); (try clear hb2); (try clear hk); (try clear hi)
                refine hK.out _ _ ⟨(YI BK354.out 0).trans rfl, (YI BK354.out 1).trans rfl, (YI BK354.out 2).trans rfl, (YI BK354.out 3).trans rfl, (YI BK354.out 4).trans rfl, (YI BK354.out 5).trans rfl, (YI BK355.out 0).trans rfl, (YI BK355.out 1).trans rfl, (YI BK355.out 2).trans rfl, (YI BK355.out 3).trans rfl, (YI BK355.out 4).trans rfl, (YI BK355.out 5).trans rfl⟩ (fun hHeld => ?_)
                clear hK K
                refine norm_ (a' := ?_) ?_ ?_
                rotate_left
                · show Act.put _ (some 73) _ = _
                  simp only [Act.put, YM, YN, YO, i64_w, i32_w]
                  rfl
                refine pure_ (i := 5) (N := some 10) (v := ?_) (a' := ?_) #[true, true, true, true, true, true] rfl rfl (by kernel_rfl) (fun _ _ _ h => h) (Or.inl ⟨by rfl, ?_⟩) ?_ ?_
                rotate_left
                · intro w'
                  go_simp; with_reducible rfl
                rotate_left
                · simp only [Act.put, YM, YN, YO, i64_w, i32_w]
                  rfl
                refine done_ (by kernel_rfl) ?_
                try go_wp2
                have n0_ := YL (YG BK354.out)
                have n1_ := YL (YG BK355.out)
                have n2_ := YL (YG BK356.out)
                have n3_ := YL (YC HB.out)
                clear BK354; clear BK355; clear BK356; clear HB; have BK354 := n0_; have BK355 := n1_; have BK356 := n2_; have HB := n3_; clear n0_ n1_ n2_ n3_
                refine start_ (n := 6) (S := fun w' => w'.cell? ⟨gb355, 0, none⟩ = some (.bool a1_0) ∧ w'.cell? ⟨gb355, 1, none⟩ = some (.int .i64 a1_1) ∧ w'.cell? ⟨gb355, 2, none⟩ = some (.int .i64 a1_2) ∧ w'.cell? ⟨gb355, 3, none⟩ = some (.int .i64 a1_3) ∧ w'.cell? ⟨gb355, 4, none⟩ = some (.int .i64 a1_4) ∧ w'.cell? ⟨gb355, 5, none⟩ = some (.int .i64 a1_5) ∧ w'.cell? ⟨gb354, 0, none⟩ = some (.bool a0_0) ∧ w'.cell? ⟨gb354, 1, none⟩ = some (.int .i64 a0_1) ∧ w'.cell? ⟨gb354, 2, none⟩ = some (.int .i64 a0_2) ∧ w'.cell? ⟨gb354, 3, none⟩ = some (.int .i64 a0_3) ∧ w'.cell? ⟨gb354, 4, none⟩ = some (.int .i64 a0_4) ∧ w'.cell? ⟨gb354, 5, none⟩ = some (.int .i64 a0_5)) (ds := []) #[false, false, false, false, false, false] (by kernel_rfl) rfl rfl ⟨(YI BK355.out 0).trans rfl, (YI BK355.out 1).trans rfl, (YI BK355.out 2).trans rfl, (YI BK355.out 3).trans rfl, (YI BK355.out 4).trans rfl, (YI BK355.out 5).trans rfl, (YI BK354.out 0).trans rfl, (YI BK354.out 1).trans rfl, (YI BK354.out 2).trans rfl, (YI BK354.out 3).trans rfl, (YI BK354.out 4).trans rfl, (YI BK354.out 5).trans rfl⟩ (fun hHeld => ?_)
                generalize w221.drew = w222 at BK354 BK355 BK356 HB hHeld ⊢
                refine take_ (i := 0) (N := some 74) (v := ?_) (a' := ?_) #[true, false, false, false, false, false] rfl rfl (by kernel_rfl) (fun _ _ _ h => h) (Or.inl ⟨by rfl, ?_⟩) hHeld ?_ ?_
                rotate_left
                · rintro w' ⟨s0, s1, s2, s3, s4, s5, s6, s7, s8, s9, s10, s11⟩
                  go_simp; with_reducible rfl
                rotate_left
                · simp only [Act.put, YM, YN, YO, i64_w, i32_w]
                  rfl
                refine take_ (i := 2) (N := some 76) (v := ?_) (a' := ?_) #[true, false, true, false, false, false] rfl rfl (by kernel_rfl) (fun _ _ _ h => h) (Or.inl ⟨by rfl, ?_⟩) hHeld ?_ ?_
                rotate_left
                · rintro w' ⟨s0, s1, s2, s3, s4, s5, s6, s7, s8, s9, s10, s11⟩
                  go_simp; with_reducible rfl
                rotate_left
                · simp only [Act.put, YM, YN, YO, i64_w, i32_w]
                  rfl
                refine one_ (i := 1) (N := some 75) #[true, true, true, false, false, false] rfl rfl (by kernel_rfl) (by decide) (fun K hK => ?_)
                refine goes_ Try.func16 (by kernel_rfl) rfl #[.agg #[.bool a1_0, .int .i64 a1_1, .int .i64 a1_2, .int .i64 a1_3, .int .i64 a1_4, .int .i64 a1_5]] (by rfl) rfl rfl (by (try simp only [YP, List.map_cons, List.map_nil]); first | done | rfl | (simp only [YR, YQ]; rfl)) ?_
                with_reducible refine (height_Level.calls kj51 a1_0 a1_1 a1_2 a1_3 a1_4 a1_5 t372 t373 t374 _ A135.out).mono ?_
                rintro e w223 ⟨rfl, hb⟩
                refine ⟨_, rfl, ?_⟩
                have n0_ := YL (YK (g := gb354) (by (with_reducible repeat (first | refine YF ?_ _ | refine YG ?_ | refine YH ?_ _)); exact BK354.out) hb)
                have n1_ := YL (YK (g := gb355) (by (with_reducible repeat (first | refine YF ?_ _ | refine YG ?_ | refine YH ?_ _)); exact BK355.out) hb)
                have n2_ := YL (YK (g := gb356) (by (with_reducible repeat (first | refine YF ?_ _ | refine YG ?_ | refine YH ?_ _)); exact BK356.out) hb)
                have n3_ := YL (YD (by repeat (first | (with_reducible first | exact HB.out | apply YA | apply YB | apply YC) | exact HB.out)) hb)
                clear BK354; clear BK355; clear BK356; clear HB; have BK354 := n0_; have BK355 := n1_; have BK356 := n2_; have HB := n3_; clear n0_ n1_ n2_ n3_; (try clear hb); (try clear hb2); (try clear hk); (try clear hi)
                refine hK.out _ _ ⟨(YI BK355.out 0).trans rfl, (YI BK355.out 1).trans rfl, (YI BK355.out 2).trans rfl, (YI BK355.out 3).trans rfl, (YI BK355.out 4).trans rfl, (YI BK355.out 5).trans rfl, (YI BK354.out 0).trans rfl, (YI BK354.out 1).trans rfl, (YI BK354.out 2).trans rfl, (YI BK354.out 3).trans rfl, (YI BK354.out 4).trans rfl, (YI BK354.out 5).trans rfl⟩ (fun hHeld => ?_)
                clear hK K
                refine norm_ (a' := ?_) ?_ ?_
                rotate_left
                · show Act.put _ (some 75) _ = _
                  simp only [Act.put, YM, YN, YO, i64_w, i32_w]
                  rfl
                refine one_ (i := 3) (N := some 77) #[true, true, true, true, false, false] rfl rfl (by kernel_rfl) (by decide) (fun K hK => ?_)
                refine goes_ Try.func16 (by kernel_rfl) rfl #[.agg #[.bool a0_0, .int .i64 a0_1, .int .i64 a0_2, .int .i64 a0_3, .int .i64 a0_4, .int .i64 a0_5]] (by rfl) rfl rfl (by (try simp only [YP, List.map_cons, List.map_nil]); first | done | rfl | (simp only [YR, YQ]; rfl)) ?_
                with_reducible refine (height_Level.calls kj51 a0_0 a0_1 a0_2 a0_3 a0_4 a0_5 t375 t376 t377 _ A136.out).mono ?_
                rintro e w224 ⟨rfl, hb⟩
                refine ⟨_, rfl, ?_⟩
                have n0_ := YL (YK (g := gb354) (by (with_reducible repeat (first | refine YF ?_ _ | refine YG ?_ | refine YH ?_ _)); exact BK354.out) hb)
                have n1_ := YL (YK (g := gb355) (by (with_reducible repeat (first | refine YF ?_ _ | refine YG ?_ | refine YH ?_ _)); exact BK355.out) hb)
                have n2_ := YL (YK (g := gb356) (by (with_reducible repeat (first | refine YF ?_ _ | refine YG ?_ | refine YH ?_ _)); exact BK356.out) hb)
                have n3_ := YL (YD (by repeat (first | (with_reducible first | exact HB.out | apply YA | apply YB | apply YC) | exact HB.out)) hb)
                clear BK354; clear BK355; clear BK356; clear HB; have BK354 := n0_; have BK355 := n1_; have BK356 := n2_; have HB := n3_; clear n0_ n1_ n2_ n3_; (try clear hb); (try clear hb2); (try clear hk); (try clear hi)
                refine hK.out _ _ ⟨(YI BK355.out 0).trans rfl, (YI BK355.out 1).trans rfl, (YI BK355.out 2).trans rfl, (YI BK355.out 3).trans rfl, (YI BK355.out 4).trans rfl, (YI BK355.out 5).trans rfl, (YI BK354.out 0).trans rfl, (YI BK354.out 1).trans rfl, (YI BK354.out 2).trans rfl, (YI BK354.out 3).trans rfl, (YI BK354.out 4).trans rfl, (YI BK354.out 5).trans rfl⟩ (fun hHeld => ?_)
                clear hK K
                refine norm_ (a' := ?_) ?_ ?_
                rotate_left
                · show Act.put _ (some 77) _ = _
                  simp only [Act.put, YM, YN, YO, i64_w, i32_w]
                  rfl
                refine one_ (i := 4) (N := some 78) #[true, true, true, true, true, false] rfl rfl (by kernel_rfl) (by decide) (fun K hK => ?_)
                refine goes_ Try.func18 (by kernel_rfl) rfl #[.agg #[.int .i64 t372, .int .i64 t373, .int .i64 t374], .agg #[.int .i64 t375, .int .i64 t376, .int .i64 t377]] (by rfl) rfl rfl (by (try simp only [YP, List.map_cons, List.map_nil]); first | done | rfl | (simp only [YR, YQ]; rfl)) ?_
                with_reducible refine (height_Order.calls kj51 t372 t373 t374 t375 t376 t377 t378 _ A137.out).mono ?_
                rintro e w225 ⟨rfl, hb⟩
                refine ⟨_, rfl, ?_⟩
                have n0_ := YL (YK (g := gb354) (by (with_reducible repeat (first | refine YF ?_ _ | refine YG ?_ | refine YH ?_ _)); exact BK354.out) hb)
                have n1_ := YL (YK (g := gb355) (by (with_reducible repeat (first | refine YF ?_ _ | refine YG ?_ | refine YH ?_ _)); exact BK355.out) hb)
                have n2_ := YL (YK (g := gb356) (by (with_reducible repeat (first | refine YF ?_ _ | refine YG ?_ | refine YH ?_ _)); exact BK356.out) hb)
                have n3_ := YL (YD (by repeat (first | (with_reducible first | exact HB.out | apply YA | apply YB | apply YC) | exact HB.out)) hb)
                clear BK354; clear BK355; clear BK356; clear HB; have BK354 := n0_; have BK355 := n1_; have BK356 := n2_; have HB := n3_; clear n0_ n1_ n2_ n3_; (try clear hb); (try clear hb2); (try clear hk); (try clear hi)
                refine hK.out _ _ ⟨(YI BK355.out 0).trans rfl, (YI BK355.out 1).trans rfl, (YI BK355.out 2).trans rfl, (YI BK355.out 3).trans rfl, (YI BK355.out 4).trans rfl, (YI BK355.out 5).trans rfl, (YI BK354.out 0).trans rfl, (YI BK354.out 1).trans rfl, (YI BK354.out 2).trans rfl, (YI BK354.out 3).trans rfl, (YI BK354.out 4).trans rfl, (YI BK354.out 5).trans rfl⟩ (fun hHeld => ?_)
                clear hK K
                refine norm_ (a' := ?_) ?_ ?_
                rotate_left
                · show Act.put _ (some 78) _ = _
                  simp only [Act.put, YM, YN, YO, i64_w, i32_w]
                  rfl
                refine pure_ (i := 5) (N := some 11) (v := ?_) (a' := ?_) #[true, true, true, true, true, true] rfl rfl (by kernel_rfl) (fun _ _ _ h => h) (Or.inl ⟨by rfl, ?_⟩) ?_ ?_
                rotate_left
                · intro w'
                  go_simp; with_reducible rfl
                rotate_left
                · simp only [Act.put, YM, YN, YO, i64_w, i32_w]
                  rfl
                refine done_ (by kernel_rfl) ?_
                try go_wp2_with (first | ((with_reducible refine gate_callee (f := 20) rfl ?_); refine goesL_ (some 79) rfl rfl Try.func20 (by kernel_rfl) rfl #[] rfl (by (try simp only [YP, List.map_cons, List.map_nil]); first | done | rfl | (simp only [YR, YQ]; rfl)) ?_; (with_reducible refine (thalweglaw02_awake.calls kj51  true _ A138.out).mono ?_); rintro e w226 ⟨rfl, hb⟩; refine ⟨_, rfl, ?_⟩; have n0_ := YL (YK (g := gb354) (by (with_reducible repeat (first | refine YF ?_ _ | refine YG ?_ | refine YH ?_ _)); exact BK354.out) hb); have n1_ := YL (YK (g := gb355) (by (with_reducible repeat (first | refine YF ?_ _ | refine YG ?_ | refine YH ?_ _)); exact BK355.out) hb); have n2_ := YL (YK (g := gb356) (by (with_reducible repeat (first | refine YF ?_ _ | refine YG ?_ | refine YH ?_ _)); exact BK356.out) hb); have n3_ := YL (YD (by repeat (first | (with_reducible first | exact HB.out | apply YA | apply YB | apply YC) | exact HB.out)) hb); clear BK354; clear BK355; clear BK356; clear HB; have BK354 := n0_; have BK355 := n1_; have BK356 := n2_; have HB := n3_; clear n0_ n1_ n2_ n3_; (try clear hb); (try clear hb2); (try clear hk); (try clear hi); have hnb227 := NB354_355.out; have hnc227 := NB355_354.out; have hnb228 := NB354_356.out; have hnc228 := NB356_354.out; have hcz229_0 : w226.cell? ⟨gb354, 0, none⟩ = some (.bool a0_0) := (YI BK354.out 0).trans rfl; have hcz229_1 : w226.cell? ⟨gb354, 1, none⟩ = some (.int .i64 a0_1) := (YI BK354.out 1).trans rfl; have hcz229_2 : w226.cell? ⟨gb354, 2, none⟩ = some (.int .i64 a0_2) := (YI BK354.out 2).trans rfl; have hcz229_3 : w226.cell? ⟨gb354, 3, none⟩ = some (.int .i64 a0_3) := (YI BK354.out 3).trans rfl; have hcz229_4 : w226.cell? ⟨gb354, 4, none⟩ = some (.int .i64 a0_4) := (YI BK354.out 4).trans rfl; have hcz229_5 : w226.cell? ⟨gb354, 5, none⟩ = some (.int .i64 a0_5) := (YI BK354.out 5).trans rfl; have hfz229_0 := YJ BK354.out 0; have hfz229_1 := YJ BK354.out 1; have hfz229_2 := YJ BK354.out 2; have hfz229_3 := YJ BK354.out 3; have hfz229_4 := YJ BK354.out 4; have hfz229_5 := YJ BK354.out 5; have hnb230 := NB355_356.out; have hnc230 := NB356_355.out; have hcz231_0 : w226.cell? ⟨gb355, 0, none⟩ = some (.bool a1_0) := (YI BK355.out 0).trans rfl; have hcz231_1 : w226.cell? ⟨gb355, 1, none⟩ = some (.int .i64 a1_1) := (YI BK355.out 1).trans rfl; have hcz231_2 : w226.cell? ⟨gb355, 2, none⟩ = some (.int .i64 a1_2) := (YI BK355.out 2).trans rfl; have hcz231_3 : w226.cell? ⟨gb355, 3, none⟩ = some (.int .i64 a1_3) := (YI BK355.out 3).trans rfl; have hcz231_4 : w226.cell? ⟨gb355, 4, none⟩ = some (.int .i64 a1_4) := (YI BK355.out 4).trans rfl; have hcz231_5 : w226.cell? ⟨gb355, 5, none⟩ = some (.int .i64 a1_5) := (YI BK355.out 5).trans rfl; have hfz231_0 := YJ BK355.out 0; have hfz231_1 := YJ BK355.out 1; have hfz231_2 := YJ BK355.out 2; have hfz231_3 := YJ BK355.out 3; have hfz231_4 := YJ BK355.out 4; have hfz231_5 := YJ BK355.out 5))
                go_ret
                exact ⟨by first | rfl | (simp [errW_none, errW_some] <;> rfl) | (simp [*, errW_none, errW_some] <;> rfl), by repeat (first | (with_reducible first | exact HB.out | apply YA | apply YB | apply YC) | exact HB.out)⟩
              replace c202 := Bool.eq_false_iff.mpr c202
              subst c202
              have H1 : (none) = some r := by rw [if_neg (show ¬ (false = true) by decide)] at H; exact H
              clear H
              have H := H1
              clear H1
              exact absurd H (by simp)
            replace c141 := Bool.eq_false_iff.mpr c141
            subst c141
            have H1 : (some true) = some r := by rw [if_neg (show ¬ (false = true) by decide)] at H; exact H
            clear H
            have H := H1
            clear H1
            obtain rfl := Option.some.inj H
            try go_wp2
            have n0_ := YL (YG BK354.out)
            have n1_ := YL (YG BK355.out)
            have n2_ := YL (YG BK356.out)
            have n3_ := YL (YC HB.out)
            clear BK354; clear BK355; clear BK356; clear HB; have BK354 := n0_; have BK355 := n1_; have BK356 := n2_; have HB := n3_; clear n0_ n1_ n2_ n3_
            refine start_ (n := 6) (S := fun w' => w'.cell? ⟨gb354, 0, none⟩ = some (.bool a0_0) ∧ w'.cell? ⟨gb354, 1, none⟩ = some (.int .i64 a0_1) ∧ w'.cell? ⟨gb354, 2, none⟩ = some (.int .i64 a0_2) ∧ w'.cell? ⟨gb354, 3, none⟩ = some (.int .i64 a0_3) ∧ w'.cell? ⟨gb354, 4, none⟩ = some (.int .i64 a0_4) ∧ w'.cell? ⟨gb354, 5, none⟩ = some (.int .i64 a0_5) ∧ w'.cell? ⟨gb355, 0, none⟩ = some (.bool a1_0) ∧ w'.cell? ⟨gb355, 1, none⟩ = some (.int .i64 a1_1) ∧ w'.cell? ⟨gb355, 2, none⟩ = some (.int .i64 a1_2) ∧ w'.cell? ⟨gb355, 3, none⟩ = some (.int .i64 a1_3) ∧ w'.cell? ⟨gb355, 4, none⟩ = some (.int .i64 a1_4) ∧ w'.cell? ⟨gb355, 5, none⟩ = some (.int .i64 a1_5)) (ds := []) #[false, false, false, false, false, false] (by kernel_rfl) rfl rfl ⟨(YI BK354.out 0).trans rfl, (YI BK354.out 1).trans rfl, (YI BK354.out 2).trans rfl, (YI BK354.out 3).trans rfl, (YI BK354.out 4).trans rfl, (YI BK354.out 5).trans rfl, (YI BK355.out 0).trans rfl, (YI BK355.out 1).trans rfl, (YI BK355.out 2).trans rfl, (YI BK355.out 3).trans rfl, (YI BK355.out 4).trans rfl, (YI BK355.out 5).trans rfl⟩ (fun hHeld => ?_)
            generalize wc.drew = w232 at BK354 BK355 BK356 HB hHeld ⊢
            refine take_ (i := 0) (N := some 69) (v := ?_) (a' := ?_) #[true, false, false, false, false, false] rfl rfl (by kernel_rfl) (fun _ _ _ h => h) (Or.inl ⟨by rfl, ?_⟩) hHeld ?_ ?_
            rotate_left
            · rintro w' ⟨s0, s1, s2, s3, s4, s5, s6, s7, s8, s9, s10, s11⟩
              go_simp; with_reducible rfl
            rotate_left
            · simp only [Act.put, YM, YN, YO, i64_w, i32_w]
              rfl
            refine take_ (i := 2) (N := some 71) (v := ?_) (a' := ?_) #[true, false, true, false, false, false] rfl rfl (by kernel_rfl) (fun _ _ _ h => h) (Or.inl ⟨by rfl, ?_⟩) hHeld ?_ ?_
            rotate_left
            · rintro w' ⟨s0, s1, s2, s3, s4, s5, s6, s7, s8, s9, s10, s11⟩
              go_simp; with_reducible rfl
            rotate_left
            · simp only [Act.put, YM, YN, YO, i64_w, i32_w]
              rfl
            refine one_ (i := 1) (N := some 70) #[true, true, true, false, false, false] rfl rfl (by kernel_rfl) (by decide) (fun K hK => ?_)
            refine goes_ Try.func16 (by kernel_rfl) rfl #[.agg #[.bool a0_0, .int .i64 a0_1, .int .i64 a0_2, .int .i64 a0_3, .int .i64 a0_4, .int .i64 a0_5]] (by rfl) rfl rfl (by (try simp only [YP, List.map_cons, List.map_nil]); first | done | rfl | (simp only [YR, YQ]; rfl)) ?_
            with_reducible refine (height_Level.calls kj51 a0_0 a0_1 a0_2 a0_3 a0_4 a0_5 t365 t366 t367 _ A132.out).mono ?_
            rintro e w233 ⟨rfl, hb⟩
            refine ⟨_, rfl, ?_⟩
            have n0_ := YL (YK (g := gb354) (by (with_reducible repeat (first | refine YF ?_ _ | refine YG ?_ | refine YH ?_ _)); exact BK354.out) hb)
            have n1_ := YL (YK (g := gb355) (by (with_reducible repeat (first | refine YF ?_ _ | refine YG ?_ | refine YH ?_ _)); exact BK355.out) hb)
            have n2_ := YL (YK (g := gb356) (by (with_reducible repeat (first | refine YF ?_ _ | refine YG ?_ | refine YH ?_ _)); exact BK356.out) hb)
            have n3_ := YL (YD (by repeat (first | (with_reducible first | exact HB.out | apply YA | apply YB | apply YC) | exact HB.out)) hb)
            clear BK354; clear BK355; clear BK356; clear HB; have BK354 := n0_; have BK355 := n1_; have BK356 := n2_; have HB := n3_; clear n0_ n1_ n2_ n3_; (try clear hb); (try clear hb2); (try clear hk); (try clear hi)
            refine hK.out _ _ ⟨(YI BK354.out 0).trans rfl, (YI BK354.out 1).trans rfl, (YI BK354.out 2).trans rfl, (YI BK354.out 3).trans rfl, (YI BK354.out 4).trans rfl, (YI BK354.out 5).trans rfl, (YI BK355.out 0).trans rfl, (YI BK355.out 1).trans rfl, (YI BK355.out 2).trans rfl, (YI BK355.out 3).trans rfl, (YI BK355.out 4).trans rfl, (YI BK355.out 5).trans rfl⟩ (fun hHeld => ?_)
            clear hK K
            refine norm_ (a' := ?_) ?_ ?_
            rotate_left
            · show Act.put _ (some 70) _ = _
              simp only [Act.put, YM, YN, YO, i64_w, i32_w]
              rfl
            refine one_ (i := 3) (N := some 72) #[true, true, true, true, false, false] rfl rfl (by kernel_rfl) (by decide) (fun K hK => ?_)
            refine goes_ Try.func16 (by kernel_rfl) rfl #[.agg #[.bool a1_0, .int .i64 a1_1, .int .i64 a1_2, .int .i64 a1_3, .int .i64 a1_4, .int .i64 a1_5]] (by rfl) rfl rfl (by (try simp only [YP, List.map_cons, List.map_nil]); first | done | rfl | (simp only [YR, YQ]; rfl)) ?_
            with_reducible refine (height_Level.calls kj51 a1_0 a1_1 a1_2 a1_3 a1_4 a1_5 t368 t369 t370 _ A133.out).mono ?_
            rintro e w234 ⟨rfl, hb⟩
            refine ⟨_, rfl, ?_⟩
            have n0_ := YL (YK (g := gb354) (by (with_reducible repeat (first | refine YF ?_ _ | refine YG ?_ | refine YH ?_ _)); exact BK354.out) hb)
            have n1_ := YL (YK (g := gb355) (by (with_reducible repeat (first | refine YF ?_ _ | refine YG ?_ | refine YH ?_ _)); exact BK355.out) hb)
            have n2_ := YL (YK (g := gb356) (by (with_reducible repeat (first | refine YF ?_ _ | refine YG ?_ | refine YH ?_ _)); exact BK356.out) hb)
            have n3_ := YL (YD (by repeat (first | (with_reducible first | exact HB.out | apply YA | apply YB | apply YC) | exact HB.out)) hb)
            clear BK354; clear BK355; clear BK356; clear HB; have BK354 := n0_; have BK355 := n1_; have BK356 := n2_; have HB := n3_; clear n0_ n1_ n2_ n3_; (try clear hb); (try clear hb2); (try clear hk); (try clear hi)
            refine hK.out _ _ ⟨(YI BK354.out 0).trans rfl, (YI BK354.out 1).trans rfl, (YI BK354.out 2).trans rfl, (YI BK354.out 3).trans rfl, (YI BK354.out 4).trans rfl, (YI BK354.out 5).trans rfl, (YI BK355.out 0).trans rfl, (YI BK355.out 1).trans rfl, (YI BK355.out 2).trans rfl, (YI BK355.out 3).trans rfl, (YI BK355.out 4).trans rfl, (YI BK355.out 5).trans rfl⟩ (fun hHeld => ?_)
            clear hK K
            refine norm_ (a' := ?_) ?_ ?_
            rotate_left
            · show Act.put _ (some 72) _ = _
              simp only [Act.put, YM, YN, YO, i64_w, i32_w]
              rfl
            refine one_ (i := 4) (N := some 73) #[true, true, true, true, true, false] rfl rfl (by kernel_rfl) (by decide) (fun K hK => ?_)
            refine goes_ Try.func18 (by kernel_rfl) rfl #[.agg #[.int .i64 t365, .int .i64 t366, .int .i64 t367], .agg #[.int .i64 t368, .int .i64 t369, .int .i64 t370]] (by rfl) rfl rfl (by (try simp only [YP, List.map_cons, List.map_nil]); first | done | rfl | (simp only [YR, YQ]; rfl)) ?_
            with_reducible refine (height_Order.calls kj51 t365 t366 t367 t368 t369 t370 t371 _ A134.out).mono ?_
            rintro e w235 ⟨rfl, hb⟩
            refine ⟨_, rfl, ?_⟩
            have n0_ := YL (YK (g := gb354) (by (with_reducible repeat (first | refine YF ?_ _ | refine YG ?_ | refine YH ?_ _)); exact BK354.out) hb)
            have n1_ := YL (YK (g := gb355) (by (with_reducible repeat (first | refine YF ?_ _ | refine YG ?_ | refine YH ?_ _)); exact BK355.out) hb)
            have n2_ := YL (YK (g := gb356) (by (with_reducible repeat (first | refine YF ?_ _ | refine YG ?_ | refine YH ?_ _)); exact BK356.out) hb)
            have n3_ := YL (YD (by repeat (first | (with_reducible first | exact HB.out | apply YA | apply YB | apply YC) | exact HB.out)) hb)
            clear BK354; clear BK355; clear BK356; clear HB; have BK354 := n0_; have BK355 := n1_; have BK356 := n2_; have HB := n3_; clear n0_ n1_ n2_ n3_; (try clear hb); (try clear hb2); (try clear hk); (try clear hi)
            refine hK.out _ _ ⟨(YI BK354.out 0).trans rfl, (YI BK354.out 1).trans rfl, (YI BK354.out 2).trans rfl, (YI BK354.out 3).trans rfl, (YI BK354.out 4).trans rfl, (YI BK354.out 5).trans rfl, (YI BK355.out 0).trans rfl, (YI BK355.out 1).trans rfl, (YI BK355.out 2).trans rfl, (YI BK355.out 3).trans rfl, (YI BK355.out 4).trans rfl, (YI BK355.out 5).trans rfl⟩ (fun hHeld => ?_)
            clear hK K
            refine norm_ (a' := ?_) ?_ ?_
            rotate_left
            · show Act.put _ (some 73) _ = _
              simp only [Act.put, YM, YN, YO, i64_w, i32_w]
              rfl
            refine pure_ (i := 5) (N := some 10) (v := ?_) (a' := ?_) #[true, true, true, true, true, true] rfl rfl (by kernel_rfl) (fun _ _ _ h => h) (Or.inl ⟨by rfl, ?_⟩) ?_ ?_
            rotate_left
            · intro w'
              go_simp; with_reducible rfl
            rotate_left
            · simp only [Act.put, YM, YN, YO, i64_w, i32_w]
              rfl
            refine done_ (by kernel_rfl) ?_
            try go_wp2
            have n0_ := YL (YG BK354.out)
            have n1_ := YL (YG BK355.out)
            have n2_ := YL (YG BK356.out)
            have n3_ := YL (YC HB.out)
            clear BK354; clear BK355; clear BK356; clear HB; have BK354 := n0_; have BK355 := n1_; have BK356 := n2_; have HB := n3_; clear n0_ n1_ n2_ n3_
            refine start_ (n := 6) (S := fun w' => w'.cell? ⟨gb355, 0, none⟩ = some (.bool a1_0) ∧ w'.cell? ⟨gb355, 1, none⟩ = some (.int .i64 a1_1) ∧ w'.cell? ⟨gb355, 2, none⟩ = some (.int .i64 a1_2) ∧ w'.cell? ⟨gb355, 3, none⟩ = some (.int .i64 a1_3) ∧ w'.cell? ⟨gb355, 4, none⟩ = some (.int .i64 a1_4) ∧ w'.cell? ⟨gb355, 5, none⟩ = some (.int .i64 a1_5) ∧ w'.cell? ⟨gb354, 0, none⟩ = some (.bool a0_0) ∧ w'.cell? ⟨gb354, 1, none⟩ = some (.int .i64 a0_1) ∧ w'.cell? ⟨gb354, 2, none⟩ = some (.int .i64 a0_2) ∧ w'.cell? ⟨gb354, 3, none⟩ = some (.int .i64 a0_3) ∧ w'.cell? ⟨gb354, 4, none⟩ = some (.int .i64 a0_4) ∧ w'.cell? ⟨gb354, 5, none⟩ = some (.int .i64 a0_5)) (ds := []) #[false, false, false, false, false, false] (by kernel_rfl) rfl rfl ⟨(YI BK355.out 0).trans rfl, (YI BK355.out 1).trans rfl, (YI BK355.out 2).trans rfl, (YI BK355.out 3).trans rfl, (YI BK355.out 4).trans rfl, (YI BK355.out 5).trans rfl, (YI BK354.out 0).trans rfl, (YI BK354.out 1).trans rfl, (YI BK354.out 2).trans rfl, (YI BK354.out 3).trans rfl, (YI BK354.out 4).trans rfl, (YI BK354.out 5).trans rfl⟩ (fun hHeld => ?_)
            generalize w235.drew = w236 at BK354 BK355 BK356 HB hHeld ⊢
            refine take_ (i := 0) (N := some 74) (v := ?_) (a' := ?_) #[true, false, false, false, false, false] rfl rfl (by kernel_rfl) (fun _ _ _ h => h) (Or.inl ⟨by rfl, ?_⟩) hHeld ?_ ?_
            rotate_left
            · rintro w' ⟨s0, s1, s2, s3, s4, s5, s6, s7, s8, s9, s10, s11⟩
              go_simp; with_reducible rfl
            rotate_left
            · simp only [Act.put, YM, YN, YO, i64_w, i32_w]
              rfl
            refine take_ (i := 2) (N := some 76) (v := ?_) (a' := ?_) #[true, false, true, false, false, false] rfl rfl (by kernel_rfl) (fun _ _ _ h => h) (Or.inl ⟨by rfl, ?_⟩) hHeld ?_ ?_
            rotate_left
            · rintro w' ⟨s0, s1, s2, s3, s4, s5, s6, s7, s8, s9, s10, s11⟩
              go_simp; with_reducible rfl
            rotate_left
            · simp only [Act.put, YM, YN, YO, i64_w, i32_w]
              rfl
            refine one_ (i := 1) (N := some 75) #[true, true, true, false, false, false] rfl rfl (by kernel_rfl) (by decide) (fun K hK => ?_)
            refine goes_ Try.func16 (by kernel_rfl) rfl #[.agg #[.bool a1_0, .int .i64 a1_1, .int .i64 a1_2, .int .i64 a1_3, .int .i64 a1_4, .int .i64 a1_5]] (by rfl) rfl rfl (by (try simp only [YP, List.map_cons, List.map_nil]); first | done | rfl | (simp only [YR, YQ]; rfl)) ?_
            with_reducible refine (height_Level.calls kj51 a1_0 a1_1 a1_2 a1_3 a1_4 a1_5 t372 t373 t374 _ A135.out).mono ?_
            rintro e w237 ⟨rfl, hb⟩
            refine ⟨_, rfl, ?_⟩
            have n0_ := YL (YK (g := gb354) (by (with_reducible repeat (first | refine YF ?_ _ | refine YG ?_ | refine YH ?_ _)); exact BK354.out) hb)
            have n1_ := YL (YK (g := gb355) (by (with_reducible repeat (first | refine YF ?_ _ | refine YG ?_ | refine YH ?_ _)); exact BK355.out) hb)
            have n2_ := YL (YK (g := gb356) (by (with_reducible repeat (first | refine YF ?_ _ | refine YG ?_ | refine YH ?_ _)); exact BK356.out) hb)
            have n3_ := YL (YD (by repeat (first | (with_reducible first | exact HB.out | apply YA | apply YB | apply YC) | exact HB.out)) hb)
            clear BK354; clear BK355; clear BK356; clear HB; have BK354 := n0_; have BK355 := n1_; have BK356 := n2_; have HB := n3_; clear n0_ n1_ n2_ n3_; (try clear hb); (try clear hb2); (try clear hk); (try clear hi)
            refine hK.out _ _ ⟨(YI BK355.out 0).trans rfl, (YI BK355.out 1).trans rfl, (YI BK355.out 2).trans rfl, (YI BK355.out 3).trans rfl, (YI BK355.out 4).trans rfl, (YI BK355.out 5).trans rfl, (YI BK354.out 0).trans rfl, (YI BK354.out 1).trans rfl, (YI BK354.out 2).trans rfl, (YI BK354.out 3).trans rfl, (YI BK354.out 4).trans rfl, (YI BK354.out 5).trans rfl⟩ (fun hHeld => ?_)
            clear hK K
            refine norm_ (a' := ?_) ?_ ?_
            rotate_left
            · show Act.put _ (some 75) _ = _
              simp only [Act.put, YM, YN, YO, i64_w, i32_w]
              rfl
            refine one_ (i := 3) (N := some 77) #[true, true, true, true, false, false] rfl rfl (by kernel_rfl) (by decide) (fun K hK => ?_)
            refine goes_ Try.func16 (by kernel_rfl) rfl #[.agg #[.bool a0_0, .int .i64 a0_1, .int .i64 a0_2, .int .i64 a0_3, .int .i64 a0_4, .int .i64 a0_5]] (by rfl) rfl rfl (by (try simp only [YP, List.map_cons, List.map_nil]); first | done | rfl | (simp only [YR, YQ]; rfl)) ?_
            with_reducible refine (height_Level.calls kj51 a0_0 a0_1 a0_2 a0_3 a0_4 a0_5 t375 t376 t377 _ A136.out).mono ?_
            rintro e w238 ⟨rfl, hb⟩
            refine ⟨_, rfl, ?_⟩
            have n0_ := YL (YK (g := gb354) (by (with_reducible repeat (first | refine YF ?_ _ | refine YG ?_ | refine YH ?_ _)); exact BK354.out) hb)
            have n1_ := YL (YK (g := gb355) (by (with_reducible repeat (first | refine YF ?_ _ | refine YG ?_ | refine YH ?_ _)); exact BK355.out) hb)
            have n2_ := YL (YK (g := gb356) (by (with_reducible repeat (first | refine YF ?_ _ | refine YG ?_ | refine YH ?_ _)); exact BK356.out) hb)
            have n3_ := YL (YD (by repeat (first | (with_reducible first | exact HB.out | apply YA | apply YB | apply YC) | exact HB.out)) hb)
            clear BK354; clear BK355; clear BK356; clear HB; have BK354 := n0_; have BK355 := n1_; have BK356 := n2_; have HB := n3_; clear n0_ n1_ n2_ n3_; (try clear hb); (try clear hb2); (try clear hk); (try clear hi)
            refine hK.out _ _ ⟨(YI BK355.out 0).trans rfl, (YI BK355.out 1).trans rfl, (YI BK355.out 2).trans rfl, (YI BK355.out 3).trans rfl, (YI BK355.out 4).trans rfl, (YI BK355.out 5).trans rfl, (YI BK354.out 0).trans rfl, (YI BK354.out 1).trans rfl, (YI BK354.out 2).trans rfl, (YI BK354.out 3).trans rfl, (YI BK354.out 4).trans rfl, (YI BK354.out 5).trans rfl⟩ (fun hHeld => ?_)
            clear hK K
            refine norm_ (a' := ?_) ?_ ?_
            rotate_left
            · show Act.put _ (some 77) _ = _
              simp only [Act.put, YM, YN, YO, i64_w, i32_w]
              rfl
            refine one_ (i := 4) (N := some 78) #[true, true, true, true, true, false] rfl rfl (by kernel_rfl) (by decide) (fun K hK => ?_)
            refine goes_ Try.func18 (by kernel_rfl) rfl #[.agg #[.int .i64 t372, .int .i64 t373, .int .i64 t374], .agg #[.int .i64 t375, .int .i64 t376, .int .i64 t377]] (by rfl) rfl rfl (by (try simp only [YP, List.map_cons, List.map_nil]); first | done | rfl | (simp only [YR, YQ]; rfl)) ?_
            with_reducible refine (height_Order.calls kj51 t372 t373 t374 t375 t376 t377 t378 _ A137.out).mono ?_
            rintro e w239 ⟨rfl, hb⟩
            refine ⟨_, rfl, ?_⟩
            have n0_ := YL (YK (g := gb354) (by (with_reducible repeat (first | refine YF ?_ _ | refine YG ?_ | refine YH ?_ _)); exact BK354.out) hb)
            have n1_ := YL (YK (g := gb355) (by (with_reducible repeat (first | refine YF ?_ _ | refine YG ?_ | refine YH ?_ _)); exact BK355.out) hb)
            have n2_ := YL (YK (g := gb356) (by (with_reducible repeat (first | refine YF ?_ _ | refine YG ?_ | refine YH ?_ _)); exact BK356.out) hb)
            have n3_ := YL (YD (by repeat (first | (with_reducible first | exact HB.out | apply YA | apply YB | apply YC) | exact HB.out)) hb)
            clear BK354; clear BK355; clear BK356; clear HB; have BK354 := n0_; have BK355 := n1_; have BK356 := n2_; have HB := n3_; clear n0_ n1_ n2_ n3_; (try clear hb); (try clear hb2); (try clear hk); (try clear hi)
            refine hK.out _ _ ⟨(YI BK355.out 0).trans rfl, (YI BK355.out 1).trans rfl, (YI BK355.out 2).trans rfl, (YI BK355.out 3).trans rfl, (YI BK355.out 4).trans rfl, (YI BK355.out 5).trans rfl, (YI BK354.out 0).trans rfl, (YI BK354.out 1).trans rfl, (YI BK354.out 2).trans rfl, (YI BK354.out 3).trans rfl, (YI BK354.out 4).trans rfl, (YI BK354.out 5).trans rfl⟩ (fun hHeld => ?_)
            clear hK K
            refine norm_ (a' := ?_) ?_ ?_
            rotate_left
            · show Act.put _ (some 78) _ = _
              simp only [Act.put, YM, YN, YO, i64_w, i32_w]
              rfl
            refine pure_ (i := 5) (N := some 11) (v := ?_) (a' := ?_) #[true, true, true, true, true, true] rfl rfl (by kernel_rfl) (fun _ _ _ h => h) (Or.inl ⟨by rfl, ?_⟩) ?_ ?_
            rotate_left
            · intro w'
              go_simp; with_reducible rfl
            rotate_left
            · simp only [Act.put, YM, YN, YO, i64_w, i32_w]
              rfl
            refine done_ (by kernel_rfl) ?_
            try go_wp2_with (first | ((with_reducible refine gate_callee (f := 20) rfl ?_); refine goesL_ (some 79) rfl rfl Try.func20 (by kernel_rfl) rfl #[] rfl (by (try simp only [YP, List.map_cons, List.map_nil]); first | done | rfl | (simp only [YR, YQ]; rfl)) ?_; (with_reducible refine (thalweglaw02_awake.calls kj51  true _ A138.out).mono ?_); rintro e w240 ⟨rfl, hb⟩; refine ⟨_, rfl, ?_⟩; have n0_ := YL (YK (g := gb354) (by (with_reducible repeat (first | refine YF ?_ _ | refine YG ?_ | refine YH ?_ _)); exact BK354.out) hb); have n1_ := YL (YK (g := gb355) (by (with_reducible repeat (first | refine YF ?_ _ | refine YG ?_ | refine YH ?_ _)); exact BK355.out) hb); have n2_ := YL (YK (g := gb356) (by (with_reducible repeat (first | refine YF ?_ _ | refine YG ?_ | refine YH ?_ _)); exact BK356.out) hb); have n3_ := YL (YD (by repeat (first | (with_reducible first | exact HB.out | apply YA | apply YB | apply YC) | exact HB.out)) hb); clear BK354; clear BK355; clear BK356; clear HB; have BK354 := n0_; have BK355 := n1_; have BK356 := n2_; have HB := n3_; clear n0_ n1_ n2_ n3_; (try clear hb); (try clear hb2); (try clear hk); (try clear hi)))
            go_ret
            exact ⟨by first | rfl | (simp [errW_none, errW_some] <;> rfl) | (simp [*, errW_none, errW_some] <;> rfl), by repeat (first | (with_reducible first | exact HB.out | apply YA | apply YB | apply YC) | exact HB.out)⟩
          replace c139 := Bool.eq_false_iff.mpr c139
          subst c139
          have H1 : (none) = some r := by rw [if_neg (show ¬ (false = true) by decide)] at H; exact H
          clear H
          have H := H1
          clear H1
          exact absurd H (by simp)

end Go.Proofs.Ytjeahmlahkngaaa.P
